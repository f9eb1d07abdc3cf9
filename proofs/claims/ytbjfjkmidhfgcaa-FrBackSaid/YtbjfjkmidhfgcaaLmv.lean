/- The walks of the document's sums and differences. Conditions: as each statement says. -/
import Derived.Test.YtbjfjkmidhfgcaaAuto
import Derived.Test.YtbjfjkmidhfgcaaPerm
import Derived.Test.YtbjfjkmidhfgcaaMore
import Derived.Test.YtbjfjkmidhfgcaaProg
import Derived.Test.YtbjfjkmidhfgcaaNum
import Derived.Test.YtbjfjkmidhfgcaaLmb
import Derived.Test.YtbjfjkmidhfgcaaLmd
import Derived.Test.YtbjfjkmidhfgcaaLmo
import Derived.Test.YtbjfjkmidhfgcaaScope
import Derived.Test.YtbjfjkmidhfgcaaJoin
import Derived.Test.YtbjfjkmidhfgcaaLma
import Derived.Test.YtbjfjkmidhfgcaaLmz
namespace Go.Proofs.Ytbjfjkmidhfgcaa.L
open Go Go.Proofs
set_option maxRecDepth 100000
attribute [local irreducible] Code.wp wpList Af bodyPost L.Go
open Num
attribute [local simp] D_len octs_len

theorem at3_spec (s : Value) (xs : List Nat) (i : Nat) (_ : xs.length < 4294967296) :
    Spec Try.prog 70 [s, N .i64 i] (fun w => Rd w s (xs.map (N .u64))) [] (IsV (N .u64 (xs.getD i 0))) := by
  refine mk_spec Try.func70 rfl rfl rfl fun w hr => ?_
  have hr := RdC.mk0 hr
  repeat (first
    |refine Z01 ?_|refine Z02 ?_|refine Z03 ?_|refine Z04 ?_|refine Z05 ?_|refine Z06 ?_|refine Z07 ?_|refine Z08 ?_|refine Z09 ?_|refine Z10 ?_|refine Z11 ?_
    |refine Z12 ?_|refine Z13 ?_|refine Z14 ?_|refine Z17 ?_|refine Z18 ?_|refine Z20 ?_|refine Z21 ?_|refine Z22 ?_|refine Z23 ?_|refine Z24 ?_|refine Z25 ?_
    |refine Z26 ?_|refine Z27 ?_|refine Z28 ?_|refine Z58 ?_|refine Z59 ?_|refine Z67 ?_)
  refine st_cond (by rfl) (fun h => ?_) (fun h => ?_)
  · repeat (first
      |refine Z01 ?_|refine Z02 ?_|refine Z03 ?_|refine Z04 ?_|refine Z05 ?_|refine Z06 ?_|refine Z07 ?_|refine Z08 ?_|refine Z09 ?_|refine Z10 ?_|refine Z11 ?_
      |refine Z12 ?_|refine Z13 ?_|refine Z14 ?_|refine Z17 ?_|refine Z18 ?_|refine Z20 ?_|refine Z21 ?_|refine Z22 ?_|refine Z23 ?_|refine Z24 ?_|refine Z25 ?_
      |refine Z26 ?_|refine Z27 ?_|refine Z28 ?_|refine Z58 ?_|refine Z59 ?_|refine Z67 ?_)
    refine Ze1 fun _ hw => post_of hw SubW.nil ⟨?_, rfl⟩
    rfl
  · repeat (first
      |refine Z01 ?_|refine Z02 ?_|refine Z03 ?_|refine Z04 ?_|refine Z05 ?_|refine Z06 ?_|refine Z07 ?_|refine Z08 ?_|refine Z09 ?_|refine Z10 ?_|refine Z11 ?_
      |refine Z12 ?_|refine Z13 ?_|refine Z14 ?_|refine Z17 ?_|refine Z18 ?_|refine Z20 ?_|refine Z21 ?_|refine Z22 ?_|refine Z23 ?_|refine Z24 ?_|refine Z25 ?_
      |refine Z26 ?_|refine Z27 ?_|refine Z28 ?_|refine Z58 ?_|refine Z59 ?_|refine Z67 ?_)
    refine Ze1 fun _ hw => post_of hw SubW.nil ⟨?_, rfl⟩
    rw [getD_out (by omega)]
theorem more3_spec (a b : Nat) :
    Spec Try.prog 74 [N .i64 a, N .i64 b] NoPre [] (IsV (N .i64 (max a b))) := by
  refine mk_spec Try.func74 rfl rfl rfl fun w hr => ?_
  repeat (first
    |refine Z01 ?_|refine Z02 ?_|refine Z03 ?_|refine Z04 ?_|refine Z05 ?_|refine Z06 ?_|refine Z07 ?_|refine Z08 ?_|refine Z09 ?_|refine Z10 ?_|refine Z11 ?_
    |refine Z12 ?_|refine Z13 ?_|refine Z14 ?_|refine Z17 ?_|refine Z18 ?_)
  refine st_cond (by rfl) (fun h => ?_) (fun h => ?_)
  · repeat (first
      |refine Z01 ?_|refine Z02 ?_|refine Z03 ?_|refine Z04 ?_|refine Z05 ?_|refine Z06 ?_|refine Z07 ?_|refine Z08 ?_|refine Z09 ?_|refine Z10 ?_|refine Z11 ?_
      |refine Z12 ?_|refine Z13 ?_|refine Z14 ?_|refine Z17 ?_|refine Z18 ?_)
    refine Ze1 fun _ hw => post_of hw SubW.nil ⟨?_, rfl⟩
    rw [Nat.max_eq_left (by omega)]
  · repeat (first
      |refine Z01 ?_|refine Z02 ?_|refine Z03 ?_|refine Z04 ?_|refine Z05 ?_|refine Z06 ?_|refine Z07 ?_|refine Z08 ?_|refine Z09 ?_|refine Z10 ?_|refine Z11 ?_
      |refine Z12 ?_|refine Z13 ?_|refine Z14 ?_|refine Z17 ?_|refine Z18 ?_)
    refine Ze1 fun _ hw => post_of hw SubW.nil ⟨?_, rfl⟩
    rw [Nat.max_eq_right (by omega)]

theorem addg1 (x y c : Nat) : ((x + y) % 18446744073709551616 + c) % 18446744073709551616 = (addg x y c).1 := by unfold addg; omega
theorem addg2 {x y c : Nat} (hx : x < 18446744073709551616) (hy : y < 18446744073709551616) (hc : c ≤ 1) (h : (x + y) % 18446744073709551616 < x ∨ ((x + y) % 18446744073709551616 + c) % 18446744073709551616 < (x + y) % 18446744073709551616) : (addg x y c).2 = 1 := by unfold addg; omega
theorem addg3 {x y c : Nat} (hx : x < 18446744073709551616) (hy : y < 18446744073709551616) (hc : c ≤ 1) (h : ¬ (x + y) % 18446744073709551616 < x) (h' : ¬ ((x + y) % 18446744073709551616 + c) % 18446744073709551616 < (x + y) % 18446744073709551616) : (addg x y c).2 = 0 := by unfold addg; omega

set_option maxHeartbeats 1000000 in
theorem add3_spec (s t : Value) (xs ys : List Nat) (hx : Lt 18446744073709551616 xs) (hy : Lt 18446744073709551616 ys) (hl1 : xs.length < 16777216) (hl2 : ys.length < 16777216) :
    Spec Try.prog 28 [s, t] (fun w => Rd w s (xs.map (N .u64)) ∧ Rd w t (ys.map (N .u64))) []
      (fun v Wr => ∃ u, v = .tuple [u, N .u64 ((V xs + V ys) / W ^ max xs.length ys.length)].toArray ∧ Wr = [.sl u ((D (max xs.length ys.length) (V xs + V ys)).map (N .u64)) 30]) := by
  refine mk_spec Try.func28 rfl rfl rfl fun w hr => ?_
  have hr1 := RdC.mk0 hr.1
  have hr2 := RdC.mk0 hr.2
  obtain ⟨n, hn⟩ : ∃ n, n = max xs.length ys.length := ⟨_, rfl⟩
  have hend := crun_add_end hx hy (n := n) (by omega) (by omega)
  rw [← hn]
  have hnb : n < 16777216 := by omega
  repeat (first
    |refine Z01 ?_|refine Z02 ?_|refine Z03 ?_|refine Z04 ?_|refine Z05 ?_|refine Z06 ?_|refine Z07 ?_|refine Z08 ?_|refine Z09 ?_|refine Z10 ?_|refine Z11 ?_
    |refine Z12 ?_|refine Z13 ?_|refine Z14 ?_|refine Z15 ?_|refine Z17 ?_|refine Z18 ?_|refine Z20 ?_|refine Z21 ?_|refine Z33 ?_|refine Z49 ?_|refine Z50 ?_
    |refine Z51 ?_|refine Z52 ?_|refine Z53 ?_|refine Z58 ?_|refine Z59 ?_|refine Z70 ?_|refine Z84 fun _ => ?_|refine Z85 fun _ => ?_)
  refine st_own_nil 30 ?_
  refine st_loop (ι := Nat × Value) (fun p => p.1 ≤ n) (fun p => [(0, s), (1, t), (6, p.2), (7, N .u64 (crun addg xs ys p.1).2), (8, N .i64 p.1)])
    (fun p => [.sl p.2 ((crun addg xs ys p.1).1.map (N .u64)) 30]) (fun p => n - p.1) (0, .slice none 0 0) (Nat.zero_le _) (by rw [crun_0]; exact (by repeat (first | apply subL.nil | refine subL.cons (by rfl) ?_))) (by rw [crun_0]; exact (by repeat (first | apply SubW.nil | refine SubW.cons (by repeat (first | apply Find.here | apply Find.there)) ?_))) ?_
  rintro ⟨i, u⟩ hi
  dsimp only at hi ⊢
  have hcl := crun_len addg xs ys i
  have hc1 := crun_le addg_le hx hy i
  have e1 := crun_fst addg xs ys i
  have e2 := crun_snd addg xs ys i
  have hxi := hx.getD (by decide) i
  have hyi := hy.getD (by decide) i
  repeat (first
    |(refine st_callV (by rfl) (by rfl) (by rfl) (more3_spec _ _) (fun _ _ => trivial) (by rfl) ?_)|(rw [← hn])|refine Z01 ?_|refine Z02 ?_|refine Z03 ?_|refine Z04 ?_
    |refine Z05 ?_|refine Z06 ?_|refine Z07 ?_|refine Z08 ?_|refine Z09 ?_|refine Z10 ?_|refine Z11 ?_|refine Z12 ?_|refine Z13 ?_|refine Z14 ?_|refine Z15 ?_
    |refine Z17 ?_|refine Z18 ?_|refine Z20 ?_|refine Z21 ?_|refine Z33 ?_|refine Z49 ?_|refine Z50 ?_|refine Z51 ?_|refine Z52 ?_|refine Z53 ?_|refine Z58 ?_
    |refine Z59 ?_|refine Z70 ?_|refine Z84 fun _ => ?_|refine Z85 fun _ => ?_)
  refine st_cond (by rfl) (fun h => ?_) (fun h => ?_)
  · by_cases h1 : (xs.getD i 0 + ys.getD i 0) % 18446744073709551616 < xs.getD i 0
    · have e3 := addg2 hxi hyi hc1 (.inl h1)
      repeat (first
        |(refine st_callV (by rfl) (by rfl) (by rfl) (at3_spec s xs i (by omega)) (RdW.old hr1) (by rfl) ?_)
        |(refine st_callV (by rfl) (by rfl) (by rfl) (at3_spec t ys i (by omega)) (RdW.old hr2) (by rfl) ?_)|(rw [decide_eq_true h1])|(rw [decide_eq_true h1])
        |(refine st_buildSliceN (vs := [((xs.getD i 0 + ys.getD i 0) % 18446744073709551616 + (crun addg xs ys i).2) % 18446744073709551616]) (kk := .u64) (by rfl) (by rfl) (by rfl) (by rfl) (by rfl) (by rfl) (by rfl) (by rfl) fun _ => ?_)
        |refine Z01 ?_|refine Z02 ?_|refine Z03 ?_|refine Z04 ?_|refine Z05 ?_|refine Z06 ?_|refine Z07 ?_|refine Z08 ?_|refine Z09 ?_|refine Z10 ?_|refine Z11 ?_
        |refine Z12 ?_|refine Z13 ?_|refine Z14 ?_|refine Z15 ?_|refine Z17 ?_|refine Z18 ?_|refine Z20 ?_|refine Z21 ?_|refine Z33 ?_|refine Z49 ?_|refine Z50 ?_
        |refine Z51 ?_|refine Z52 ?_|refine Z53 ?_|refine Z58 ?_|refine Z59 ?_|refine Z70 ?_|refine Z84 fun _ => ?_|refine Z85 fun _ => ?_)
      rw [addg1, ← e1]
      refine st_round (i + 1, _) (by omega) (by omega) (by rw [e2, e3]; exact (by repeat (first | apply subL.nil | refine subL.cons (by rfl) ?_))) ?_
      exact (by repeat (first | apply SubW.nil | refine SubW.cons (by repeat (first | apply Find.here | apply Find.there)) ?_))
    · by_cases h2 : ((xs.getD i 0 + ys.getD i 0) % 18446744073709551616 + (crun addg xs ys i).2) % 18446744073709551616 < (xs.getD i 0 + ys.getD i 0) % 18446744073709551616
      · have e3 := addg2 hxi hyi hc1 (.inr h2)
        repeat (first
          |(refine st_callV (by rfl) (by rfl) (by rfl) (at3_spec s xs i (by omega)) (RdW.old hr1) (by rfl) ?_)
          |(refine st_callV (by rfl) (by rfl) (by rfl) (at3_spec t ys i (by omega)) (RdW.old hr2) (by rfl) ?_)|(rw [decide_eq_false h1])|(rw [decide_eq_true h2])
          |(refine st_buildSliceN (vs := [((xs.getD i 0 + ys.getD i 0) % 18446744073709551616 + (crun addg xs ys i).2) % 18446744073709551616]) (kk := .u64) (by rfl) (by rfl) (by rfl) (by rfl) (by rfl) (by rfl) (by rfl) (by rfl) fun _ => ?_)
          |refine Z01 ?_|refine Z02 ?_|refine Z03 ?_|refine Z04 ?_|refine Z05 ?_|refine Z06 ?_|refine Z07 ?_|refine Z08 ?_|refine Z09 ?_|refine Z10 ?_|refine Z11 ?_
          |refine Z12 ?_|refine Z13 ?_|refine Z14 ?_|refine Z15 ?_|refine Z17 ?_|refine Z18 ?_|refine Z20 ?_|refine Z21 ?_|refine Z33 ?_|refine Z49 ?_|refine Z50 ?_
          |refine Z51 ?_|refine Z52 ?_|refine Z53 ?_|refine Z58 ?_|refine Z59 ?_|refine Z70 ?_|refine Z84 fun _ => ?_|refine Z85 fun _ => ?_)
        rw [addg1, ← e1]
        refine st_round (i + 1, _) (by omega) (by omega) (by rw [e2, e3]; exact (by repeat (first | apply subL.nil | refine subL.cons (by rfl) ?_))) ?_
        exact (by repeat (first | apply SubW.nil | refine SubW.cons (by repeat (first | apply Find.here | apply Find.there)) ?_))
      · have e3 := addg3 hxi hyi hc1 h1 h2
        repeat (first
          |(refine st_callV (by rfl) (by rfl) (by rfl) (at3_spec s xs i (by omega)) (RdW.old hr1) (by rfl) ?_)
          |(refine st_callV (by rfl) (by rfl) (by rfl) (at3_spec t ys i (by omega)) (RdW.old hr2) (by rfl) ?_)|(rw [decide_eq_false h1])|(rw [decide_eq_false h2])
          |(refine st_buildSliceN (vs := [((xs.getD i 0 + ys.getD i 0) % 18446744073709551616 + (crun addg xs ys i).2) % 18446744073709551616]) (kk := .u64) (by rfl) (by rfl) (by rfl) (by rfl) (by rfl) (by rfl) (by rfl) (by rfl) fun _ => ?_)
          |refine Z01 ?_|refine Z02 ?_|refine Z03 ?_|refine Z04 ?_|refine Z05 ?_|refine Z06 ?_|refine Z07 ?_|refine Z08 ?_|refine Z09 ?_|refine Z10 ?_|refine Z11 ?_
          |refine Z12 ?_|refine Z13 ?_|refine Z14 ?_|refine Z15 ?_|refine Z17 ?_|refine Z18 ?_|refine Z20 ?_|refine Z21 ?_|refine Z33 ?_|refine Z49 ?_|refine Z50 ?_
          |refine Z51 ?_|refine Z52 ?_|refine Z53 ?_|refine Z58 ?_|refine Z59 ?_|refine Z70 ?_|refine Z84 fun _ => ?_|refine Z85 fun _ => ?_)
        rw [addg1, ← e1]
        refine st_round (i + 1, _) (by omega) (by omega) (by rw [e2, e3]; exact (by repeat (first | apply subL.nil | refine subL.cons (by rfl) ?_))) ?_
        exact (by repeat (first | apply SubW.nil | refine SubW.cons (by repeat (first | apply Find.here | apply Find.there)) ?_))
  · have hie : i = n := by omega
    subst hie
    rw [hend]
    dsimp only
    repeat (first
      |refine Z01 ?_|refine Z02 ?_|refine Z03 ?_|refine Z04 ?_|refine Z05 ?_|refine Z06 ?_|refine Z07 ?_|refine Z08 ?_|refine Z09 ?_|refine Z10 ?_|refine Z11 ?_
      |refine Z12 ?_|refine Z13 ?_|refine Z14 ?_|refine Z15 ?_|refine Z17 ?_|refine Z18 ?_|refine Z20 ?_|refine Z21 ?_|refine Z33 ?_|refine Z49 ?_|refine Z50 ?_
      |refine Z51 ?_|refine Z52 ?_|refine Z53 ?_|refine Z58 ?_|refine Z59 ?_|refine Z70 ?_|refine Z84 fun _ => ?_|refine Z85 fun _ => ?_)
    exact Ze2 fun _ hw => post_of hw (Wout := [.sl _ ((D i (V xs + V ys)).map (N .u64)) 30]) (by exact (by repeat (first | apply SubW.nil | refine SubW.cons (by repeat (first | apply Find.here | apply Find.there)) ?_))) ⟨_, rfl, rfl⟩

theorem subg1 {x y c : Nat} (hx : x < 18446744073709551616) (hy : y < 18446744073709551616) (hc : c ≤ 1) : ((x + (18446744073709551616 - y % 18446744073709551616)) % 18446744073709551616 + (18446744073709551616 - c % 18446744073709551616)) % 18446744073709551616 = (subg x y c).1 := by unfold subg; omega
theorem subg2 {x y c : Nat} (h : x < y ∨ (x = y ∧ c = 1)) : (subg x y c).2 = 1 := by unfold subg; exact if_pos (by omega)
theorem subg3 {x y c : Nat} (hc : c ≤ 1) (h : ¬ x < y) (h' : ¬ (x = y ∧ c = 1)) : (subg x y c).2 = 0 := by unfold subg; exact if_neg (by omega)
set_option maxHeartbeats 1000000 in
theorem sub3_spec (s t : Value) (xs ys : List Nat) (hx : Lt 18446744073709551616 xs) (hy : Lt 18446744073709551616 ys) (hl1 : xs.length < 16777216) (hl2 : ys.length < 16777216) :
    Spec Try.prog 30 [s, t] (fun w => Rd w s (xs.map (N .u64)) ∧ Rd w t (ys.map (N .u64))) []
      (fun v Wr => ∃ u, v = .tuple [u, N .u64 (bwn (V xs) (V ys))].toArray ∧ Wr = [.sl u ((D (max xs.length ys.length) (sbn (max xs.length ys.length) (V xs) (V ys))).map (N .u64)) 30]) := by
  refine mk_spec Try.func30 rfl rfl rfl fun w hr => ?_
  have hr1 := RdC.mk0 hr.1
  have hr2 := RdC.mk0 hr.2
  obtain ⟨n, hn⟩ : ∃ n, n = max xs.length ys.length := ⟨_, rfl⟩
  have hend := crun_sub_end hx hy (n := n) (by omega) (by omega)
  rw [← hn]
  have hnb : n < 16777216 := by omega
  repeat (first
    |refine Z01 ?_|refine Z02 ?_|refine Z03 ?_|refine Z04 ?_|refine Z05 ?_|refine Z06 ?_|refine Z07 ?_|refine Z08 ?_|refine Z09 ?_|refine Z10 ?_|refine Z11 ?_
    |refine Z12 ?_|refine Z13 ?_|refine Z14 ?_|refine Z15 ?_|refine Z17 ?_|refine Z18 ?_|refine Z20 ?_|refine Z21 ?_|refine Z34 ?_|refine Z49 ?_|refine Z50 ?_
    |refine Z51 ?_|refine Z52 ?_|refine Z53 ?_|refine Z58 ?_|refine Z59 ?_|refine Z70 ?_|refine Z84 fun _ => ?_|refine Z85 fun _ => ?_)
  refine st_own_nil 30 ?_
  refine st_loop (ι := Nat × Value) (fun p => p.1 ≤ n) (fun p => [(0, s), (1, t), (6, p.2), (7, N .u64 (crun subg xs ys p.1).2), (8, N .i64 p.1)])
    (fun p => [.sl p.2 ((crun subg xs ys p.1).1.map (N .u64)) 30]) (fun p => n - p.1) (0, .slice none 0 0) (Nat.zero_le _) (by rw [crun_0]; exact (by repeat (first | apply subL.nil | refine subL.cons (by rfl) ?_))) (by rw [crun_0]; exact (by repeat (first | apply SubW.nil | refine SubW.cons (by repeat (first | apply Find.here | apply Find.there)) ?_))) ?_
  rintro ⟨i, u⟩ hi
  dsimp only at hi ⊢
  have hcl := crun_len subg xs ys i
  have hc1 := crun_le subg_le hx hy i
  have e1 := crun_fst subg xs ys i
  have e2 := crun_snd subg xs ys i
  have hxi := hx.getD (by decide) i
  have hyi := hy.getD (by decide) i
  repeat (first
    |(refine st_callV (by rfl) (by rfl) (by rfl) (more3_spec _ _) (fun _ _ => trivial) (by rfl) ?_)|(rw [← hn])|refine Z01 ?_|refine Z02 ?_|refine Z03 ?_|refine Z04 ?_
    |refine Z05 ?_|refine Z06 ?_|refine Z07 ?_|refine Z08 ?_|refine Z09 ?_|refine Z10 ?_|refine Z11 ?_|refine Z12 ?_|refine Z13 ?_|refine Z14 ?_|refine Z15 ?_
    |refine Z17 ?_|refine Z18 ?_|refine Z20 ?_|refine Z21 ?_|refine Z34 ?_|refine Z49 ?_|refine Z50 ?_|refine Z51 ?_|refine Z52 ?_|refine Z53 ?_|refine Z58 ?_
    |refine Z59 ?_|refine Z70 ?_|refine Z84 fun _ => ?_|refine Z85 fun _ => ?_)
  refine st_cond (by rfl) (fun h => ?_) (fun h => ?_)
  · by_cases h1 : xs.getD i 0 < ys.getD i 0
    · have e3 := subg2 (c := (crun subg xs ys i).2) (.inl h1)
      repeat (first
        |(refine st_callV (by rfl) (by rfl) (by rfl) (at3_spec s xs i (by omega)) (RdW.old hr1) (by rfl) ?_)
        |(refine st_callV (by rfl) (by rfl) (by rfl) (at3_spec t ys i (by omega)) (RdW.old hr2) (by rfl) ?_)|(rw [decide_eq_true h1])|(rw [decide_eq_true h1])
        |(rw [decide_eq_true h1])
        |(refine st_buildSliceN (vs := [((xs.getD i 0 + (18446744073709551616 - ys.getD i 0 % 18446744073709551616)) % 18446744073709551616 + (18446744073709551616 - (crun subg xs ys i).2 % 18446744073709551616)) % 18446744073709551616]) (kk := .u64) (by rfl) (by rfl) (by rfl) (by rfl) (by rfl) (by rfl) (by rfl) (by rfl) fun _ => ?_)
        |refine Z01 ?_|refine Z02 ?_|refine Z03 ?_|refine Z04 ?_|refine Z05 ?_|refine Z06 ?_|refine Z07 ?_|refine Z08 ?_|refine Z09 ?_|refine Z10 ?_|refine Z11 ?_
        |refine Z12 ?_|refine Z13 ?_|refine Z14 ?_|refine Z15 ?_|refine Z17 ?_|refine Z18 ?_|refine Z20 ?_|refine Z21 ?_|refine Z34 ?_|refine Z49 ?_|refine Z50 ?_
        |refine Z51 ?_|refine Z52 ?_|refine Z53 ?_|refine Z58 ?_|refine Z59 ?_|refine Z70 ?_|refine Z84 fun _ => ?_|refine Z85 fun _ => ?_)
      rw [subg1 hxi hyi hc1, ← e1]
      refine st_round (i + 1, _) (by omega) (by omega) (by rw [e2, e3]; exact (by repeat (first | apply subL.nil | refine subL.cons (by rfl) ?_))) ?_
      exact (by repeat (first | apply SubW.nil | refine SubW.cons (by repeat (first | apply Find.here | apply Find.there)) ?_))
    · by_cases h2 : xs.getD i 0 = ys.getD i 0
      · by_cases h3 : (crun subg xs ys i).2 = 1
        · have e3 := subg2 (.inr ⟨h2, h3⟩)
          repeat (first
            |(refine st_callV (by rfl) (by rfl) (by rfl) (at3_spec s xs i (by omega)) (RdW.old hr1) (by rfl) ?_)
            |(refine st_callV (by rfl) (by rfl) (by rfl) (at3_spec t ys i (by omega)) (RdW.old hr2) (by rfl) ?_)|(rw [decide_eq_false h1])|(rw [decide_eq_true h2])
            |(rw [decide_eq_true h3])
            |(refine st_buildSliceN (vs := [((xs.getD i 0 + (18446744073709551616 - ys.getD i 0 % 18446744073709551616)) % 18446744073709551616 + (18446744073709551616 - (crun subg xs ys i).2 % 18446744073709551616)) % 18446744073709551616]) (kk := .u64) (by rfl) (by rfl) (by rfl) (by rfl) (by rfl) (by rfl) (by rfl) (by rfl) fun _ => ?_)
            |refine Z01 ?_|refine Z02 ?_|refine Z03 ?_|refine Z04 ?_|refine Z05 ?_|refine Z06 ?_|refine Z07 ?_|refine Z08 ?_|refine Z09 ?_|refine Z10 ?_|refine Z11 ?_
            |refine Z12 ?_|refine Z13 ?_|refine Z14 ?_|refine Z15 ?_|refine Z17 ?_|refine Z18 ?_|refine Z20 ?_|refine Z21 ?_|refine Z34 ?_|refine Z49 ?_|refine Z50 ?_
            |refine Z51 ?_|refine Z52 ?_|refine Z53 ?_|refine Z58 ?_|refine Z59 ?_|refine Z70 ?_|refine Z84 fun _ => ?_|refine Z85 fun _ => ?_)
          rw [subg1 hxi hyi hc1, ← e1]
          refine st_round (i + 1, _) (by omega) (by omega) (by rw [e2, e3]; exact (by repeat (first | apply subL.nil | refine subL.cons (by rfl) ?_))) ?_
          exact (by repeat (first | apply SubW.nil | refine SubW.cons (by repeat (first | apply Find.here | apply Find.there)) ?_))
        · have e3 := subg3 hc1 h1 (fun h => h3 h.2)
          repeat (first
            |(refine st_callV (by rfl) (by rfl) (by rfl) (at3_spec s xs i (by omega)) (RdW.old hr1) (by rfl) ?_)
            |(refine st_callV (by rfl) (by rfl) (by rfl) (at3_spec t ys i (by omega)) (RdW.old hr2) (by rfl) ?_)|(rw [decide_eq_false h1])|(rw [decide_eq_true h2])
            |(rw [decide_eq_false h3])
            |(refine st_buildSliceN (vs := [((xs.getD i 0 + (18446744073709551616 - ys.getD i 0 % 18446744073709551616)) % 18446744073709551616 + (18446744073709551616 - (crun subg xs ys i).2 % 18446744073709551616)) % 18446744073709551616]) (kk := .u64) (by rfl) (by rfl) (by rfl) (by rfl) (by rfl) (by rfl) (by rfl) (by rfl) fun _ => ?_)
            |refine Z01 ?_|refine Z02 ?_|refine Z03 ?_|refine Z04 ?_|refine Z05 ?_|refine Z06 ?_|refine Z07 ?_|refine Z08 ?_|refine Z09 ?_|refine Z10 ?_|refine Z11 ?_
            |refine Z12 ?_|refine Z13 ?_|refine Z14 ?_|refine Z15 ?_|refine Z17 ?_|refine Z18 ?_|refine Z20 ?_|refine Z21 ?_|refine Z34 ?_|refine Z49 ?_|refine Z50 ?_
            |refine Z51 ?_|refine Z52 ?_|refine Z53 ?_|refine Z58 ?_|refine Z59 ?_|refine Z70 ?_|refine Z84 fun _ => ?_|refine Z85 fun _ => ?_)
          rw [subg1 hxi hyi hc1, ← e1]
          refine st_round (i + 1, _) (by omega) (by omega) (by rw [e2, e3]; exact (by repeat (first | apply subL.nil | refine subL.cons (by rfl) ?_))) ?_
          exact (by repeat (first | apply SubW.nil | refine SubW.cons (by repeat (first | apply Find.here | apply Find.there)) ?_))
      · have e3 := subg3 hc1 h1 (fun h => h2 h.1)
        repeat (first
          |(refine st_callV (by rfl) (by rfl) (by rfl) (at3_spec s xs i (by omega)) (RdW.old hr1) (by rfl) ?_)
          |(refine st_callV (by rfl) (by rfl) (by rfl) (at3_spec t ys i (by omega)) (RdW.old hr2) (by rfl) ?_)|(rw [decide_eq_false h1])|(rw [decide_eq_false h2])
          |(rw [decide_eq_false h2])
          |(refine st_buildSliceN (vs := [((xs.getD i 0 + (18446744073709551616 - ys.getD i 0 % 18446744073709551616)) % 18446744073709551616 + (18446744073709551616 - (crun subg xs ys i).2 % 18446744073709551616)) % 18446744073709551616]) (kk := .u64) (by rfl) (by rfl) (by rfl) (by rfl) (by rfl) (by rfl) (by rfl) (by rfl) fun _ => ?_)
          |refine Z01 ?_|refine Z02 ?_|refine Z03 ?_|refine Z04 ?_|refine Z05 ?_|refine Z06 ?_|refine Z07 ?_|refine Z08 ?_|refine Z09 ?_|refine Z10 ?_|refine Z11 ?_
          |refine Z12 ?_|refine Z13 ?_|refine Z14 ?_|refine Z15 ?_|refine Z17 ?_|refine Z18 ?_|refine Z20 ?_|refine Z21 ?_|refine Z34 ?_|refine Z49 ?_|refine Z50 ?_
          |refine Z51 ?_|refine Z52 ?_|refine Z53 ?_|refine Z58 ?_|refine Z59 ?_|refine Z70 ?_|refine Z84 fun _ => ?_|refine Z85 fun _ => ?_)
        rw [subg1 hxi hyi hc1, ← e1]
        refine st_round (i + 1, _) (by omega) (by omega) (by rw [e2, e3]; exact (by repeat (first | apply subL.nil | refine subL.cons (by rfl) ?_))) ?_
        exact (by repeat (first | apply SubW.nil | refine SubW.cons (by repeat (first | apply Find.here | apply Find.there)) ?_))
  · have hie : i = n := by omega
    subst hie
    rw [hend]
    dsimp only
    repeat (first
      |refine Z01 ?_|refine Z02 ?_|refine Z03 ?_|refine Z04 ?_|refine Z05 ?_|refine Z06 ?_|refine Z07 ?_|refine Z08 ?_|refine Z09 ?_|refine Z10 ?_|refine Z11 ?_
      |refine Z12 ?_|refine Z13 ?_|refine Z14 ?_|refine Z15 ?_|refine Z17 ?_|refine Z18 ?_|refine Z20 ?_|refine Z21 ?_|refine Z34 ?_|refine Z49 ?_|refine Z50 ?_
      |refine Z51 ?_|refine Z52 ?_|refine Z53 ?_|refine Z58 ?_|refine Z59 ?_|refine Z70 ?_|refine Z84 fun _ => ?_|refine Z85 fun _ => ?_)
    exact Ze2 fun _ hw => post_of hw (Wout := [.sl _ ((D i (sbn i (V xs) (V ys))).map (N .u64)) 30]) (by exact (by repeat (first | apply SubW.nil | refine SubW.cons (by repeat (first | apply Find.here | apply Find.there)) ?_))) ⟨_, rfl, rfl⟩
end Go.Proofs.Ytbjfjkmidhfgcaa.L
