/- Numbers of many words: the walks of sums, differences, orders and products. Conditions: as each statement says. -/
import Derived.Test.YtbjfjkmidhfgcaaAuto
import Derived.Test.YtbjfjkmidhfgcaaPerm
import Derived.Test.YtbjfjkmidhfgcaaMore
import Derived.Test.YtbjfjkmidhfgcaaProg
import Derived.Test.YtbjfjkmidhfgcaaNum
import Derived.Test.YtbjfjkmidhfgcaaLmb
import Derived.Test.YtbjfjkmidhfgcaaLmd
import Derived.Test.YtbjfjkmidhfgcaaScope
namespace Go.Proofs.Ytbjfjkmidhfgcaa.L
open Go Go.Proofs
set_option maxRecDepth 100000
attribute [local irreducible] Code.wp wpList Af bodyPost L.Go
open Num

/-! ## Words -/
theorem add64X (x y c : Nat) (hc : c ≤ 1) : ExtV Try.prog 73 [N .u64 x, N .u64 y, N .u64 c] (.tuple [N .u64 ((x + y + c) % 18446744073709551616), N .u64 ((x + y + c) / 18446744073709551616)].toArray) :=
  ext_add64 Try.func73 (by kernel_rfl) (by kernel_rfl) (by kernel_rfl) (by kernel_rfl) x y c hc
theorem sub64X (x y c : Nat) (hc : c ≤ 1) : ExtV Try.prog 76 [N .u64 x, N .u64 y, N .u64 c] (.tuple [N .u64 ((x + 18446744073709551616 - y - c) % 18446744073709551616), N .u64 (if x < y + c then 1 else 0)].toArray) :=
  ext_sub64 Try.func76 (by kernel_rfl) (by kernel_rfl) (by kernel_rfl) (by kernel_rfl) x y c hc

theorem add64X0 (x y : Nat) : ExtV Try.prog 73 [N .u64 x, N .u64 y, N .u64 0] (.tuple [N .u64 ((x + y) % 18446744073709551616), N .u64 ((x + y) / 18446744073709551616)].toArray) := add64X x y 0 (by decide)

theorem and32 (x : Nat) : x % 18446744073709551616 &&& 4294967295 % 18446744073709551616 = x % 4294967296 := by
  have := Nat.and_two_pow_sub_one_eq_mod (x % 18446744073709551616) 32
  rw [show (4294967295 : Nat) % 18446744073709551616 = 2 ^ 32 - 1 from rfl, this]; omega
theorem shr32 (x : Nat) : x >>> 32 = x / 4294967296 := Nat.shiftRight_eq_div_pow x 32

set_option maxHeartbeats 1000000 in
theorem mul64_spec (x y : Nat) (hx : x < 18446744073709551616) (hy : y < 18446744073709551616) :
    Spec Try.prog 79 [N .u64 x, N .u64 y] NoPre [] (IsV (.tuple [N .u64 (x * y / 18446744073709551616), N .u64 (x * y % 18446744073709551616)].toArray)) := by
  refine mk_spec Try.func79 rfl rfl rfl fun w _ => ?_
  obtain ⟨h1, h2, h3, h4⟩ := mul64_hi x y hx hy
  have hxm : x % 18446744073709551616 = x := Nat.mod_eq_of_lt hx
  have hym : y % 18446744073709551616 = y := Nat.mod_eq_of_lt hy
  repeat (first
    |refine Z01 ?_|refine Z02 ?_|refine Z03 ?_|refine Z04 ?_|refine Z05 ?_|refine Z06 ?_|refine Z07 ?_|refine Z08 ?_|refine Z09 ?_|refine Z10 ?_|refine Z11 ?_
    |refine Z12 ?_|refine Z13 ?_|refine Z14 ?_|refine Z33 ?_|refine Z35 ?_|refine Z40 ?_|refine Z42 ?_)
  refine Ze2 fun _ hw => post_of hw SubW.nil ⟨?_, rfl⟩
  refine congrArg (fun z => Value.tuple [N .u64 z, N .u64 (x * y % 18446744073709551616)].toArray) ?_
  simp only [and32, shr32]
  have h5 : x * y / 18446744073709551616 < 18446744073709551616 := by have := mul_bound hx hy; omega
  exact mul64_mod h1 h2 h3 h4 h5

theorem at_spec (s : Value) (xs : List Nat) (i : Nat) (_ : xs.length < 4294967296) :
    Spec Try.prog 69 [s, N .i64 i] (fun w => Rd w s (xs.map (N .u64))) [] (IsV (N .u64 (xs.getD i 0))) := by
  refine mk_spec Try.func69 rfl rfl rfl fun w hr => ?_
  have hr := RdC.mk0 hr
  repeat (first
    |refine Z01 ?_|refine Z02 ?_|refine Z03 ?_|refine Z04 ?_|refine Z05 ?_|refine Z06 ?_|refine Z07 ?_|refine Z08 ?_|refine Z09 ?_|refine Z10 ?_|refine Z11 ?_
    |refine Z12 ?_|refine Z13 ?_|refine Z14 ?_|refine Z17 ?_|refine Z18 ?_|refine Z20 ?_|refine Z21 ?_|refine Z22 ?_|refine Z23 ?_|refine Z24 ?_|refine Z25 ?_
    |refine Z26 ?_|refine Z27 ?_|refine Z28 ?_|refine Z58 ?_|refine Z59 ?_|refine Z67 ?_)
  refine st_cond (by rfl) (fun h => ?_) (fun h => ?_)
  · repeat (first
      |refine Z01 ?_|refine Z02 ?_|refine Z03 ?_|refine Z04 ?_|refine Z05 ?_|refine Z06 ?_|refine Z07 ?_|refine Z08 ?_|refine Z09 ?_|refine Z10 ?_|refine Z11 ?_
      |refine Z12 ?_|refine Z13 ?_|refine Z14 ?_|refine Z17 ?_|refine Z18 ?_|refine Z20 ?_|refine Z21 ?_|refine Z22 ?_|refine Z23 ?_|refine Z24 ?_|refine Z25 ?_
      |refine Z26 ?_|refine Z27 ?_|refine Z28 ?_|refine Z58 ?_|refine Z59 ?_|refine Z67 ?_)
    refine Ze1 fun _ hw => post_of hw SubW.nil ⟨?_, rfl⟩
    rfl
  · repeat (first
      |refine Z01 ?_|refine Z02 ?_|refine Z03 ?_|refine Z04 ?_|refine Z05 ?_|refine Z06 ?_|refine Z07 ?_|refine Z08 ?_|refine Z09 ?_|refine Z10 ?_|refine Z11 ?_
      |refine Z12 ?_|refine Z13 ?_|refine Z14 ?_|refine Z17 ?_|refine Z18 ?_|refine Z20 ?_|refine Z21 ?_|refine Z22 ?_|refine Z23 ?_|refine Z24 ?_|refine Z25 ?_
      |refine Z26 ?_|refine Z27 ?_|refine Z28 ?_|refine Z58 ?_|refine Z59 ?_|refine Z67 ?_)
    refine Ze1 fun _ hw => post_of hw SubW.nil ⟨?_, rfl⟩
    rw [getD_out (by omega)]

theorem addc_spec (x y c : Nat) (hc : c ≤ 1) : Spec Try.prog 72 [N .u64 x, N .u64 y, N .u64 c] NoPre [] (IsV (.tuple [N .u64 (addg x y c).1, N .u64 (addg x y c).2].toArray)) := by
  refine mk_spec Try.func72 rfl rfl rfl fun w _ => ?_
  repeat (first
    |(refine st_callX (by rfl) (by rfl) (by rfl) (add64X x y c hc) (by rfl) ?_)|refine Z01 ?_|refine Z02 ?_|refine Z03 ?_|refine Z04 ?_|refine Z05 ?_|refine Z06 ?_
    |refine Z07 ?_|refine Z08 ?_|refine Z09 ?_|refine Z10 ?_|refine Z11 ?_|refine Z12 ?_|refine Z13 ?_|refine Z14 ?_|refine Z19 ?_)
  exact Ze2 fun _ hw => post_of hw SubW.nil ⟨rfl, rfl⟩
theorem subc_spec (x y c : Nat) (hc : c ≤ 1) : Spec Try.prog 75 [N .u64 x, N .u64 y, N .u64 c] NoPre [] (IsV (.tuple [N .u64 (subg x y c).1, N .u64 (subg x y c).2].toArray)) := by
  refine mk_spec Try.func75 rfl rfl rfl fun w _ => ?_
  repeat (first
    |(refine st_callX (by rfl) (by rfl) (by rfl) (sub64X x y c hc) (by rfl) ?_)|refine Z01 ?_|refine Z02 ?_|refine Z03 ?_|refine Z04 ?_|refine Z05 ?_|refine Z06 ?_
    |refine Z07 ?_|refine Z08 ?_|refine Z09 ?_|refine Z10 ?_|refine Z11 ?_|refine Z12 ?_|refine Z13 ?_|refine Z14 ?_|refine Z19 ?_)
  exact Ze2 fun _ hw => post_of hw SubW.nil ⟨rfl, rfl⟩

set_option maxHeartbeats 1000000 in
theorem carried_spec (s t : Value) (f : FuncId) (g : Nat → Nat → Nat → Nat × Nat) (xs ys : List Nat) (hx : Lt 18446744073709551616 xs) (hy : Lt 18446744073709551616 ys) (hl1 : xs.length < 16777216) (hl2 : ys.length < 16777216)
    (hg : ∀ x y c, x < 18446744073709551616 → y < 18446744073709551616 → c ≤ 1 → (g x y c).2 ≤ 1)
    (hf : ∀ x y c, c ≤ 1 → Spec Try.prog f [N .u64 x, N .u64 y, N .u64 c] NoPre [] (IsV (.tuple [N .u64 (g x y c).1, N .u64 (g x y c).2].toArray))) :
    Spec Try.prog 71 [s, t, .func (.func f) #[] #[]] (fun w => Rd w s (xs.map (N .u64)) ∧ Rd w t (ys.map (N .u64))) []
      (fun v Wr => ∃ u, v = .tuple [u, N .u64 (crun g xs ys (max xs.length ys.length)).2].toArray ∧ Wr = [.sl u ((crun g xs ys (max xs.length ys.length)).1.map (N .u64)) 30]) := by
  refine mk_spec Try.func71 rfl rfl rfl fun w hr => ?_
  have hr1 := RdC.mk0 hr.1
  have hr2 := RdC.mk0 hr.2
  repeat (first
    |refine Z01 ?_|refine Z02 ?_|refine Z03 ?_|refine Z04 ?_|refine Z05 ?_|refine Z06 ?_|refine Z07 ?_|refine Z08 ?_|refine Z09 ?_|refine Z10 ?_|refine Z11 ?_
    |refine Z12 ?_|refine Z13 ?_|refine Z14 ?_|refine Z15 ?_|refine Z17 ?_|refine Z18 ?_|refine Z19 ?_|refine Z20 ?_|refine Z21 ?_|refine Z22 ?_|refine Z23 ?_
    |refine Z29 ?_|refine Z30 ?_|refine Z31 ?_|refine Z32 ?_|refine Z58 ?_|refine Z59 ?_|refine Z60 ?_|refine Z70 ?_|refine Z83 fun _ => ?_)
  rename_i u
  obtain ⟨n, hn⟩ : ∃ n, n = max xs.length ys.length := ⟨_, rfl⟩
  rw [← hn]
  have hnb : n < 16777216 := by omega
  refine st_loop (ι := Nat) (fun i => i ≤ n) (fun i => [(0, s), (1, t), (2, .func (.func f) #[] #[]), (8, u), (9, N .u64 (crun g xs ys i).2), (18, N .i64 n), (19, N .i64 i)])
    (fun i => [.sl u (((crun g xs ys i).1 ++ List.replicate (n - i) 0).map (N .u64)) 30]) (fun i => n - i) 0 (by omega) (by rw [crun_0]; simp only [List.length_replicate]; exact (by repeat (first | apply subL.nil | refine subL.cons (by rfl) ?_))) (by rw [crun_0]; exact (by repeat (first | apply SubW.nil | refine SubW.cons (by repeat (first | apply Find.here | apply Find.there)) ?_))) ?_
  intro i hi
  have hcl := crun_len g xs ys i
  have hc1 := crun_le hg hx hy i
  have hrl : ((crun g xs ys i).1 ++ List.replicate (n - i) 0).length = n := by rw [List.length_append, hcl, List.length_replicate]; omega
  repeat (first
    |refine Z01 ?_|refine Z02 ?_|refine Z03 ?_|refine Z04 ?_|refine Z05 ?_|refine Z06 ?_|refine Z07 ?_|refine Z08 ?_|refine Z09 ?_|refine Z10 ?_|refine Z11 ?_
    |refine Z12 ?_|refine Z13 ?_|refine Z14 ?_|refine Z15 ?_|refine Z17 ?_|refine Z18 ?_|refine Z19 ?_|refine Z20 ?_|refine Z21 ?_|refine Z22 ?_|refine Z23 ?_
    |refine Z29 ?_|refine Z30 ?_|refine Z31 ?_|refine Z32 ?_|refine Z58 ?_|refine Z59 ?_|refine Z60 ?_|refine Z70 ?_|refine Z83 fun _ => ?_)
  refine st_cond (by rfl) (fun h => ?_) (fun h => ?_)
  · have e1 := crun_fst g xs ys i
    have e2 := crun_snd g xs ys i
    repeat (first
      |(refine st_callV (by rfl) (by rfl) (by rfl) (at_spec s xs i (by omega)) (RdW.old hr1) (by rfl) ?_)
      |(refine st_callV (by rfl) (by rfl) (by rfl) (at_spec t ys i (by omega)) (RdW.old hr2) (by rfl) ?_)
      |(refine st_callV (by rfl) (by rfl) (by rfl) (hf _ _ _ hc1) (fun _ _ => trivial) (by rfl) ?_)|refine Z01 ?_|refine Z02 ?_|refine Z03 ?_|refine Z04 ?_|refine Z05 ?_
      |refine Z06 ?_|refine Z07 ?_|refine Z08 ?_|refine Z09 ?_|refine Z10 ?_|refine Z11 ?_|refine Z12 ?_|refine Z13 ?_|refine Z14 ?_|refine Z15 ?_|refine Z17 ?_
      |refine Z18 ?_|refine Z19 ?_|refine Z20 ?_|refine Z21 ?_|refine Z22 ?_|refine Z23 ?_|refine Z29 ?_|refine Z30 ?_|refine Z31 ?_|refine Z32 ?_|refine Z58 ?_
      |refine Z59 ?_|refine Z60 ?_|refine Z70 ?_|refine Z83 fun _ => ?_)
    refine st_round (i + 1) (by omega) (by omega) (by rw [e2]; exact (by repeat (first | apply subL.nil | refine subL.cons (by rfl) ?_))) ?_
    rw [e1, ← crun_set g xs ys i n h]
    exact (by repeat (first | apply SubW.nil | refine SubW.cons (by repeat (first | apply Find.here | apply Find.there)) ?_))
  · have hie : i = n := by omega
    subst hie
    simp only [Nat.sub_self, List.replicate_zero, List.append_nil]
    repeat (first
      |refine Z01 ?_|refine Z02 ?_|refine Z03 ?_|refine Z04 ?_|refine Z05 ?_|refine Z06 ?_|refine Z07 ?_|refine Z08 ?_|refine Z09 ?_|refine Z10 ?_|refine Z11 ?_
      |refine Z12 ?_|refine Z13 ?_|refine Z14 ?_|refine Z15 ?_|refine Z17 ?_|refine Z18 ?_|refine Z19 ?_|refine Z20 ?_|refine Z21 ?_|refine Z22 ?_|refine Z23 ?_
      |refine Z29 ?_|refine Z30 ?_|refine Z31 ?_|refine Z32 ?_|refine Z58 ?_|refine Z59 ?_|refine Z60 ?_|refine Z70 ?_|refine Z83 fun _ => ?_)
    exact Ze2 fun _ hw => post_of hw (Wout := [.sl u ((crun g xs ys i).1.map (N .u64)) 30]) (by exact (by repeat (first | apply SubW.nil | refine SubW.cons (by repeat (first | apply Find.here | apply Find.there)) ?_))) ⟨_, rfl, rfl⟩

theorem add_spec (s t : Value) (xs ys : List Nat) (hx : Lt 18446744073709551616 xs) (hy : Lt 18446744073709551616 ys) (hl1 : xs.length < 16777216) (hl2 : ys.length < 16777216) :
    Spec Try.prog 27 [s, t] (fun w => Rd w s (xs.map (N .u64)) ∧ Rd w t (ys.map (N .u64))) []
      (fun v Wr => ∃ u, v = .tuple [u, N .u64 ((V xs + V ys) / W ^ max xs.length ys.length)].toArray ∧ Wr = [.sl u ((D (max xs.length ys.length) (V xs + V ys)).map (N .u64)) 30]) := by
  refine mk_spec Try.func27 rfl rfl rfl fun w hr => ?_
  have hr1 := RdC.mk0 hr.1
  have hr2 := RdC.mk0 hr.2
  repeat (first
    
    |((refine st_call (by rfl) (by rfl) (by rfl) (carried_spec s t _ addg xs ys hx hy hl1 hl2 addg_le (fun x y c hc => addc_spec x y c hc)) .nil (fun w hw => ⟨RdW.old hr1 w hw, RdW.old hr2 w hw⟩) (by rfl) ?_; rintro _ _ ⟨u, rfl, rfl⟩; rw [crun_add_end hx hy (Nat.le_max_left _ _) (Nat.le_max_right _ _)]))
    |refine Z01 ?_|refine Z02 ?_|refine Z03 ?_|refine Z04 ?_|refine Z05 ?_|refine Z06 ?_|refine Z07 ?_|refine Z08 ?_|refine Z09 ?_|refine Z10 ?_|refine Z11 ?_
    |refine Z12 ?_|refine Z13 ?_|refine Z14 ?_|refine Z19 ?_)
  exact Ze2 fun _ hw => post_of hw (Wout := [.sl _ ((D (max xs.length ys.length) (V xs + V ys)).map (N .u64)) 30]) (by exact (by repeat (first | apply SubW.nil | refine SubW.cons (by repeat (first | apply Find.here | apply Find.there)) ?_))) ⟨_, rfl, rfl⟩

theorem sub_spec (s t : Value) (xs ys : List Nat) (hx : Lt 18446744073709551616 xs) (hy : Lt 18446744073709551616 ys) (hl1 : xs.length < 16777216) (hl2 : ys.length < 16777216) :
    Spec Try.prog 29 [s, t] (fun w => Rd w s (xs.map (N .u64)) ∧ Rd w t (ys.map (N .u64))) []
      (fun v Wr => ∃ u, v = .tuple [u, N .u64 (bwn (V xs) (V ys))].toArray ∧ Wr = [.sl u ((D (max xs.length ys.length) (sbn (max xs.length ys.length) (V xs) (V ys))).map (N .u64)) 30]) := by
  refine mk_spec Try.func29 rfl rfl rfl fun w hr => ?_
  have hr1 := RdC.mk0 hr.1
  have hr2 := RdC.mk0 hr.2
  repeat (first
    
    |((refine st_call (by rfl) (by rfl) (by rfl) (carried_spec s t _ subg xs ys hx hy hl1 hl2 subg_le (fun x y c hc => subc_spec x y c hc)) .nil (fun w hw => ⟨RdW.old hr1 w hw, RdW.old hr2 w hw⟩) (by rfl) ?_; rintro _ _ ⟨u, rfl, rfl⟩; rw [crun_sub_end hx hy (Nat.le_max_left _ _) (Nat.le_max_right _ _)]))
    |refine Z01 ?_|refine Z02 ?_|refine Z03 ?_|refine Z04 ?_|refine Z05 ?_|refine Z06 ?_|refine Z07 ?_|refine Z08 ?_|refine Z09 ?_|refine Z10 ?_|refine Z11 ?_
    |refine Z12 ?_|refine Z13 ?_|refine Z14 ?_|refine Z19 ?_)
  exact Ze2 fun _ hw => post_of hw (Wout := [.sl _ ((D (max xs.length ys.length) (sbn (max xs.length ys.length) (V xs) (V ys))).map (N .u64)) 30]) (by exact (by repeat (first | apply SubW.nil | refine SubW.cons (by repeat (first | apply Find.here | apply Find.there)) ?_))) ⟨_, rfl, rfl⟩

end Go.Proofs.Ytbjfjkmidhfgcaa.L
