/- The walk of the law of given numbers. Condition: as the statement says. -/
import Derived.Test.YtefhbmhanajfoaaAuto
import Derived.Test.YtefhbmhanajfoaaPerm
import Derived.Test.YtefhbmhanajfoaaMore
import Derived.Test.YtefhbmhanajfoaaProg
import Derived.Test.YtefhbmhanajfoaaNum
import Derived.Test.YtefhbmhanajfoaaLmb
import Derived.Test.YtefhbmhanajfoaaLmd
import Derived.Test.YtefhbmhanajfoaaLmo
import Derived.Test.YtefhbmhanajfoaaScope
import Derived.Test.YtefhbmhanajfoaaJoin
import Derived.Test.YtefhbmhanajfoaaLma
import Derived.Test.YtefhbmhanajfoaaLmz
import Derived.Test.YtefhbmhanajfoaaLmc
import Derived.Test.YtefhbmhanajfoaaLme
import Derived.Test.YtefhbmhanajfoaaLmf
import Derived.Test.YtefhbmhanajfoaaLmh
import Derived.Test.YtefhbmhanajfoaaLmj
import Derived.Test.YtefhbmhanajfoaaShaT
import Derived.Test.YtefhbmhanajfoaaLmp
import Derived.Test.YtefhbmhanajfoaaLmq
import Derived.Test.YtefhbmhanajfoaaLmr
namespace Go.Proofs.Ytefhbmhanajfoaa.L
open Go Go.Proofs
set_option maxRecDepth 100000
attribute [local irreducible] Code.wp wpList Af bodyPost L.Go
open Num
attribute [local simp] D_len octs_len

set_option maxHeartbeats 4000000 in
theorem lawOwn3_spec (s1 : Value) (xs : List Nat) (hx : Lt 18446744073709551616 xs) (x63 : xs.length < 9223372036854775808) (s2 : Value) (ys : List Nat) (hy : Lt 18446744073709551616 ys) (y63 : ys.length < 9223372036854775808) :
    Spec Try.prog 19 [s1, s2] (fun w => Rd w s1 (xs.map (N .u64)) ∧ Rd w s2 (ys.map (N .u64))) [] (IsV (.bool true)) := by
  refine mk_spec Try.func19 rfl rfl rfl fun w hr => ?_
  have hr1 := RdC.mk0 hr.1
  have hr2 := RdC.mk0 hr.2
  repeat (first
    |(refine st_callV (by rfl) (by rfl) (by rfl) awake3_spec (fun _ _ => trivial) (by rfl) ?_)
    |(refine st_callV (by rfl) (by rfl) (by rfl) (few3_spec s1 s2 xs ys x63 y63) (fun w hw => ⟨RdW.old hr1 w hw, RdW.old hr2 w hw⟩) (by rfl) ?_)|refine Z01 ?_
    |refine Z02 ?_|refine Z03 ?_|refine Z04 ?_|refine Z05 ?_|refine Z06 ?_|refine Z07 ?_|refine Z08 ?_|refine Z09 ?_|refine Z10 ?_|refine Z11 ?_|refine Z12 ?_
    |refine Z13 ?_|refine Z14 ?_|refine Z15 ?_|refine Z17 ?_|refine Z18 ?_|refine Z19 ?_|refine Z20 ?_|refine Z21 ?_|refine Z22 ?_|refine Z23 ?_|refine Z29 ?_
    |refine Z30 ?_|refine Z31 ?_|refine Z32 ?_|refine Z49 ?_|refine Z50 ?_|refine Z51 ?_|refine Z52 ?_|refine Z53 ?_|refine Z54 ?_|refine Z58 ?_|refine Z59 ?_
    |refine Z70 ?_|refine Z84 fun _ => ?_|refine Z85 fun _ => ?_)
  by_cases hfew : xs.length ≤ 14 ∧ ys.length ≤ 14
  case neg =>
    rw [decide_eq_false hfew]
    repeat (first
      |refine Z01 ?_|refine Z02 ?_|refine Z03 ?_|refine Z04 ?_|refine Z05 ?_|refine Z06 ?_|refine Z07 ?_|refine Z08 ?_|refine Z09 ?_|refine Z10 ?_|refine Z11 ?_
      |refine Z12 ?_|refine Z13 ?_|refine Z14 ?_|refine Z15 ?_|refine Z17 ?_|refine Z18 ?_|refine Z19 ?_|refine Z20 ?_|refine Z21 ?_|refine Z22 ?_|refine Z23 ?_
      |refine Z29 ?_|refine Z30 ?_|refine Z31 ?_|refine Z32 ?_|refine Z49 ?_|refine Z50 ?_|refine Z51 ?_|refine Z52 ?_|refine Z53 ?_|refine Z54 ?_|refine Z58 ?_
      |refine Z59 ?_|refine Z70 ?_|refine Z84 fun _ => ?_|refine Z85 fun _ => ?_)
    refine Ze1 fun _ hw => post_of hw SubW.nil ⟨?_, rfl⟩
    rfl
  rw [decide_eq_true hfew]
  have hk5 := hfew.1
  have hb5 := hfew.2
  repeat (first
    |((refine st_buildSliceN (vs := []) (kk := .u64) (by rfl) (by rfl) (by rfl) (by rfl) (by rfl) (by rfl) (by rfl) (by rfl) fun _ => ?_))|(rw [List.nil_append])
    |refine Z01 ?_|refine Z02 ?_|refine Z03 ?_|refine Z04 ?_|refine Z05 ?_|refine Z06 ?_|refine Z07 ?_|refine Z08 ?_|refine Z09 ?_|refine Z10 ?_|refine Z11 ?_
    |refine Z12 ?_|refine Z13 ?_|refine Z14 ?_|refine Z15 ?_|refine Z17 ?_|refine Z18 ?_|refine Z19 ?_|refine Z20 ?_|refine Z21 ?_|refine Z22 ?_|refine Z23 ?_
    |refine Z29 ?_|refine Z30 ?_|refine Z31 ?_|refine Z32 ?_|refine Z49 ?_|refine Z50 ?_|refine Z51 ?_|refine Z52 ?_|refine Z53 ?_|refine Z54 ?_|refine Z58 ?_
    |refine Z59 ?_|refine Z70 ?_|refine Z84 fun _ => ?_|refine Z85 fun _ => ?_)
  rename_i y1 y0 x1 x0
  repeat (first
    
    |((refine st_call (by rfl) (by rfl) (by rfl) (add_spec _ _ xs ys hx hy (by omega) (by omega)) .nil (fun w hw => ⟨RdW.own (by repeat (first | apply Find.here | apply Find.there)) w hw, RdW.own (by repeat (first | apply Find.here | apply Find.there)) w hw⟩) (by rfl) ?_; rintro _ _ ⟨a1, rfl, rfl⟩))
    |((refine st_call (by rfl) (by rfl) (by rfl) (sub_spec _ _ xs ys hx hy (by omega) (by omega)) .nil (fun w hw => ⟨RdW.own (by repeat (first | apply Find.here | apply Find.there)) w hw, RdW.own (by repeat (first | apply Find.here | apply Find.there)) w hw⟩) (by rfl) ?_; rintro _ _ ⟨a2, rfl, rfl⟩))
    |((refine st_call (by rfl) (by rfl) (by rfl) (lmul_spec _ _ xs ys hx hy (by omega) (by omega)) .nil (fun w hw => ⟨RdW.own (by repeat (first | apply Find.here | apply Find.there)) w hw, RdW.own (by repeat (first | apply Find.here | apply Find.there)) w hw⟩) (by rfl) ?_; rintro a3 _ rfl))
    |refine Z01 ?_|refine Z02 ?_|refine Z03 ?_|refine Z04 ?_|refine Z05 ?_|refine Z06 ?_|refine Z07 ?_|refine Z08 ?_|refine Z09 ?_|refine Z10 ?_|refine Z11 ?_
    |refine Z12 ?_|refine Z13 ?_|refine Z14 ?_|refine Z15 ?_|refine Z17 ?_|refine Z18 ?_|refine Z19 ?_|refine Z20 ?_|refine Z21 ?_|refine Z22 ?_|refine Z23 ?_
    |refine Z29 ?_|refine Z30 ?_|refine Z31 ?_|refine Z32 ?_|refine Z49 ?_|refine Z50 ?_|refine Z51 ?_|refine Z52 ?_|refine Z53 ?_|refine Z54 ?_|refine Z58 ?_
    |refine Z59 ?_|refine Z70 ?_|refine Z84 fun _ => ?_|refine Z85 fun _ => ?_)
  obtain ⟨e1, he1⟩ : ∃ e, e = D (max xs.length ys.length) (V xs + V ys) := ⟨_, rfl⟩
  obtain ⟨e2, he2⟩ : ∃ e, e = D (max xs.length ys.length) (sbn (max xs.length ys.length) (V xs) (V ys)) := ⟨_, rfl⟩
  obtain ⟨e3, he3⟩ : ∃ e, e = D (xs.length + ys.length) (V xs * V ys) := ⟨_, rfl⟩
  rw [← he1, ← he2, ← he3]
  have l1 : e1.length = max xs.length ys.length := by rw [he1, D_len]
  have l2 : e2.length = max xs.length ys.length := by rw [he2, D_len]
  have l3 : e3.length = xs.length + ys.length := by rw [he3, D_len]
  have m1 : max xs.length ys.length ≤ 28 := by omega
  have m3 : xs.length + ys.length ≤ 28 := by omega
  obtain ⟨n1, hn1⟩ : ∃ n, n = max xs.length ys.length := ⟨_, rfl⟩
  obtain ⟨n3, hn3⟩ : ∃ n, n = xs.length + ys.length := ⟨_, rfl⟩
  rw [← hn1] at l1 l2 m1
  rw [← hn3] at l3 m3
  have n2e : ∃ n2, n2 = n1 := ⟨_, rfl⟩
  obtain ⟨n2, hn2⟩ := n2e
  rw [← hn2] at l2
  have m2 : n2 ≤ 28 := by omega
  clear he1 he2 he3 hn1 hn2 hn3
  refine st_call (by rfl) (by rfl) (by rfl) (mod_spec _ _ xs ys hx hy (by omega) (by omega)) .nil (fun w hw => ⟨RdW.own (by repeat (first | apply Find.here | apply Find.there)) w hw, RdW.own (by repeat (first | apply Find.here | apply Find.there)) w hw⟩) (by rfl) ?_
  rintro _ _ (⟨_, rfl, rfl⟩ | ⟨_, a4, rfl, rfl⟩)
  · refine st_own_nil 49 ?_
    obtain ⟨e4, he4⟩ : ∃ e : List Nat, e = [] := ⟨_, rfl⟩
    have m4 : e4.length ≤ 28 := by rw [he4]; decide
    rw [show ([] : List Value) = e4.map (N .u64) by rw [he4]; rfl]
    clear he4
    obtain ⟨n4, l4⟩ : ∃ n, e4.length = n := ⟨_, rfl⟩
    rw [l4] at m4
    repeat (first
      |refine Z01 ?_|refine Z02 ?_|refine Z03 ?_|refine Z04 ?_|refine Z05 ?_|refine Z06 ?_|refine Z07 ?_|refine Z08 ?_|refine Z09 ?_|refine Z10 ?_|refine Z11 ?_
      |refine Z12 ?_|refine Z13 ?_|refine Z14 ?_|refine Z15 ?_|refine Z17 ?_|refine Z18 ?_|refine Z19 ?_|refine Z20 ?_|refine Z21 ?_|refine Z22 ?_|refine Z23 ?_
      |refine Z29 ?_|refine Z30 ?_|refine Z31 ?_|refine Z32 ?_|refine Z49 ?_|refine Z50 ?_|refine Z51 ?_|refine Z52 ?_|refine Z53 ?_|refine Z54 ?_|refine Z58 ?_
      |refine Z59 ?_|refine Z70 ?_|refine Z84 fun _ => ?_|refine Z85 fun _ => ?_)
    refine st_loop (ι := Nat × List Nat) (fun p => p.1 ≤ n1 ∧ p.2.length = n1) (fun p => [(0, s1), (1, s2), (5, .bool true), (6, y0), (7, x0), (8, a1), (10, a2), (12, a3), (13, (Value.slice none 0 0)), (15, N .i64 p.1)]) (fun p => [.sl (Value.slice none 0 0) (e4.map (N .u64)) 49, .sl a3 (e3.map (N .u64)) 49, .sl a2 (e2.map (N .u64)) 49, .sl a1 (p.2.map (N .u64)) 49, .sl x0 (ys.map (N .u64)) 49, .sl y0 (xs.map (N .u64)) 49]) (fun p => n1 - p.1) (0, e1) ⟨Nat.zero_le _, l1⟩ (by repeat (first | apply subL.nil | refine subL.cons (by rfl) ?_)) (by repeat (first | apply SubW.nil | refine SubW.cons (by repeat (first | apply Find.here | apply Find.there)) ?_)) ?_
    clear l1 e1
    rintro ⟨i, e1⟩ ⟨hi, l1⟩
    dsimp only at hi l1 ⊢
    repeat (first
      |refine Z01 ?_|refine Z02 ?_|refine Z03 ?_|refine Z04 ?_|refine Z05 ?_|refine Z06 ?_|refine Z07 ?_|refine Z08 ?_|refine Z09 ?_|refine Z10 ?_|refine Z11 ?_
      |refine Z12 ?_|refine Z13 ?_|refine Z14 ?_|refine Z15 ?_|refine Z17 ?_|refine Z18 ?_|refine Z19 ?_|refine Z20 ?_|refine Z21 ?_|refine Z22 ?_|refine Z23 ?_
      |refine Z29 ?_|refine Z30 ?_|refine Z31 ?_|refine Z32 ?_|refine Z49 ?_|refine Z50 ?_|refine Z51 ?_|refine Z52 ?_|refine Z53 ?_|refine Z54 ?_|refine Z58 ?_
      |refine Z59 ?_|refine Z70 ?_|refine Z84 fun _ => ?_|refine Z85 fun _ => ?_)
    refine st_cond (by rfl) (fun h => ?_) (fun h => ?_)
    · repeat (first
        |refine Z01 ?_|refine Z02 ?_|refine Z03 ?_|refine Z04 ?_|refine Z05 ?_|refine Z06 ?_|refine Z07 ?_|refine Z08 ?_|refine Z09 ?_|refine Z10 ?_|refine Z11 ?_
        |refine Z12 ?_|refine Z13 ?_|refine Z14 ?_|refine Z15 ?_|refine Z17 ?_|refine Z18 ?_|refine Z19 ?_|refine Z20 ?_|refine Z21 ?_|refine Z22 ?_|refine Z23 ?_
        |refine Z29 ?_|refine Z30 ?_|refine Z31 ?_|refine Z32 ?_|refine Z49 ?_|refine Z50 ?_|refine Z51 ?_|refine Z52 ?_|refine Z53 ?_|refine Z54 ?_|refine Z58 ?_
        |refine Z59 ?_|refine Z70 ?_|refine Z84 fun _ => ?_|refine Z85 fun _ => ?_)
      exact st_round (i + 1, e1.set i 7) ⟨by show i + 1 ≤ n1; omega, by simp [l1]⟩ (by show n1 - (i + 1) < n1 - i; omega) (by repeat (first | apply subL.nil | refine subL.cons (by rfl) ?_)) (by repeat (first | apply SubW.nil | refine SubW.cons (by repeat (first | apply Find.here | apply Find.there)) ?_))
    clear h hi
    repeat (first
      |refine Z01 ?_|refine Z02 ?_|refine Z03 ?_|refine Z04 ?_|refine Z05 ?_|refine Z06 ?_|refine Z07 ?_|refine Z08 ?_|refine Z09 ?_|refine Z10 ?_|refine Z11 ?_
      |refine Z12 ?_|refine Z13 ?_|refine Z14 ?_|refine Z15 ?_|refine Z17 ?_|refine Z18 ?_|refine Z19 ?_|refine Z20 ?_|refine Z21 ?_|refine Z22 ?_|refine Z23 ?_
      |refine Z29 ?_|refine Z30 ?_|refine Z31 ?_|refine Z32 ?_|refine Z49 ?_|refine Z50 ?_|refine Z51 ?_|refine Z52 ?_|refine Z53 ?_|refine Z54 ?_|refine Z58 ?_
      |refine Z59 ?_|refine Z70 ?_|refine Z84 fun _ => ?_|refine Z85 fun _ => ?_)
    refine st_loop (ι := Nat × List Nat) (fun p => p.1 ≤ n2 ∧ p.2.length = n2) (fun p => [(0, s1), (1, s2), (5, .bool true), (6, y0), (7, x0), (8, a1), (10, a2), (12, a3), (13, (Value.slice none 0 0)), (16, N .i64 p.1)]) (fun p => [.sl (Value.slice none 0 0) (e4.map (N .u64)) 49, .sl a3 (e3.map (N .u64)) 49, .sl a2 (p.2.map (N .u64)) 49, .sl a1 (e1.map (N .u64)) 49, .sl x0 (ys.map (N .u64)) 49, .sl y0 (xs.map (N .u64)) 49]) (fun p => n2 - p.1) (0, e2) ⟨Nat.zero_le _, l2⟩ (by repeat (first | apply subL.nil | refine subL.cons (by rfl) ?_)) (by repeat (first | apply SubW.nil | refine SubW.cons (by repeat (first | apply Find.here | apply Find.there)) ?_)) ?_
    clear l2 e2
    rintro ⟨i, e2⟩ ⟨hi, l2⟩
    dsimp only at hi l2 ⊢
    repeat (first
      |refine Z01 ?_|refine Z02 ?_|refine Z03 ?_|refine Z04 ?_|refine Z05 ?_|refine Z06 ?_|refine Z07 ?_|refine Z08 ?_|refine Z09 ?_|refine Z10 ?_|refine Z11 ?_
      |refine Z12 ?_|refine Z13 ?_|refine Z14 ?_|refine Z15 ?_|refine Z17 ?_|refine Z18 ?_|refine Z19 ?_|refine Z20 ?_|refine Z21 ?_|refine Z22 ?_|refine Z23 ?_
      |refine Z29 ?_|refine Z30 ?_|refine Z31 ?_|refine Z32 ?_|refine Z49 ?_|refine Z50 ?_|refine Z51 ?_|refine Z52 ?_|refine Z53 ?_|refine Z54 ?_|refine Z58 ?_
      |refine Z59 ?_|refine Z70 ?_|refine Z84 fun _ => ?_|refine Z85 fun _ => ?_)
    refine st_cond (by rfl) (fun h => ?_) (fun h => ?_)
    · repeat (first
        |refine Z01 ?_|refine Z02 ?_|refine Z03 ?_|refine Z04 ?_|refine Z05 ?_|refine Z06 ?_|refine Z07 ?_|refine Z08 ?_|refine Z09 ?_|refine Z10 ?_|refine Z11 ?_
        |refine Z12 ?_|refine Z13 ?_|refine Z14 ?_|refine Z15 ?_|refine Z17 ?_|refine Z18 ?_|refine Z19 ?_|refine Z20 ?_|refine Z21 ?_|refine Z22 ?_|refine Z23 ?_
        |refine Z29 ?_|refine Z30 ?_|refine Z31 ?_|refine Z32 ?_|refine Z49 ?_|refine Z50 ?_|refine Z51 ?_|refine Z52 ?_|refine Z53 ?_|refine Z54 ?_|refine Z58 ?_
        |refine Z59 ?_|refine Z70 ?_|refine Z84 fun _ => ?_|refine Z85 fun _ => ?_)
      exact st_round (i + 1, e2.set i 7) ⟨by show i + 1 ≤ n2; omega, by simp [l2]⟩ (by show n2 - (i + 1) < n2 - i; omega) (by repeat (first | apply subL.nil | refine subL.cons (by rfl) ?_)) (by repeat (first | apply SubW.nil | refine SubW.cons (by repeat (first | apply Find.here | apply Find.there)) ?_))
    clear h hi
    repeat (first
      |refine Z01 ?_|refine Z02 ?_|refine Z03 ?_|refine Z04 ?_|refine Z05 ?_|refine Z06 ?_|refine Z07 ?_|refine Z08 ?_|refine Z09 ?_|refine Z10 ?_|refine Z11 ?_
      |refine Z12 ?_|refine Z13 ?_|refine Z14 ?_|refine Z15 ?_|refine Z17 ?_|refine Z18 ?_|refine Z19 ?_|refine Z20 ?_|refine Z21 ?_|refine Z22 ?_|refine Z23 ?_
      |refine Z29 ?_|refine Z30 ?_|refine Z31 ?_|refine Z32 ?_|refine Z49 ?_|refine Z50 ?_|refine Z51 ?_|refine Z52 ?_|refine Z53 ?_|refine Z54 ?_|refine Z58 ?_
      |refine Z59 ?_|refine Z70 ?_|refine Z84 fun _ => ?_|refine Z85 fun _ => ?_)
    refine st_loop (ι := Nat × List Nat) (fun p => p.1 ≤ n3 ∧ p.2.length = n3) (fun p => [(0, s1), (1, s2), (5, .bool true), (6, y0), (7, x0), (8, a1), (10, a2), (12, a3), (13, (Value.slice none 0 0)), (17, N .i64 p.1)]) (fun p => [.sl (Value.slice none 0 0) (e4.map (N .u64)) 49, .sl a3 (p.2.map (N .u64)) 49, .sl a2 (e2.map (N .u64)) 49, .sl a1 (e1.map (N .u64)) 49, .sl x0 (ys.map (N .u64)) 49, .sl y0 (xs.map (N .u64)) 49]) (fun p => n3 - p.1) (0, e3) ⟨Nat.zero_le _, l3⟩ (by repeat (first | apply subL.nil | refine subL.cons (by rfl) ?_)) (by repeat (first | apply SubW.nil | refine SubW.cons (by repeat (first | apply Find.here | apply Find.there)) ?_)) ?_
    clear l3 e3
    rintro ⟨i, e3⟩ ⟨hi, l3⟩
    dsimp only at hi l3 ⊢
    repeat (first
      |refine Z01 ?_|refine Z02 ?_|refine Z03 ?_|refine Z04 ?_|refine Z05 ?_|refine Z06 ?_|refine Z07 ?_|refine Z08 ?_|refine Z09 ?_|refine Z10 ?_|refine Z11 ?_
      |refine Z12 ?_|refine Z13 ?_|refine Z14 ?_|refine Z15 ?_|refine Z17 ?_|refine Z18 ?_|refine Z19 ?_|refine Z20 ?_|refine Z21 ?_|refine Z22 ?_|refine Z23 ?_
      |refine Z29 ?_|refine Z30 ?_|refine Z31 ?_|refine Z32 ?_|refine Z49 ?_|refine Z50 ?_|refine Z51 ?_|refine Z52 ?_|refine Z53 ?_|refine Z54 ?_|refine Z58 ?_
      |refine Z59 ?_|refine Z70 ?_|refine Z84 fun _ => ?_|refine Z85 fun _ => ?_)
    refine st_cond (by rfl) (fun h => ?_) (fun h => ?_)
    · repeat (first
        |refine Z01 ?_|refine Z02 ?_|refine Z03 ?_|refine Z04 ?_|refine Z05 ?_|refine Z06 ?_|refine Z07 ?_|refine Z08 ?_|refine Z09 ?_|refine Z10 ?_|refine Z11 ?_
        |refine Z12 ?_|refine Z13 ?_|refine Z14 ?_|refine Z15 ?_|refine Z17 ?_|refine Z18 ?_|refine Z19 ?_|refine Z20 ?_|refine Z21 ?_|refine Z22 ?_|refine Z23 ?_
        |refine Z29 ?_|refine Z30 ?_|refine Z31 ?_|refine Z32 ?_|refine Z49 ?_|refine Z50 ?_|refine Z51 ?_|refine Z52 ?_|refine Z53 ?_|refine Z54 ?_|refine Z58 ?_
        |refine Z59 ?_|refine Z70 ?_|refine Z84 fun _ => ?_|refine Z85 fun _ => ?_)
      exact st_round (i + 1, e3.set i 7) ⟨by show i + 1 ≤ n3; omega, by simp [l3]⟩ (by show n3 - (i + 1) < n3 - i; omega) (by repeat (first | apply subL.nil | refine subL.cons (by rfl) ?_)) (by repeat (first | apply SubW.nil | refine SubW.cons (by repeat (first | apply Find.here | apply Find.there)) ?_))
    clear h hi
    repeat (first
      |refine Z01 ?_|refine Z02 ?_|refine Z03 ?_|refine Z04 ?_|refine Z05 ?_|refine Z06 ?_|refine Z07 ?_|refine Z08 ?_|refine Z09 ?_|refine Z10 ?_|refine Z11 ?_
      |refine Z12 ?_|refine Z13 ?_|refine Z14 ?_|refine Z15 ?_|refine Z17 ?_|refine Z18 ?_|refine Z19 ?_|refine Z20 ?_|refine Z21 ?_|refine Z22 ?_|refine Z23 ?_
      |refine Z29 ?_|refine Z30 ?_|refine Z31 ?_|refine Z32 ?_|refine Z49 ?_|refine Z50 ?_|refine Z51 ?_|refine Z52 ?_|refine Z53 ?_|refine Z54 ?_|refine Z58 ?_
      |refine Z59 ?_|refine Z70 ?_|refine Z84 fun _ => ?_|refine Z85 fun _ => ?_)
    refine st_loop (ι := Nat × List Nat) (fun p => p.1 ≤ n4 ∧ p.2.length = n4) (fun p => [(0, s1), (1, s2), (5, .bool true), (6, y0), (7, x0), (8, a1), (10, a2), (12, a3), (13, (Value.slice none 0 0)), (18, N .i64 p.1)]) (fun p => [.sl (Value.slice none 0 0) (p.2.map (N .u64)) 49, .sl a3 (e3.map (N .u64)) 49, .sl a2 (e2.map (N .u64)) 49, .sl a1 (e1.map (N .u64)) 49, .sl x0 (ys.map (N .u64)) 49, .sl y0 (xs.map (N .u64)) 49]) (fun p => n4 - p.1) (0, e4) ⟨Nat.zero_le _, l4⟩ (by repeat (first | apply subL.nil | refine subL.cons (by rfl) ?_)) (by repeat (first | apply SubW.nil | refine SubW.cons (by repeat (first | apply Find.here | apply Find.there)) ?_)) ?_
    clear l4 e4
    rintro ⟨i, e4⟩ ⟨hi, l4⟩
    dsimp only at hi l4 ⊢
    repeat (first
      |refine Z01 ?_|refine Z02 ?_|refine Z03 ?_|refine Z04 ?_|refine Z05 ?_|refine Z06 ?_|refine Z07 ?_|refine Z08 ?_|refine Z09 ?_|refine Z10 ?_|refine Z11 ?_
      |refine Z12 ?_|refine Z13 ?_|refine Z14 ?_|refine Z15 ?_|refine Z17 ?_|refine Z18 ?_|refine Z19 ?_|refine Z20 ?_|refine Z21 ?_|refine Z22 ?_|refine Z23 ?_
      |refine Z29 ?_|refine Z30 ?_|refine Z31 ?_|refine Z32 ?_|refine Z49 ?_|refine Z50 ?_|refine Z51 ?_|refine Z52 ?_|refine Z53 ?_|refine Z54 ?_|refine Z58 ?_
      |refine Z59 ?_|refine Z70 ?_|refine Z84 fun _ => ?_|refine Z85 fun _ => ?_)
    refine st_cond (by rfl) (fun h => ?_) (fun h => ?_)
    · repeat (first
        |refine Z01 ?_|refine Z02 ?_|refine Z03 ?_|refine Z04 ?_|refine Z05 ?_|refine Z06 ?_|refine Z07 ?_|refine Z08 ?_|refine Z09 ?_|refine Z10 ?_|refine Z11 ?_
        |refine Z12 ?_|refine Z13 ?_|refine Z14 ?_|refine Z15 ?_|refine Z17 ?_|refine Z18 ?_|refine Z19 ?_|refine Z20 ?_|refine Z21 ?_|refine Z22 ?_|refine Z23 ?_
        |refine Z29 ?_|refine Z30 ?_|refine Z31 ?_|refine Z32 ?_|refine Z49 ?_|refine Z50 ?_|refine Z51 ?_|refine Z52 ?_|refine Z53 ?_|refine Z54 ?_|refine Z58 ?_
        |refine Z59 ?_|refine Z70 ?_|refine Z84 fun _ => ?_|refine Z85 fun _ => ?_)
      exact st_round (i + 1, e4.set i 7) ⟨by show i + 1 ≤ n4; omega, by simp [l4]⟩ (by show n4 - (i + 1) < n4 - i; omega) (by repeat (first | apply subL.nil | refine subL.cons (by rfl) ?_)) (by repeat (first | apply SubW.nil | refine SubW.cons (by repeat (first | apply Find.here | apply Find.there)) ?_))
    clear h hi
    repeat (first
      
      |(refine st_callV (by rfl) (by rfl) (by rfl) (same3_spec y0 s1 xs xs (by omega)) (fun w hw => ⟨RdW.own (by repeat (first | apply Find.here | apply Find.there)) w hw, RdW.old hr1 w hw⟩) (by rfl) ?_)
      |(refine st_callV (by rfl) (by rfl) (by rfl) (same3_spec x0 s2 ys ys (by omega)) (fun w hw => ⟨RdW.own (by repeat (first | apply Find.here | apply Find.there)) w hw, RdW.old hr2 w hw⟩) (by rfl) ?_)
      |(rw [decide_eq_true (p := xs = xs) rfl])|(rw [decide_eq_true (p := ys = ys) rfl])|refine Z01 ?_|refine Z02 ?_|refine Z03 ?_|refine Z04 ?_|refine Z05 ?_
      |refine Z06 ?_|refine Z07 ?_|refine Z08 ?_|refine Z09 ?_|refine Z10 ?_|refine Z11 ?_|refine Z12 ?_|refine Z13 ?_|refine Z14 ?_|refine Z15 ?_|refine Z17 ?_
      |refine Z18 ?_|refine Z19 ?_|refine Z20 ?_|refine Z21 ?_|refine Z22 ?_|refine Z23 ?_|refine Z29 ?_|refine Z30 ?_|refine Z31 ?_|refine Z32 ?_|refine Z49 ?_
      |refine Z50 ?_|refine Z51 ?_|refine Z52 ?_|refine Z53 ?_|refine Z54 ?_|refine Z58 ?_|refine Z59 ?_|refine Z70 ?_|refine Z84 fun _ => ?_|refine Z85 fun _ => ?_)
    refine Ze1 fun _ hw => post_of hw SubW.nil ⟨?_, rfl⟩
    rfl
  · obtain ⟨e4, he4⟩ : ∃ e, e = D ys.length (V xs % V ys) := ⟨_, rfl⟩
    have m4 : e4.length ≤ 28 := by rw [he4, D_len]; omega
    rw [← he4]
    clear he4
    obtain ⟨n4, l4⟩ : ∃ n, e4.length = n := ⟨_, rfl⟩
    rw [l4] at m4
    repeat (first
      |refine Z01 ?_|refine Z02 ?_|refine Z03 ?_|refine Z04 ?_|refine Z05 ?_|refine Z06 ?_|refine Z07 ?_|refine Z08 ?_|refine Z09 ?_|refine Z10 ?_|refine Z11 ?_
      |refine Z12 ?_|refine Z13 ?_|refine Z14 ?_|refine Z15 ?_|refine Z17 ?_|refine Z18 ?_|refine Z19 ?_|refine Z20 ?_|refine Z21 ?_|refine Z22 ?_|refine Z23 ?_
      |refine Z29 ?_|refine Z30 ?_|refine Z31 ?_|refine Z32 ?_|refine Z49 ?_|refine Z50 ?_|refine Z51 ?_|refine Z52 ?_|refine Z53 ?_|refine Z54 ?_|refine Z58 ?_
      |refine Z59 ?_|refine Z70 ?_|refine Z84 fun _ => ?_|refine Z85 fun _ => ?_)
    refine st_loop (ι := Nat × List Nat) (fun p => p.1 ≤ n1 ∧ p.2.length = n1) (fun p => [(0, s1), (1, s2), (5, .bool true), (6, y0), (7, x0), (8, a1), (10, a2), (12, a3), (13, a4), (15, N .i64 p.1)]) (fun p => [.sl a4 (e4.map (N .u64)) 49, .sl a3 (e3.map (N .u64)) 49, .sl a2 (e2.map (N .u64)) 49, .sl a1 (p.2.map (N .u64)) 49, .sl x0 (ys.map (N .u64)) 49, .sl y0 (xs.map (N .u64)) 49]) (fun p => n1 - p.1) (0, e1) ⟨Nat.zero_le _, l1⟩ (by repeat (first | apply subL.nil | refine subL.cons (by rfl) ?_)) (by repeat (first | apply SubW.nil | refine SubW.cons (by repeat (first | apply Find.here | apply Find.there)) ?_)) ?_
    clear l1 e1
    rintro ⟨i, e1⟩ ⟨hi, l1⟩
    dsimp only at hi l1 ⊢
    repeat (first
      |refine Z01 ?_|refine Z02 ?_|refine Z03 ?_|refine Z04 ?_|refine Z05 ?_|refine Z06 ?_|refine Z07 ?_|refine Z08 ?_|refine Z09 ?_|refine Z10 ?_|refine Z11 ?_
      |refine Z12 ?_|refine Z13 ?_|refine Z14 ?_|refine Z15 ?_|refine Z17 ?_|refine Z18 ?_|refine Z19 ?_|refine Z20 ?_|refine Z21 ?_|refine Z22 ?_|refine Z23 ?_
      |refine Z29 ?_|refine Z30 ?_|refine Z31 ?_|refine Z32 ?_|refine Z49 ?_|refine Z50 ?_|refine Z51 ?_|refine Z52 ?_|refine Z53 ?_|refine Z54 ?_|refine Z58 ?_
      |refine Z59 ?_|refine Z70 ?_|refine Z84 fun _ => ?_|refine Z85 fun _ => ?_)
    refine st_cond (by rfl) (fun h => ?_) (fun h => ?_)
    · repeat (first
        |refine Z01 ?_|refine Z02 ?_|refine Z03 ?_|refine Z04 ?_|refine Z05 ?_|refine Z06 ?_|refine Z07 ?_|refine Z08 ?_|refine Z09 ?_|refine Z10 ?_|refine Z11 ?_
        |refine Z12 ?_|refine Z13 ?_|refine Z14 ?_|refine Z15 ?_|refine Z17 ?_|refine Z18 ?_|refine Z19 ?_|refine Z20 ?_|refine Z21 ?_|refine Z22 ?_|refine Z23 ?_
        |refine Z29 ?_|refine Z30 ?_|refine Z31 ?_|refine Z32 ?_|refine Z49 ?_|refine Z50 ?_|refine Z51 ?_|refine Z52 ?_|refine Z53 ?_|refine Z54 ?_|refine Z58 ?_
        |refine Z59 ?_|refine Z70 ?_|refine Z84 fun _ => ?_|refine Z85 fun _ => ?_)
      exact st_round (i + 1, e1.set i 7) ⟨by show i + 1 ≤ n1; omega, by simp [l1]⟩ (by show n1 - (i + 1) < n1 - i; omega) (by repeat (first | apply subL.nil | refine subL.cons (by rfl) ?_)) (by repeat (first | apply SubW.nil | refine SubW.cons (by repeat (first | apply Find.here | apply Find.there)) ?_))
    clear h hi
    repeat (first
      |refine Z01 ?_|refine Z02 ?_|refine Z03 ?_|refine Z04 ?_|refine Z05 ?_|refine Z06 ?_|refine Z07 ?_|refine Z08 ?_|refine Z09 ?_|refine Z10 ?_|refine Z11 ?_
      |refine Z12 ?_|refine Z13 ?_|refine Z14 ?_|refine Z15 ?_|refine Z17 ?_|refine Z18 ?_|refine Z19 ?_|refine Z20 ?_|refine Z21 ?_|refine Z22 ?_|refine Z23 ?_
      |refine Z29 ?_|refine Z30 ?_|refine Z31 ?_|refine Z32 ?_|refine Z49 ?_|refine Z50 ?_|refine Z51 ?_|refine Z52 ?_|refine Z53 ?_|refine Z54 ?_|refine Z58 ?_
      |refine Z59 ?_|refine Z70 ?_|refine Z84 fun _ => ?_|refine Z85 fun _ => ?_)
    refine st_loop (ι := Nat × List Nat) (fun p => p.1 ≤ n2 ∧ p.2.length = n2) (fun p => [(0, s1), (1, s2), (5, .bool true), (6, y0), (7, x0), (8, a1), (10, a2), (12, a3), (13, a4), (16, N .i64 p.1)]) (fun p => [.sl a4 (e4.map (N .u64)) 49, .sl a3 (e3.map (N .u64)) 49, .sl a2 (p.2.map (N .u64)) 49, .sl a1 (e1.map (N .u64)) 49, .sl x0 (ys.map (N .u64)) 49, .sl y0 (xs.map (N .u64)) 49]) (fun p => n2 - p.1) (0, e2) ⟨Nat.zero_le _, l2⟩ (by repeat (first | apply subL.nil | refine subL.cons (by rfl) ?_)) (by repeat (first | apply SubW.nil | refine SubW.cons (by repeat (first | apply Find.here | apply Find.there)) ?_)) ?_
    clear l2 e2
    rintro ⟨i, e2⟩ ⟨hi, l2⟩
    dsimp only at hi l2 ⊢
    repeat (first
      |refine Z01 ?_|refine Z02 ?_|refine Z03 ?_|refine Z04 ?_|refine Z05 ?_|refine Z06 ?_|refine Z07 ?_|refine Z08 ?_|refine Z09 ?_|refine Z10 ?_|refine Z11 ?_
      |refine Z12 ?_|refine Z13 ?_|refine Z14 ?_|refine Z15 ?_|refine Z17 ?_|refine Z18 ?_|refine Z19 ?_|refine Z20 ?_|refine Z21 ?_|refine Z22 ?_|refine Z23 ?_
      |refine Z29 ?_|refine Z30 ?_|refine Z31 ?_|refine Z32 ?_|refine Z49 ?_|refine Z50 ?_|refine Z51 ?_|refine Z52 ?_|refine Z53 ?_|refine Z54 ?_|refine Z58 ?_
      |refine Z59 ?_|refine Z70 ?_|refine Z84 fun _ => ?_|refine Z85 fun _ => ?_)
    refine st_cond (by rfl) (fun h => ?_) (fun h => ?_)
    · repeat (first
        |refine Z01 ?_|refine Z02 ?_|refine Z03 ?_|refine Z04 ?_|refine Z05 ?_|refine Z06 ?_|refine Z07 ?_|refine Z08 ?_|refine Z09 ?_|refine Z10 ?_|refine Z11 ?_
        |refine Z12 ?_|refine Z13 ?_|refine Z14 ?_|refine Z15 ?_|refine Z17 ?_|refine Z18 ?_|refine Z19 ?_|refine Z20 ?_|refine Z21 ?_|refine Z22 ?_|refine Z23 ?_
        |refine Z29 ?_|refine Z30 ?_|refine Z31 ?_|refine Z32 ?_|refine Z49 ?_|refine Z50 ?_|refine Z51 ?_|refine Z52 ?_|refine Z53 ?_|refine Z54 ?_|refine Z58 ?_
        |refine Z59 ?_|refine Z70 ?_|refine Z84 fun _ => ?_|refine Z85 fun _ => ?_)
      exact st_round (i + 1, e2.set i 7) ⟨by show i + 1 ≤ n2; omega, by simp [l2]⟩ (by show n2 - (i + 1) < n2 - i; omega) (by repeat (first | apply subL.nil | refine subL.cons (by rfl) ?_)) (by repeat (first | apply SubW.nil | refine SubW.cons (by repeat (first | apply Find.here | apply Find.there)) ?_))
    clear h hi
    repeat (first
      |refine Z01 ?_|refine Z02 ?_|refine Z03 ?_|refine Z04 ?_|refine Z05 ?_|refine Z06 ?_|refine Z07 ?_|refine Z08 ?_|refine Z09 ?_|refine Z10 ?_|refine Z11 ?_
      |refine Z12 ?_|refine Z13 ?_|refine Z14 ?_|refine Z15 ?_|refine Z17 ?_|refine Z18 ?_|refine Z19 ?_|refine Z20 ?_|refine Z21 ?_|refine Z22 ?_|refine Z23 ?_
      |refine Z29 ?_|refine Z30 ?_|refine Z31 ?_|refine Z32 ?_|refine Z49 ?_|refine Z50 ?_|refine Z51 ?_|refine Z52 ?_|refine Z53 ?_|refine Z54 ?_|refine Z58 ?_
      |refine Z59 ?_|refine Z70 ?_|refine Z84 fun _ => ?_|refine Z85 fun _ => ?_)
    refine st_loop (ι := Nat × List Nat) (fun p => p.1 ≤ n3 ∧ p.2.length = n3) (fun p => [(0, s1), (1, s2), (5, .bool true), (6, y0), (7, x0), (8, a1), (10, a2), (12, a3), (13, a4), (17, N .i64 p.1)]) (fun p => [.sl a4 (e4.map (N .u64)) 49, .sl a3 (p.2.map (N .u64)) 49, .sl a2 (e2.map (N .u64)) 49, .sl a1 (e1.map (N .u64)) 49, .sl x0 (ys.map (N .u64)) 49, .sl y0 (xs.map (N .u64)) 49]) (fun p => n3 - p.1) (0, e3) ⟨Nat.zero_le _, l3⟩ (by repeat (first | apply subL.nil | refine subL.cons (by rfl) ?_)) (by repeat (first | apply SubW.nil | refine SubW.cons (by repeat (first | apply Find.here | apply Find.there)) ?_)) ?_
    clear l3 e3
    rintro ⟨i, e3⟩ ⟨hi, l3⟩
    dsimp only at hi l3 ⊢
    repeat (first
      |refine Z01 ?_|refine Z02 ?_|refine Z03 ?_|refine Z04 ?_|refine Z05 ?_|refine Z06 ?_|refine Z07 ?_|refine Z08 ?_|refine Z09 ?_|refine Z10 ?_|refine Z11 ?_
      |refine Z12 ?_|refine Z13 ?_|refine Z14 ?_|refine Z15 ?_|refine Z17 ?_|refine Z18 ?_|refine Z19 ?_|refine Z20 ?_|refine Z21 ?_|refine Z22 ?_|refine Z23 ?_
      |refine Z29 ?_|refine Z30 ?_|refine Z31 ?_|refine Z32 ?_|refine Z49 ?_|refine Z50 ?_|refine Z51 ?_|refine Z52 ?_|refine Z53 ?_|refine Z54 ?_|refine Z58 ?_
      |refine Z59 ?_|refine Z70 ?_|refine Z84 fun _ => ?_|refine Z85 fun _ => ?_)
    refine st_cond (by rfl) (fun h => ?_) (fun h => ?_)
    · repeat (first
        |refine Z01 ?_|refine Z02 ?_|refine Z03 ?_|refine Z04 ?_|refine Z05 ?_|refine Z06 ?_|refine Z07 ?_|refine Z08 ?_|refine Z09 ?_|refine Z10 ?_|refine Z11 ?_
        |refine Z12 ?_|refine Z13 ?_|refine Z14 ?_|refine Z15 ?_|refine Z17 ?_|refine Z18 ?_|refine Z19 ?_|refine Z20 ?_|refine Z21 ?_|refine Z22 ?_|refine Z23 ?_
        |refine Z29 ?_|refine Z30 ?_|refine Z31 ?_|refine Z32 ?_|refine Z49 ?_|refine Z50 ?_|refine Z51 ?_|refine Z52 ?_|refine Z53 ?_|refine Z54 ?_|refine Z58 ?_
        |refine Z59 ?_|refine Z70 ?_|refine Z84 fun _ => ?_|refine Z85 fun _ => ?_)
      exact st_round (i + 1, e3.set i 7) ⟨by show i + 1 ≤ n3; omega, by simp [l3]⟩ (by show n3 - (i + 1) < n3 - i; omega) (by repeat (first | apply subL.nil | refine subL.cons (by rfl) ?_)) (by repeat (first | apply SubW.nil | refine SubW.cons (by repeat (first | apply Find.here | apply Find.there)) ?_))
    clear h hi
    repeat (first
      |refine Z01 ?_|refine Z02 ?_|refine Z03 ?_|refine Z04 ?_|refine Z05 ?_|refine Z06 ?_|refine Z07 ?_|refine Z08 ?_|refine Z09 ?_|refine Z10 ?_|refine Z11 ?_
      |refine Z12 ?_|refine Z13 ?_|refine Z14 ?_|refine Z15 ?_|refine Z17 ?_|refine Z18 ?_|refine Z19 ?_|refine Z20 ?_|refine Z21 ?_|refine Z22 ?_|refine Z23 ?_
      |refine Z29 ?_|refine Z30 ?_|refine Z31 ?_|refine Z32 ?_|refine Z49 ?_|refine Z50 ?_|refine Z51 ?_|refine Z52 ?_|refine Z53 ?_|refine Z54 ?_|refine Z58 ?_
      |refine Z59 ?_|refine Z70 ?_|refine Z84 fun _ => ?_|refine Z85 fun _ => ?_)
    refine st_loop (ι := Nat × List Nat) (fun p => p.1 ≤ n4 ∧ p.2.length = n4) (fun p => [(0, s1), (1, s2), (5, .bool true), (6, y0), (7, x0), (8, a1), (10, a2), (12, a3), (13, a4), (18, N .i64 p.1)]) (fun p => [.sl a4 (p.2.map (N .u64)) 49, .sl a3 (e3.map (N .u64)) 49, .sl a2 (e2.map (N .u64)) 49, .sl a1 (e1.map (N .u64)) 49, .sl x0 (ys.map (N .u64)) 49, .sl y0 (xs.map (N .u64)) 49]) (fun p => n4 - p.1) (0, e4) ⟨Nat.zero_le _, l4⟩ (by repeat (first | apply subL.nil | refine subL.cons (by rfl) ?_)) (by repeat (first | apply SubW.nil | refine SubW.cons (by repeat (first | apply Find.here | apply Find.there)) ?_)) ?_
    clear l4 e4
    rintro ⟨i, e4⟩ ⟨hi, l4⟩
    dsimp only at hi l4 ⊢
    repeat (first
      |refine Z01 ?_|refine Z02 ?_|refine Z03 ?_|refine Z04 ?_|refine Z05 ?_|refine Z06 ?_|refine Z07 ?_|refine Z08 ?_|refine Z09 ?_|refine Z10 ?_|refine Z11 ?_
      |refine Z12 ?_|refine Z13 ?_|refine Z14 ?_|refine Z15 ?_|refine Z17 ?_|refine Z18 ?_|refine Z19 ?_|refine Z20 ?_|refine Z21 ?_|refine Z22 ?_|refine Z23 ?_
      |refine Z29 ?_|refine Z30 ?_|refine Z31 ?_|refine Z32 ?_|refine Z49 ?_|refine Z50 ?_|refine Z51 ?_|refine Z52 ?_|refine Z53 ?_|refine Z54 ?_|refine Z58 ?_
      |refine Z59 ?_|refine Z70 ?_|refine Z84 fun _ => ?_|refine Z85 fun _ => ?_)
    refine st_cond (by rfl) (fun h => ?_) (fun h => ?_)
    · repeat (first
        |refine Z01 ?_|refine Z02 ?_|refine Z03 ?_|refine Z04 ?_|refine Z05 ?_|refine Z06 ?_|refine Z07 ?_|refine Z08 ?_|refine Z09 ?_|refine Z10 ?_|refine Z11 ?_
        |refine Z12 ?_|refine Z13 ?_|refine Z14 ?_|refine Z15 ?_|refine Z17 ?_|refine Z18 ?_|refine Z19 ?_|refine Z20 ?_|refine Z21 ?_|refine Z22 ?_|refine Z23 ?_
        |refine Z29 ?_|refine Z30 ?_|refine Z31 ?_|refine Z32 ?_|refine Z49 ?_|refine Z50 ?_|refine Z51 ?_|refine Z52 ?_|refine Z53 ?_|refine Z54 ?_|refine Z58 ?_
        |refine Z59 ?_|refine Z70 ?_|refine Z84 fun _ => ?_|refine Z85 fun _ => ?_)
      exact st_round (i + 1, e4.set i 7) ⟨by show i + 1 ≤ n4; omega, by simp [l4]⟩ (by show n4 - (i + 1) < n4 - i; omega) (by repeat (first | apply subL.nil | refine subL.cons (by rfl) ?_)) (by repeat (first | apply SubW.nil | refine SubW.cons (by repeat (first | apply Find.here | apply Find.there)) ?_))
    clear h hi
    repeat (first
      
      |(refine st_callV (by rfl) (by rfl) (by rfl) (same3_spec y0 s1 xs xs (by omega)) (fun w hw => ⟨RdW.own (by repeat (first | apply Find.here | apply Find.there)) w hw, RdW.old hr1 w hw⟩) (by rfl) ?_)
      |(refine st_callV (by rfl) (by rfl) (by rfl) (same3_spec x0 s2 ys ys (by omega)) (fun w hw => ⟨RdW.own (by repeat (first | apply Find.here | apply Find.there)) w hw, RdW.old hr2 w hw⟩) (by rfl) ?_)
      |(rw [decide_eq_true (p := xs = xs) rfl])|(rw [decide_eq_true (p := ys = ys) rfl])|refine Z01 ?_|refine Z02 ?_|refine Z03 ?_|refine Z04 ?_|refine Z05 ?_
      |refine Z06 ?_|refine Z07 ?_|refine Z08 ?_|refine Z09 ?_|refine Z10 ?_|refine Z11 ?_|refine Z12 ?_|refine Z13 ?_|refine Z14 ?_|refine Z15 ?_|refine Z17 ?_
      |refine Z18 ?_|refine Z19 ?_|refine Z20 ?_|refine Z21 ?_|refine Z22 ?_|refine Z23 ?_|refine Z29 ?_|refine Z30 ?_|refine Z31 ?_|refine Z32 ?_|refine Z49 ?_
      |refine Z50 ?_|refine Z51 ?_|refine Z52 ?_|refine Z53 ?_|refine Z54 ?_|refine Z58 ?_|refine Z59 ?_|refine Z70 ?_|refine Z84 fun _ => ?_|refine Z85 fun _ => ?_)
    refine Ze1 fun _ hw => post_of hw SubW.nil ⟨?_, rfl⟩
    rfl
end Go.Proofs.Ytefhbmhanajfoaa.L
