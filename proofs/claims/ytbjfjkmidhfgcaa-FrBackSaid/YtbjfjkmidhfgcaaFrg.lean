/- The walks of the laws of numbers modulo r. Conditions: as each statement says. -/
import Derived.Test.YtbjfjkmidhfgcaaAuto
import Derived.Test.YtbjfjkmidhfgcaaPerm
import Derived.Test.YtbjfjkmidhfgcaaMore
import Derived.Test.YtbjfjkmidhfgcaaProg
import Derived.Test.YtbjfjkmidhfgcaaNum
import Derived.Test.YtbjfjkmidhfgcaaLmb
import Derived.Test.YtbjfjkmidhfgcaaLmd
import Derived.Test.YtbjfjkmidhfgcaaLmo
import Derived.Test.YtbjfjkmidhfgcaaLmk
import Derived.Test.YtbjfjkmidhfgcaaScope
import Derived.Test.YtbjfjkmidhfgcaaJoin
import Derived.Test.YtbjfjkmidhfgcaaLma
import Derived.Test.YtbjfjkmidhfgcaaLmz
import Derived.Test.YtbjfjkmidhfgcaaLmc
import Derived.Test.YtbjfjkmidhfgcaaLme
import Derived.Test.YtbjfjkmidhfgcaaLmf
import Derived.Test.YtbjfjkmidhfgcaaLmh
import Derived.Test.YtbjfjkmidhfgcaaLmj
import Derived.Test.YtbjfjkmidhfgcaaShaT
import Derived.Test.YtbjfjkmidhfgcaaLmp
import Derived.Test.YtbjfjkmidhfgcaaLmq
import Derived.Test.YtbjfjkmidhfgcaaLmv
import Derived.Test.YtbjfjkmidhfgcaaLmw
import Derived.Test.YtbjfjkmidhfgcaaLmx
import Derived.Test.YtbjfjkmidhfgcaaLmy
import Derived.Test.YtbjfjkmidhfgcaaLna
import Derived.Test.YtbjfjkmidhfgcaaWin
import Derived.Test.YtbjfjkmidhfgcaaGho
import Derived.Test.YtbjfjkmidhfgcaaBld
import Derived.Test.YtbjfjkmidhfgcaaArr
import Derived.Test.YtbjfjkmidhfgcaaPq
import Derived.Test.YtbjfjkmidhfgcaaFra
import Derived.Test.YtbjfjkmidhfgcaaFrb
import Derived.Test.YtbjfjkmidhfgcaaFrc
import Derived.Test.YtbjfjkmidhfgcaaFrd
import Derived.Test.YtbjfjkmidhfgcaaFre
import Derived.Test.YtbjfjkmidhfgcaaFrf
namespace Go.Proofs.Ytbjfjkmidhfgcaa.L
open Go Go.Proofs
set_option maxRecDepth 100000
attribute [local irreducible] Code.wp wpList Af bodyPost L.Go
open Num
attribute [local simp] D_len octs_len

theorem same6_spec (s t : Value) (ds es : List Int) (hl : ds.length < 4294967296) :
    Spec Try.prog 50 [s, t] (fun w => Rd w s (IV ds) ∧ Rd w t (IV es)) [] (IsV (.bool (decide (ds = es)))) := by
  refine mk_spec Try.func50 rfl rfl rfl fun w hr => ?_
  have hr1 := RdC.mk0 hr.1
  have hr2 := RdC.mk0 hr.2
  repeat (first
    |(refine st_lenI (by rfl) (by rfl) (RdW.old hr1) (by rfl) ?_)|(refine st_lenI (by rfl) (by rfl) (RdW.old hr2) (by rfl) ?_)|refine Z01 ?_|refine Z02 ?_|refine Z03 ?_
    |refine Z04 ?_|refine Z05 ?_|refine Z06 ?_|refine Z07 ?_|refine Z08 ?_|refine Z09 ?_|refine Z10 ?_|refine Z11 ?_|refine Z12 ?_|refine Z13 ?_|refine Z14 ?_
    |refine Z15 ?_|refine Z17 ?_|refine Z18 ?_|refine Z20 ?_|refine Z21 ?_|refine Z22 ?_|refine Z23 ?_|refine Z24 ?_|refine Z25 ?_|refine Z26 ?_|refine Z27 ?_
    |refine Z28 ?_|refine Z58 ?_|refine Z59 ?_|refine Z67 ?_|refine Z70 ?_)
  refine st_cond (by rfl) (fun h => ?_) (fun h => ?_)
  · repeat (first
      |refine Z01 ?_|refine Z02 ?_|refine Z03 ?_|refine Z04 ?_|refine Z05 ?_|refine Z06 ?_|refine Z07 ?_|refine Z08 ?_|refine Z09 ?_|refine Z10 ?_|refine Z11 ?_
      |refine Z12 ?_|refine Z13 ?_|refine Z14 ?_|refine Z15 ?_|refine Z17 ?_|refine Z18 ?_|refine Z20 ?_|refine Z21 ?_|refine Z22 ?_|refine Z23 ?_|refine Z24 ?_
      |refine Z25 ?_|refine Z26 ?_|refine Z27 ?_|refine Z28 ?_|refine Z58 ?_|refine Z59 ?_|refine Z67 ?_|refine Z70 ?_)
    refine Ze1 fun _ hw => post_of hw SubW.nil ⟨?_, rfl⟩
    rw [decide_eq_false (fun he => by subst he; omega)]
  · have hll : ds.length = es.length := by omega
    repeat (first
      |refine Z01 ?_|refine Z02 ?_|refine Z03 ?_|refine Z04 ?_|refine Z05 ?_|refine Z06 ?_|refine Z07 ?_|refine Z08 ?_|refine Z09 ?_|refine Z10 ?_|refine Z11 ?_
      |refine Z12 ?_|refine Z13 ?_|refine Z14 ?_|refine Z15 ?_|refine Z17 ?_|refine Z18 ?_|refine Z20 ?_|refine Z21 ?_|refine Z22 ?_|refine Z23 ?_|refine Z24 ?_
      |refine Z25 ?_|refine Z26 ?_|refine Z27 ?_|refine Z28 ?_|refine Z58 ?_|refine Z59 ?_|refine Z67 ?_|refine Z70 ?_)
    refine st_loop (ι := Nat) (fun i => i ≤ ds.length ∧ ∀ j, j < i → ds.getD j 0 = es.getD j 0) (fun i => [(0, s), (1, t), (5, N .i64 i)]) (fun _ => []) (fun i => ds.length - i) 0 ⟨Nat.zero_le _, fun j hj => by omega⟩ (by repeat (first | apply subL.nil | refine subL.cons (by rfl) ?_)) (by repeat (first | apply SubW.nil | refine SubW.cons (by repeat (first | apply Find.here | apply Find.there)) ?_)) ?_
    rintro i ⟨hi, hs⟩
    by_cases hil : i < ds.length
    · repeat (first
        |(refine st_cmp (r := true) (by rfl) (by rfl) (cmpN_t (by first | (simp only [cmpP]; done) | (simp only [cmpP]; omega))) (by rfl) ?_)
        |(refine st_lenI (by rfl) (by rfl) (RdW.old hr1) (by rfl) ?_)|refine Z01 ?_|refine Z02 ?_|refine Z03 ?_|refine Z04 ?_|refine Z05 ?_|refine Z06 ?_|refine Z07 ?_
        |refine Z08 ?_|refine Z09 ?_|refine Z10 ?_|refine Z11 ?_|refine Z12 ?_|refine Z13 ?_|refine Z14 ?_|refine Z15 ?_|refine Z17 ?_|refine Z18 ?_|refine Z20 ?_
        |refine Z21 ?_|refine Z22 ?_|refine Z23 ?_|refine Z24 ?_|refine Z25 ?_|refine Z26 ?_|refine Z27 ?_|refine Z28 ?_|refine Z58 ?_|refine Z59 ?_|refine Z67 ?_
        |refine Z70 ?_)
      refine st_draw1 (by rfl) ?_
      repeat (first
        |refine Zqf (by intro _ _ _;(first
          |refine Z01 ?_|refine Z02 ?_|refine Z15 ?_|refine Z17 ?_|refine Z18 ?_|refine Z20 ?_|refine Z21 ?_|refine Z22 ?_|refine Z23 ?_|refine Z58 ?_|refine Z59 ?_
          |refine Z70 ?_);exact Zq) ?_
        |refine Zqp (by intro _ _ _;(first
          |refine Z24 ?_|refine Z25 ?_|refine Z26 ?_|refine Z27 ?_|refine Z28 ?_|refine Z67 ?_|refine Z23 ?_|refine Z20 ?_|refine Z21 ?_);exact Zq) ?_
        |refine Zqp (by intro _ _ _;refine st_iaI (by rfl) (by rfl) (by rfl) (by rfl) (RdW.old (hr1.shift (by assumption))) hil (by rfl) ?_;exact Zq) ?_
        |refine Zqp (by intro _ _ _;refine st_iaI (by rfl) (by rfl) (by rfl) (by rfl) (RdW.old (hr2.shift (by assumption))) (by omega) (by rfl) ?_;exact Zq) ?_
        |refine Zqp (by intro _ _ _;refine st_load_I (by rfl) (RdW.old (hr1.shift (by assumption))) hil (by rfl) (by rfl) ?_;exact Zq) ?_
        |refine Zqp (by intro _ _ _;refine st_load_I (by rfl) (RdW.old (hr2.shift (by assumption))) (by omega) (by rfl) (by rfl) ?_;exact Zq) ?_
        |refine Zqn ?_)
      refine Zq0 ?_ (by kernel_rfl)
      repeat (first
        |refine Z01 ?_|refine Z02 ?_|refine Z03 ?_|refine Z04 ?_|refine Z05 ?_|refine Z06 ?_|refine Z07 ?_|refine Z08 ?_|refine Z09 ?_|refine Z10 ?_|refine Z11 ?_
        |refine Z12 ?_|refine Z13 ?_|refine Z14 ?_|refine Z15 ?_|refine Z17 ?_|refine Z18 ?_|refine Z20 ?_|refine Z21 ?_|refine Z22 ?_|refine Z23 ?_|refine Z24 ?_
        |refine Z25 ?_|refine Z26 ?_|refine Z27 ?_|refine Z28 ?_|refine Z58 ?_|refine Z59 ?_|refine Z67 ?_|refine Z70 ?_)
      refine st_cond (by rfl) (fun hc => ?_) (fun hc => ?_)
      · repeat (first
          |refine Z01 ?_|refine Z02 ?_|refine Z03 ?_|refine Z04 ?_|refine Z05 ?_|refine Z06 ?_|refine Z07 ?_|refine Z08 ?_|refine Z09 ?_|refine Z10 ?_|refine Z11 ?_
          |refine Z12 ?_|refine Z13 ?_|refine Z14 ?_|refine Z15 ?_|refine Z17 ?_|refine Z18 ?_|refine Z20 ?_|refine Z21 ?_|refine Z22 ?_|refine Z23 ?_|refine Z24 ?_
          |refine Z25 ?_|refine Z26 ?_|refine Z27 ?_|refine Z28 ?_|refine Z58 ?_|refine Z59 ?_|refine Z67 ?_|refine Z70 ?_)
        refine Ze1 fun _ hw => post_of hw SubW.nil ⟨?_, rfl⟩
        rw [decide_eq_false (fun he => by subst he; exact hc rfl)]
      · have he : ds.getD i 0 = es.getD i 0 := Classical.byContradiction hc
        repeat (first
          |refine Z01 ?_|refine Z02 ?_|refine Z03 ?_|refine Z04 ?_|refine Z05 ?_|refine Z06 ?_|refine Z07 ?_|refine Z08 ?_|refine Z09 ?_|refine Z10 ?_|refine Z11 ?_
          |refine Z12 ?_|refine Z13 ?_|refine Z14 ?_|refine Z15 ?_|refine Z17 ?_|refine Z18 ?_|refine Z20 ?_|refine Z21 ?_|refine Z22 ?_|refine Z23 ?_|refine Z24 ?_
          |refine Z25 ?_|refine Z26 ?_|refine Z27 ?_|refine Z28 ?_|refine Z58 ?_|refine Z59 ?_|refine Z67 ?_|refine Z70 ?_)
        exact st_round (i + 1) ⟨by omega, fun j hj => by
          rcases Nat.lt_or_ge j i with h1 | h1
          · exact hs j h1
          · rw [show j = i by omega]; exact he⟩ (by omega) (by repeat (first | apply subL.nil | refine subL.cons (by rfl) ?_)) (by repeat (first | apply SubW.nil | refine SubW.cons (by repeat (first | apply Find.here | apply Find.there)) ?_))
    · have hie : i = ds.length := by omega
      repeat (first
        |(refine st_cmp (r := false) (by rfl) (by rfl) (cmpN_f (by first | (simp only [cmpQ]; done) | (simp only [cmpQ]; omega))) (by rfl) ?_)
        |(refine st_lenI (by rfl) (by rfl) (RdW.old hr1) (by rfl) ?_)|refine Z01 ?_|refine Z02 ?_|refine Z03 ?_|refine Z04 ?_|refine Z05 ?_|refine Z06 ?_|refine Z07 ?_
        |refine Z08 ?_|refine Z09 ?_|refine Z10 ?_|refine Z11 ?_|refine Z12 ?_|refine Z13 ?_|refine Z14 ?_|refine Z15 ?_|refine Z17 ?_|refine Z18 ?_|refine Z20 ?_
        |refine Z21 ?_|refine Z22 ?_|refine Z23 ?_|refine Z24 ?_|refine Z25 ?_|refine Z26 ?_|refine Z27 ?_|refine Z28 ?_|refine Z58 ?_|refine Z59 ?_|refine Z67 ?_
        |refine Z70 ?_)
      refine Ze1 fun _ hw => post_of hw SubW.nil ⟨?_, rfl⟩
      have : ds = es := by
        apply List.ext_getElem hll
        intro j h1 h2
        have := hs j (by omega)
        rw [List.getD_eq_getElem?_getD, List.getD_eq_getElem?_getD, List.getElem?_eq_getElem h1, List.getElem?_eq_getElem h2] at this
        simpa using this
      rw [decide_eq_true this]

theorem k4 {x : Nat} (hx : x < W) : ([x] ++ List.replicate (4 - [x].length) 0 : List Nat) = D 4 x := by
  refine D_of_V (fun y hy => ?_) rfl ?_
  · simp at hy; rcases hy with rfl | ⟨_, rfl⟩ <;> first | exact hx | decide
  · rw [V_append, V_one, V_rep0, Nat.mul_zero, Nat.add_zero]
theorem two4 : ([2] ++ List.replicate (4 - [2].length) 0 : List Nat) = D 4 2 := k4 (by decide)
theorem k256 : ([256] ++ List.replicate (4 - [256].length) 0 : List Nat) = D 4 256 := k4 (by decide)
theorem a61 : (((r - 1 % r) % r + 2) % r) = 1 := by decide +kernel
theorem a62 : ((r - 1 % r) % r * ((r - 1 % r) % r) % r) = 1 := by decide +kernel
theorem a63 : bval [1, 0] % r = 256 := by decide +kernel
theorem a64 : digits 2 (V [7]) = [-1, 2] := by decide +kernel
set_option maxHeartbeats 4000000 in
theorem awake6_spec : Spec Try.prog 37 [] NoPre [] (IsV (.bool true)) := by
  refine mk_spec Try.func37 rfl rfl rfl fun w hr => ?_
  have h1 : 1 < W ^ 4 := by decide
  have h2 : 2 < W ^ 4 := by decide
  have hl := fun x => D_len 4 x
  repeat (first
    |(refine st_alloc (v := LV .u64 (List.replicate 4 0)) (by rfl) (by rfl) fun _ => ?_)|(rw [one4])|(rw [two4])|(rw [k256])
    |(refine st_buildP (kk := .u64) (vs := [1]) (by rfl) (by rfl) (by rfl) (by rfl) (by rfl) (by rfl) (by rfl) (by rfl) ?_)
    |(refine st_buildP (kk := .u64) (vs := [2]) (by rfl) (by rfl) (by rfl) (by rfl) (by rfl) (by rfl) (by rfl) (by rfl) ?_)
    |(refine st_buildP (kk := .u64) (vs := [256]) (by rfl) (by rfl) (by rfl) (by rfl) (by rfl) (by rfl) (by rfl) (by rfl) ?_)
    |(refine st_buildSliceN (vs := [7]) (kk := .u64) (by rfl) (by rfl) (by rfl) (by rfl) (by rfl) (by rfl) (by rfl) (by rfl) fun _ => ?_)
    |(refine st_buildSliceN (vs := [5]) (kk := .u64) (by rfl) (by rfl) (by rfl) (by rfl) (by rfl) (by rfl) (by rfl) (by rfl) fun _ => ?_)
    |(refine st_buildSliceN (vs := [1, 0]) (kk := .u8) (by rfl) (by rfl) (by rfl) (by rfl) (by rfl) (by rfl) (by rfl) (by rfl) fun _ => ?_)
    |(refine st_callV (by rfl) (by rfl) (by rfl) (fneg_spec h1) (fun _ _ => trivial) (by rfl) ?_)
    |(((refine st_call (by rfl) (by rfl) (by rfl) (windows_spec _ [7] 2 (lt64 rfl) (by decide) (by decide) (by decide)) .nil (RdW.own (by repeat (first | apply Find.here | apply Find.there))) (by rfl) ?_; rintro _ _ ⟨u, rfl, rfl⟩); rw [a64]))
    |(refine st_callV (by rfl) (by rfl) (by rfl) (windows_bad _ 9 (.inr (by decide))) (fun _ _ => trivial) (by rfl) ?_)
    |(refine st_callV (by rfl) (by rfl) (by rfl) (frombytes_len (.slice none 0 0) [] (by decide) (by decide)) (RdW.nil) (by rfl) ?_)
    |((refine st_callV (by rfl) (by rfl) (by rfl) (fadd_spec (mod_r _) h2) (fun _ _ => trivial) (by rfl) ?_; rw [a61]))
    |((refine st_callV (by rfl) (by rfl) (by rfl) (fmul_spec (mod_r _) (mod_r _)) (fun _ _ => trivial) (by rfl) ?_; rw [a62]))
    |((refine st_callV (by rfl) (by rfl) (by rfl) (foctets_spec _ [1, 0] (lt8 rfl) (by decide)) (RdW.own (by repeat (first | apply Find.here | apply Find.there))) (by rfl) ?_; rw [a63]))
    |(refine st_lenI (by rfl) (by rfl) (RdW.own (by repeat (first | apply Find.here | apply Find.there))) (by rfl) ?_)
    |(refine st_iaI (xs := [-1, 2]) (by rfl) (by first | (with_reducible apply evc) | rfl) (by rfl) (by rfl) (RdW.own (by repeat (first | apply Find.here | apply Find.there))) (by decide) (by rfl) ?_)
    |(refine st_load_I (xs := [-1, 2]) (by rfl) (RdW.own (by repeat (first | apply Find.here | apply Find.there))) (by decide) (by rfl) (by rfl) ?_)|refine Z01 ?_
    |refine Z02 ?_|refine Z03 ?_|refine Z04 ?_|refine Z05 ?_|refine Z06 ?_|refine Z07 ?_|refine Z08 ?_|refine Z09 ?_|refine Z10 ?_|refine Z11 ?_|refine Z12 ?_
    |refine Z13 ?_|refine Z14 ?_|refine Z17 ?_|refine Z18 ?_|refine Z19 ?_|refine Z20 ?_|refine Z21 ?_|refine Z22 ?_|refine Z23 ?_|refine Z24 ?_|refine Z25 ?_
    |refine Z26 ?_|refine Z27 ?_|refine Z28 ?_|refine Z29 ?_|refine Z30 ?_|refine Z31 ?_|refine Z32 ?_|refine Z49 ?_|refine Z50 ?_|refine Z51 ?_|refine Z52 ?_
    |refine Z53 ?_|refine Z58 ?_|refine Z59 ?_|refine Z65 ?_|refine Z67 ?_|refine Z77 ?_|refine Z78 ?_|refine Z79 ?_|refine Z82 fun _ => ?_|refine Z85 fun _ => ?_)
  refine Ze1 fun _ hw => post_of hw SubW.nil ⟨?_, rfl⟩
  rfl

theorem lawNames6_spec : Spec Try.prog 5 [] NoPre [] (IsV (.bool true)) := by
  refine mk_spec Try.func5 rfl rfl rfl fun w hr => ?_
  have hl := D_len 4 r
  repeat (first
    |(refine st_callV (by rfl) (by rfl) (by rfl) (awake6_spec) (fun _ _ => trivial) (by rfl) ?_)
    |(refine st_callV (by rfl) (by rfl) (by rfl) (fR_spec) (fun _ _ => trivial) (by rfl) ?_)
    |(refine st_callV (by rfl) (by rfl) (by rfl) (rR_spec) (fun _ _ => trivial) (by rfl) ?_)|(rw [decide_eq_true (p := D 4 r = D 4 r) rfl])|refine Z01 ?_|refine Z02 ?_
    |refine Z03 ?_|refine Z04 ?_|refine Z05 ?_|refine Z06 ?_|refine Z07 ?_|refine Z08 ?_|refine Z09 ?_|refine Z10 ?_|refine Z11 ?_|refine Z12 ?_|refine Z13 ?_
    |refine Z14 ?_|refine Z49 ?_|refine Z50 ?_|refine Z51 ?_|refine Z52 ?_|refine Z53 ?_|refine Z77 ?_|refine Z78 ?_|refine Z79 ?_)
  refine Ze1 fun _ hw => post_of hw SubW.nil ⟨?_, rfl⟩
  rfl

theorem arr4 {y : List Nat} (n : y.length = 4) (h : Lt 18446744073709551616 y) : ∃ a, a < W ^ 4 ∧ y = D 4 a :=
  ⟨V y, by rw [← n]; exact V_lt h, by rw [← n]; exact (D_V h).symm⟩

set_option maxHeartbeats 4000000 in
theorem lawTells6_spec (x : List Nat) (n1 : x.length = 4) (h1 : Lt 18446744073709551616 x) (y : List Nat) (n2 : y.length = 4) (h2 : Lt 18446744073709551616 y) :
    Spec Try.prog 6 [LV .u64 x, LV .u64 y] NoPre [] (IsV (.bool true)) := by
  obtain ⟨a, ha, rfl⟩ := arr4 n1 h1
  obtain ⟨b, hb, rfl⟩ := arr4 n2 h2
  refine mk_spec Try.func6 rfl rfl rfl fun w hr => ?_
  have hl := fun x => D_len 4 x
  repeat (first
    |(refine st_callV (by rfl) (by rfl) (by rfl) (awake6_spec) (fun _ _ => trivial) (by rfl) ?_)|refine Z01 ?_|refine Z02 ?_|refine Z03 ?_|refine Z04 ?_|refine Z05 ?_
    |refine Z06 ?_|refine Z07 ?_|refine Z08 ?_|refine Z09 ?_|refine Z10 ?_|refine Z11 ?_|refine Z12 ?_|refine Z13 ?_|refine Z14 ?_|refine Z24 ?_|refine Z25 ?_
    |refine Z26 ?_|refine Z27 ?_|refine Z28 ?_|refine Z49 ?_|refine Z50 ?_|refine Z51 ?_|refine Z52 ?_|refine Z53 ?_|refine Z67 ?_|refine Z77 ?_|refine Z78 ?_
    |refine Z79 ?_|refine Z81 fun _ => ?_)
  refine st_draw1 (by rfl) ?_
  repeat (first
    |refine Zqf (by intro _ _ _;(first
      |refine Z01 ?_|refine Z02 ?_|refine Z49 ?_|refine Z50 ?_|refine Z77 ?_|refine Z78 ?_|refine Z79 ?_);exact Zq) ?_
    |refine Zqp (by intro _ _ _;(first
      |refine Z24 ?_|refine Z25 ?_|refine Z26 ?_|refine Z27 ?_|refine Z28 ?_|refine Z67 ?_);exact Zq) ?_
    |refine Zqp (by intro _ _ _;refine st_callV (by rfl) (by rfl) (by rfl) (freduce_spec ha) (fun _ _ => trivial) (by rfl) ?_;exact Zq) ?_
    |refine Zqp (by intro _ _ _;refine st_callV (by rfl) (by rfl) (by rfl) (rreduce_spec ha) (fun _ _ => trivial) (by rfl) ?_;exact Zq) ?_
    |refine Zqp (by intro _ _ _;refine st_callV (by rfl) (by rfl) (by rfl) (fadd_spec ha hb) (fun _ _ => trivial) (by rfl) ?_;exact Zq) ?_
    |refine Zqp (by intro _ _ _;refine st_callV (by rfl) (by rfl) (by rfl) (radd_spec ha hb) (fun _ _ => trivial) (by rfl) ?_;exact Zq) ?_
    |refine Zqp (by intro _ _ _;refine st_callV (by rfl) (by rfl) (by rfl) (fneg_spec ha) (fun _ _ => trivial) (by rfl) ?_;exact Zq) ?_
    |refine Zqp (by intro _ _ _;refine st_callV (by rfl) (by rfl) (by rfl) (rneg_spec ha) (fun _ _ => trivial) (by rfl) ?_;exact Zq) ?_
    |refine Zqn ?_)
  refine Zq0 ?_ (by kernel_rfl)
  repeat (first
    |refine Z01 ?_|refine Z02 ?_|refine Z03 ?_|refine Z04 ?_|refine Z05 ?_|refine Z06 ?_|refine Z07 ?_|refine Z08 ?_|refine Z09 ?_|refine Z10 ?_|refine Z11 ?_
    |refine Z12 ?_|refine Z13 ?_|refine Z14 ?_|refine Z24 ?_|refine Z25 ?_|refine Z26 ?_|refine Z27 ?_|refine Z28 ?_|refine Z49 ?_|refine Z50 ?_|refine Z51 ?_
    |refine Z52 ?_|refine Z53 ?_|refine Z67 ?_|refine Z77 ?_|refine Z78 ?_|refine Z79 ?_|refine Z81 fun _ => ?_)
  refine st_draw1 (by rfl) ?_
  repeat (first
    |refine Zqf (by intro _ _ _;(first
      |refine Z01 ?_|refine Z02 ?_|refine Z49 ?_|refine Z50 ?_|refine Z77 ?_|refine Z78 ?_|refine Z79 ?_);exact Zq) ?_
    |refine Zqp (by intro _ _ _;(first
      |refine Z24 ?_|refine Z25 ?_|refine Z26 ?_|refine Z27 ?_|refine Z28 ?_|refine Z67 ?_);exact Zq) ?_
    |refine Zqp (by intro _ _ _;refine st_callV (by rfl) (by rfl) (by rfl) (fmul_spec ha hb) (fun _ _ => trivial) (by rfl) ?_;exact Zq) ?_
    |refine Zqp (by intro _ _ _;refine st_callV (by rfl) (by rfl) (by rfl) (rmul_spec ha hb) (fun _ _ => trivial) (by rfl) ?_;exact Zq) ?_
    |refine Zqn ?_)
  refine Zq0 ?_ (by kernel_rfl)
  repeat (first
    |refine Z01 ?_|refine Z02 ?_|refine Z03 ?_|refine Z04 ?_|refine Z05 ?_|refine Z06 ?_|refine Z07 ?_|refine Z08 ?_|refine Z09 ?_|refine Z10 ?_|refine Z11 ?_
    |refine Z12 ?_|refine Z13 ?_|refine Z14 ?_|refine Z24 ?_|refine Z25 ?_|refine Z26 ?_|refine Z27 ?_|refine Z28 ?_|refine Z49 ?_|refine Z50 ?_|refine Z51 ?_
    |refine Z52 ?_|refine Z53 ?_|refine Z67 ?_|refine Z77 ?_|refine Z78 ?_|refine Z79 ?_|refine Z81 fun _ => ?_)
  refine Ze1 fun _ hw => post_of hw SubW.nil ⟨?_, rfl⟩
  rfl

theorem lawInverts6_spec (x : List Nat) (n1 : x.length = 4) (h1 : Lt 18446744073709551616 x) :
    Spec Try.prog 11 [LV .u64 x] NoPre [] (IsV (.bool true)) := by
  obtain ⟨a, ha, rfl⟩ := arr4 n1 h1
  refine mk_spec Try.func11 rfl rfl rfl fun w hr => ?_
  have hl := fun x => D_len 4 x
  repeat (first
    |(refine st_callV (by rfl) (by rfl) (by rfl) (awake6_spec) (fun _ _ => trivial) (by rfl) ?_)|refine Z01 ?_|refine Z02 ?_|refine Z03 ?_|refine Z04 ?_|refine Z05 ?_
    |refine Z06 ?_|refine Z07 ?_|refine Z08 ?_|refine Z09 ?_|refine Z10 ?_|refine Z11 ?_|refine Z12 ?_|refine Z13 ?_|refine Z14 ?_|refine Z24 ?_|refine Z25 ?_
    |refine Z26 ?_|refine Z27 ?_|refine Z28 ?_|refine Z49 ?_|refine Z50 ?_|refine Z51 ?_|refine Z52 ?_|refine Z53 ?_|refine Z67 ?_|refine Z77 ?_|refine Z78 ?_
    |refine Z79 ?_|refine Z81 fun _ => ?_)
  refine st_draw1 (by rfl) ?_
  repeat (first
    |refine Zqf (by intro _ _ _;(first
      |refine Z01 ?_|refine Z02 ?_|refine Z49 ?_|refine Z50 ?_|refine Z77 ?_|refine Z78 ?_|refine Z79 ?_);exact Zq) ?_
    |refine Zqp (by intro _ _ _;(first
      |refine Z24 ?_|refine Z25 ?_|refine Z26 ?_|refine Z27 ?_|refine Z28 ?_|refine Z67 ?_);exact Zq) ?_
    |refine Zqp (by intro _ _ _;refine st_callV (by rfl) (by rfl) (by rfl) (finv_spec ha) (fun _ _ => trivial) (by rfl) ?_;exact Zq) ?_
    |refine Zqp (by intro _ _ _;refine st_callV (by rfl) (by rfl) (by rfl) (rinv_spec ha) (fun _ _ => trivial) (by rfl) ?_;exact Zq) ?_
    |refine Zqn ?_)
  refine Zq0 ?_ (by kernel_rfl)
  repeat (first
    |refine Z01 ?_|refine Z02 ?_|refine Z03 ?_|refine Z04 ?_|refine Z05 ?_|refine Z06 ?_|refine Z07 ?_|refine Z08 ?_|refine Z09 ?_|refine Z10 ?_|refine Z11 ?_
    |refine Z12 ?_|refine Z13 ?_|refine Z14 ?_|refine Z24 ?_|refine Z25 ?_|refine Z26 ?_|refine Z27 ?_|refine Z28 ?_|refine Z49 ?_|refine Z50 ?_|refine Z51 ?_
    |refine Z52 ?_|refine Z53 ?_|refine Z67 ?_|refine Z77 ?_|refine Z78 ?_|refine Z79 ?_|refine Z81 fun _ => ?_)
  refine Ze1 fun _ hw => post_of hw SubW.nil ⟨?_, rfl⟩
  rfl

theorem lawWindows6_spec (s : Value) (xs : List Nat) (hx : Lt 18446744073709551616 xs) (x63 : xs.length < 9223372036854775808) (n : Int) (hn : -9223372036854775808 ≤ n ∧ n < 9223372036854775808) :
    Spec Try.prog 7 [s, .int .i64 n] (fun w => Rd w s (xs.map (N .u64))) [] (IsV (.bool true)) := by
  refine mk_spec Try.func7 rfl rfl rfl fun w hr0 => ?_
  have hr := RdC.mk0 hr0
  by_cases h1 : 12 < xs.length
  · repeat (first
      |(refine st_callV (by rfl) (by rfl) (by rfl) (awake6_spec) (fun _ _ => trivial) (by rfl) ?_)
      |(refine st_cmp (r := true) (by rfl) (by rfl) (cmpN_t (by first | (simp only [cmpP]; done) | (simp only [cmpP]; omega))) (by rfl) ?_)|refine Z01 ?_|refine Z02 ?_
      |refine Z03 ?_|refine Z04 ?_|refine Z05 ?_|refine Z06 ?_|refine Z07 ?_|refine Z08 ?_|refine Z09 ?_|refine Z10 ?_|refine Z11 ?_|refine Z12 ?_|refine Z13 ?_
      |refine Z14 ?_|refine Z17 ?_|refine Z18 ?_|refine Z19 ?_|refine Z20 ?_|refine Z21 ?_|refine Z49 ?_|refine Z50 ?_|refine Z51 ?_|refine Z52 ?_|refine Z53 ?_
      |refine Z58 ?_|refine Z59 ?_)
    refine Ze1 fun _ hw => post_of hw SubW.nil ⟨?_, rfl⟩
    rfl
  by_cases hb : n < 2 ∨ 8 < n
  · repeat (first
      |(refine st_callV (by rfl) (by rfl) (by rfl) (awake6_spec) (fun _ _ => trivial) (by rfl) ?_)
      |(refine st_cmp (r := false) (by rfl) (by rfl) (cmpN_f (by first | (simp only [cmpQ]; done) | (simp only [cmpQ]; omega))) (by rfl) ?_)
      |(refine st_callV (by rfl) (by rfl) (by rfl) (windows_bad s n hb) (fun _ _ => trivial) (by rfl) ?_)
      |(refine st_callV (by rfl) (by rfl) (by rfl) (rwindows_bad s n hb) (fun _ _ => trivial) (by rfl) ?_)
      |(refine st_callV (by rfl) (by rfl) (by rfl) (same6_spec _ _ ([] : List Int) ([] : List Int) (by decide)) (fun w _ => ⟨Rd.nil w, Rd.nil w⟩) (by rfl) ?_)
      |(rw [decide_eq_true (p := ([] : List Int) = ([] : List Int)) rfl])|refine Z01 ?_|refine Z02 ?_|refine Z03 ?_|refine Z04 ?_|refine Z05 ?_|refine Z06 ?_
      |refine Z07 ?_|refine Z08 ?_|refine Z09 ?_|refine Z10 ?_|refine Z11 ?_|refine Z12 ?_|refine Z13 ?_|refine Z14 ?_|refine Z17 ?_|refine Z18 ?_|refine Z19 ?_
      |refine Z20 ?_|refine Z21 ?_|refine Z49 ?_|refine Z50 ?_|refine Z51 ?_|refine Z52 ?_|refine Z53 ?_|refine Z58 ?_|refine Z59 ?_)
    refine Ze1 fun _ hw => post_of hw SubW.nil ⟨?_, rfl⟩
    rfl
  · obtain ⟨m, rfl⟩ : ∃ m, n = Int.ofNat m := ⟨n.toNat, by simp; omega⟩
    have hm : 2 ≤ m ∧ m ≤ 8 := by simp only [Int.ofNat_eq_natCast] at hb; omega
    have hdl := digits_bound hm.1 (A := V xs) (n := 64 * xs.length) (by have := V_lt hx; rw [W_2, ← Nat.pow_mul] at this; exact this)
    generalize hds : digits m (V xs) = ds at hdl
    repeat (first
      |(refine st_callV (by rfl) (by rfl) (by rfl) (awake6_spec) (fun _ _ => trivial) (by rfl) ?_)
      |(refine st_cmp (r := false) (by rfl) (by rfl) (cmpN_f (by first | (simp only [cmpQ]; done) | (simp only [cmpQ]; omega))) (by rfl) ?_)
      |(((refine st_call (by rfl) (by rfl) (by rfl) (windows_spec s xs m hx (by omega) hm.1 hm.2) .nil (RdW.old hr) (by rfl) ?_; rintro _ _ ⟨u1, rfl, rfl⟩); rw [hds]))
      |(((refine st_call (by rfl) (by rfl) (by rfl) (rwindows_spec s xs m hx (by omega) hm.1 hm.2) .nil (RdW.old hr) (by rfl) ?_; rintro _ _ ⟨u2, rfl, rfl⟩); rw [hds]))
      |(refine st_callV (by rfl) (by rfl) (by rfl) (same6_spec _ _ ds ds (by omega)) (fun w hw => ⟨RdW.own (by repeat (first | apply Find.here | apply Find.there)) w hw, RdW.own (by repeat (first | apply Find.here | apply Find.there)) w hw⟩) (by rfl) ?_)
      |(rw [decide_eq_true (p := ds = ds) rfl])|refine Z01 ?_|refine Z02 ?_|refine Z03 ?_|refine Z04 ?_|refine Z05 ?_|refine Z06 ?_|refine Z07 ?_|refine Z08 ?_
      |refine Z09 ?_|refine Z10 ?_|refine Z11 ?_|refine Z12 ?_|refine Z13 ?_|refine Z14 ?_|refine Z17 ?_|refine Z18 ?_|refine Z19 ?_|refine Z20 ?_|refine Z21 ?_
      |refine Z49 ?_|refine Z50 ?_|refine Z51 ?_|refine Z52 ?_|refine Z53 ?_|refine Z58 ?_|refine Z59 ?_)
    refine Ze1 fun _ hw => post_of hw SubW.nil ⟨?_, rfl⟩
    rfl
end Go.Proofs.Ytbjfjkmidhfgcaa.L
