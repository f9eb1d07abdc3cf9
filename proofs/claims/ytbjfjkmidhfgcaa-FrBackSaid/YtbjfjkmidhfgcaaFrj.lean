/- The walk of the law of numbers read from their bytes. Condition: as the statement says. -/
import Derived.Test.YtbjfjkmidhfgcaaAuto
import Derived.Test.YtbjfjkmidhfgcaaPerm
import Derived.Test.YtbjfjkmidhfgcaaMore
import Derived.Test.YtbjfjkmidhfgcaaProg
import Derived.Test.YtbjfjkmidhfgcaaNum
import Derived.Test.YtbjfjkmidhfgcaaLmb
import Derived.Test.YtbjfjkmidhfgcaaLmd
import Derived.Test.YtbjfjkmidhfgcaaLmo
import Derived.Test.YtbjfjkmidhfgcaaLmk
import Derived.Test.YtbjfjkmidhfgcaaScope
import Derived.Test.YtbjfjkmidhfgcaaJoin
import Derived.Test.YtbjfjkmidhfgcaaLma
import Derived.Test.YtbjfjkmidhfgcaaLmz
import Derived.Test.YtbjfjkmidhfgcaaLmc
import Derived.Test.YtbjfjkmidhfgcaaLme
import Derived.Test.YtbjfjkmidhfgcaaLmf
import Derived.Test.YtbjfjkmidhfgcaaLmh
import Derived.Test.YtbjfjkmidhfgcaaLmj
import Derived.Test.YtbjfjkmidhfgcaaShaT
import Derived.Test.YtbjfjkmidhfgcaaLmp
import Derived.Test.YtbjfjkmidhfgcaaLmq
import Derived.Test.YtbjfjkmidhfgcaaLmv
import Derived.Test.YtbjfjkmidhfgcaaLmw
import Derived.Test.YtbjfjkmidhfgcaaLmx
import Derived.Test.YtbjfjkmidhfgcaaLmy
import Derived.Test.YtbjfjkmidhfgcaaLna
import Derived.Test.YtbjfjkmidhfgcaaWin
import Derived.Test.YtbjfjkmidhfgcaaGho
import Derived.Test.YtbjfjkmidhfgcaaBld
import Derived.Test.YtbjfjkmidhfgcaaArr
import Derived.Test.YtbjfjkmidhfgcaaStr
import Derived.Test.YtbjfjkmidhfgcaaPq
import Derived.Test.YtbjfjkmidhfgcaaFra
import Derived.Test.YtbjfjkmidhfgcaaFrb
import Derived.Test.YtbjfjkmidhfgcaaFrc
import Derived.Test.YtbjfjkmidhfgcaaFrd
import Derived.Test.YtbjfjkmidhfgcaaFre
import Derived.Test.YtbjfjkmidhfgcaaFrf
import Derived.Test.YtbjfjkmidhfgcaaFrg
namespace Go.Proofs.Ytbjfjkmidhfgcaa.L
open Go Go.Proofs
set_option maxRecDepth 100000
attribute [local irreducible] Code.wp wpList Af bodyPost L.Go
open Num
attribute [local simp] D_len octs_len

theorem z4b : ([] ++ List.replicate (4 - ([] : List Nat).length) 0 : List Nat) = D 4 0 := by rw [D_zero]; rfl
theorem octs_self {bs : List Nat} (hb : Lt 256 bs) : octs (bval bs) bs.length = bs := by
  apply List.ext_getElem (octs_len _ _)
  intro i h1 h2
  have e1 := octs_getD (bval bs) bs.length i h2
  rw [bval_digit hb h2, List.getD_eq_getElem?_getD, List.getD_eq_getElem?_getD, List.getElem?_eq_getElem h1, List.getElem?_eq_getElem h2] at e1
  simpa using e1
set_option maxHeartbeats 8000000 in
theorem lawBack6_spec (x : List Nat) (n1 : x.length = 4) (h1 : Lt 18446744073709551616 x) (s : Value) (bs : List Nat) (hb : Lt 256 bs) (b63 : bs.length < 9223372036854775808) :
    Spec Try.prog 10 [LV .u64 x, s] (fun w => Rd w s (bs.map (N .u8))) [] (IsV (.bool true)) := by
  obtain ⟨a, ha, rfl⟩ := arr4 n1 h1
  refine mk_spec Try.func10 rfl rfl rfl fun w hr => ?_
  have hr := RdC.mk0 hr
  have hl := fun x => D_len 4 x
  have h4 := hl (a % r)
  have h5 := hl r
  have hol := octs_len (a % r) 32
  have hob := octs_lt (a % r) 32
  have hlt := Nat.mod_lt a r_pos
  have hv : bval (octs (a % r) 32) = a % r := octs_bval _ _ (by have := mod_r a; rwa [W_256, ← Nat.pow_mul] at this)
  have hmm : a % r % r = a % r := Nat.mod_mod _ _
  have ho : ord3 (V (D 4 (a % r))) (V (D 4 r)) = -1 := by rw [V_D' (mod_r a), V_D' r_lt]; exact ord3_lt hlt
  by_cases h6 : bs.length = 32
  · have hfit := words_fit hb
    rw [h6, show (32 + 7) / 8 = 4 from rfl] at hfit
    by_cases h7 : bval bs < r
    · have e32 : octs (bval bs) 32 = bs := by rw [← h6]; exact octs_self hb
      repeat (first
        |(refine st_alloc (v := LV .u64 (List.replicate 4 0)) (by rfl) (by rfl) fun _ => ?_)
        |(refine st_alloc (v := LV .u8 (List.replicate 32 0)) (by rfl) (by rfl) fun _ => ?_)
        |(refine st_callV (by rfl) (by rfl) (by rfl) (awake6_spec) (fun _ _ => trivial) (by rfl) ?_)
        |(refine st_callV (by rfl) (by rfl) (by rfl) (fbytes_spec ha) (fun _ _ => trivial) (by rfl) ?_)
        |((refine st_callV (by rfl) (by rfl) (by rfl) (frombytes_32 _ (octs (a % r) 32) hob hol) (RdW.arrAll (m := 32) (by repeat (first | apply Find.here | apply Find.there)) hol) (by rfl) ?_; rw [hv, if_pos hlt]))
        |(refine st_callV (by rfl) (by rfl) (by rfl) (fR_spec) (fun _ _ => trivial) (by rfl) ?_)|refine Z01 ?_|refine Z02 ?_|refine Z03 ?_|refine Z04 ?_|refine Z05 ?_
        |refine Z06 ?_|refine Z07 ?_|refine Z08 ?_|refine Z09 ?_|refine Z10 ?_|refine Z11 ?_|refine Z12 ?_|refine Z13 ?_|refine Z14 ?_|refine Z17 ?_|refine Z18 ?_
        |refine Z19 ?_|refine Z20 ?_|refine Z21 ?_|refine Z24 ?_|refine Z25 ?_|refine Z26 ?_|refine Z27 ?_|refine Z28 ?_|refine Z29 ?_|refine Z30 ?_|refine Z31 ?_
        |refine Z32 ?_|refine Z44 ?_|refine Z45 ?_|refine Z49 ?_|refine Z50 ?_|refine Z51 ?_|refine Z52 ?_|refine Z53 ?_|refine Z58 ?_|refine Z59 ?_|refine Z62 ?_
        |refine Z63 ?_|refine Z64 ?_|refine Z65 ?_|refine Z67 ?_|refine Z68 ?_|refine Z69 ?_|refine Z74 ?_|refine Z77 ?_|refine Z78 ?_|refine Z79 ?_|refine Z80 ?_
        |refine Z81 fun _ => ?_|refine Z82 fun _ => ?_)
      refine st_draw1 (by rfl) ?_
      repeat (first
        |refine Zqf (by intro _ _ _;(first
          |(refine st_neSame (by rfl) (by rfl) (by rfl) (by rfl) (by rfl) (by rfl) (by first | with_reducible assumption | (simp [*]; done)) (by rfl) ?_)|refine Z01 ?_
          |refine Z02 ?_|refine Z17 ?_|refine Z18 ?_|refine Z19 ?_|refine Z20 ?_|refine Z21 ?_|refine Z44 ?_|refine Z45 ?_|refine Z49 ?_|refine Z50 ?_|refine Z58 ?_
          |refine Z59 ?_|refine Z62 ?_|refine Z63 ?_|refine Z64 ?_|refine Z65 ?_|refine Z68 ?_|refine Z69 ?_|refine Z74 ?_|refine Z77 ?_|refine Z78 ?_|refine Z79 ?_
          |refine Z80 ?_);exact Zq) ?_
        |refine Zqp (by intro _ _ _;(first
          |refine Z24 ?_|refine Z25 ?_|refine Z26 ?_|refine Z27 ?_|refine Z28 ?_|refine Z67 ?_|refine Z20 ?_|refine Z21 ?_|refine Z62 ?_);exact Zq) ?_
        |refine Zqe (by intro _ _ _;(first
          |refine Z29 ?_|refine Z30 ?_|refine Z31 ?_|refine Z32 ?_);exact Zqq) ?_
        |refine Zqp (by intro _ _ _;refine st_callV (by rfl) (by rfl) (by rfl) (freduce_spec ha) (fun _ _ => trivial) (by rfl) ?_;exact Zq) ?_
        |refine Zqp (by intro _ _ _;(refine st_callV (by rfl) (by rfl) (by rfl) (foctets_spec _ (octs (a % r) 32) hob (by omega)) (RdW.arrAll (m := 32) (by repeat (first | apply Find.here | apply Find.there)) hol) (by rfl) ?_; rw [hv, hmm]);exact Zq) ?_
        |refine Zqp (by intro _ _ _;(refine st_callV (by rfl) (by rfl) (by rfl) (cmp_spec _ _ (D 4 (a % r)) (D 4 r) (D_lt _ _) (D_lt _ _) (by omega) (by omega)) (fun w hw => ⟨RdW.arrAll (m := 4) (by repeat (first | apply Find.here | apply Find.there)) h4 w hw, RdW.arrAll (m := 4) (by repeat (first | apply Find.here | apply Find.there)) h5 w hw⟩) (by rfl) ?_; rw [ho]);exact Zq) ?_
        |refine Zqn ?_)
      refine Zq0 ?_ (by kernel_rfl)
      repeat (first
        |((refine st_callV (by rfl) (by rfl) (by rfl) (frombytes_32 s bs hb h6) (RdW.old hr) (by rfl) ?_; rw [if_pos h7]))
        |(refine st_alloc (v := LV .u64 (List.replicate 4 0)) (by rfl) (by rfl) fun _ => ?_)
        |(refine st_alloc (v := LV .u8 (List.replicate 32 0)) (by rfl) (by rfl) fun _ => ?_)
        |((refine st_callV (by rfl) (by rfl) (by rfl) (fbytes_spec hfit) (fun _ _ => trivial) (by rfl) ?_; rw [Nat.mod_eq_of_lt h7, e32]))|refine Z01 ?_|refine Z02 ?_
        |refine Z03 ?_|refine Z04 ?_|refine Z05 ?_|refine Z06 ?_|refine Z07 ?_|refine Z08 ?_|refine Z09 ?_|refine Z10 ?_|refine Z11 ?_|refine Z12 ?_|refine Z13 ?_
        |refine Z14 ?_|refine Z17 ?_|refine Z18 ?_|refine Z19 ?_|refine Z20 ?_|refine Z21 ?_|refine Z24 ?_|refine Z25 ?_|refine Z26 ?_|refine Z27 ?_|refine Z28 ?_
        |refine Z29 ?_|refine Z30 ?_|refine Z31 ?_|refine Z32 ?_|refine Z44 ?_|refine Z45 ?_|refine Z49 ?_|refine Z50 ?_|refine Z51 ?_|refine Z52 ?_|refine Z53 ?_
        |refine Z58 ?_|refine Z59 ?_|refine Z62 ?_|refine Z63 ?_|refine Z64 ?_|refine Z65 ?_|refine Z67 ?_|refine Z68 ?_|refine Z69 ?_|refine Z74 ?_|refine Z77 ?_
        |refine Z78 ?_|refine Z79 ?_|refine Z80 ?_|refine Z81 fun _ => ?_|refine Z82 fun _ => ?_)
      refine st_draw1 (by rfl) ?_
      repeat (first
        |refine Zqf (by intro _ _ _;(first
          |(refine st_eqstr (by rfl) (by rfl) (by rfl) ?_)|refine Z01 ?_|refine Z02 ?_|refine Z17 ?_|refine Z18 ?_|refine Z19 ?_|refine Z20 ?_|refine Z21 ?_|refine Z44 ?_
          |refine Z45 ?_|refine Z49 ?_|refine Z50 ?_|refine Z58 ?_|refine Z59 ?_|refine Z62 ?_|refine Z63 ?_|refine Z64 ?_|refine Z65 ?_|refine Z68 ?_|refine Z69 ?_
          |refine Z74 ?_|refine Z77 ?_|refine Z78 ?_|refine Z79 ?_|refine Z80 ?_);exact Zq) ?_
        |refine Zqp (by intro _ _ _;(first
          |refine Z24 ?_|refine Z25 ?_|refine Z26 ?_|refine Z27 ?_|refine Z28 ?_|refine Z67 ?_|refine Z20 ?_|refine Z21 ?_|refine Z62 ?_);exact Zq) ?_
        |refine Zqe (by intro _ _ _;(first
          |refine Z29 ?_|refine Z30 ?_|refine Z31 ?_|refine Z32 ?_);exact Zqq) ?_
        |refine Zqp (by intro _ _ _;refine st_conv_str (xs := bs) (by rfl) (by rfl) (by rfl) (by rfl) (RdW.arrAll (m := 32) (by repeat (first | apply Find.here | apply Find.there)) h6) (by rfl) ?_;exact Zq) ?_
        |refine Zqp (by intro _ _ _;refine st_conv_str (xs := bs) (by rfl) (by rfl) (by rfl) (by rfl) (RdW.old (hr.shift (by assumption))) (by rfl) ?_;exact Zq) ?_
        |refine Zqn ?_)
      refine Zq0 ?_ (by kernel_rfl)
      repeat (first
        |refine Z01 ?_|refine Z02 ?_|refine Z03 ?_|refine Z04 ?_|refine Z05 ?_|refine Z06 ?_|refine Z07 ?_|refine Z08 ?_|refine Z09 ?_|refine Z10 ?_|refine Z11 ?_
        |refine Z12 ?_|refine Z13 ?_|refine Z14 ?_|refine Z17 ?_|refine Z18 ?_|refine Z19 ?_|refine Z20 ?_|refine Z21 ?_|refine Z24 ?_|refine Z25 ?_|refine Z26 ?_
        |refine Z27 ?_|refine Z28 ?_|refine Z29 ?_|refine Z30 ?_|refine Z31 ?_|refine Z32 ?_|refine Z44 ?_|refine Z45 ?_|refine Z49 ?_|refine Z50 ?_|refine Z51 ?_
        |refine Z52 ?_|refine Z53 ?_|refine Z58 ?_|refine Z59 ?_|refine Z62 ?_|refine Z63 ?_|refine Z64 ?_|refine Z65 ?_|refine Z67 ?_|refine Z68 ?_|refine Z69 ?_
        |refine Z74 ?_|refine Z77 ?_|refine Z78 ?_|refine Z79 ?_|refine Z80 ?_|refine Z81 fun _ => ?_|refine Z82 fun _ => ?_)
      refine Ze1 fun _ hw => post_of hw SubW.nil ⟨?_, rfl⟩
      rfl
    · repeat (first
        |(refine st_alloc (v := LV .u64 (List.replicate 4 0)) (by rfl) (by rfl) fun _ => ?_)
        |(refine st_alloc (v := LV .u8 (List.replicate 32 0)) (by rfl) (by rfl) fun _ => ?_)
        |(refine st_callV (by rfl) (by rfl) (by rfl) (awake6_spec) (fun _ _ => trivial) (by rfl) ?_)
        |(refine st_callV (by rfl) (by rfl) (by rfl) (fbytes_spec ha) (fun _ _ => trivial) (by rfl) ?_)
        |((refine st_callV (by rfl) (by rfl) (by rfl) (frombytes_32 _ (octs (a % r) 32) hob hol) (RdW.arrAll (m := 32) (by repeat (first | apply Find.here | apply Find.there)) hol) (by rfl) ?_; rw [hv, if_pos hlt]))
        |(refine st_callV (by rfl) (by rfl) (by rfl) (fR_spec) (fun _ _ => trivial) (by rfl) ?_)|refine Z01 ?_|refine Z02 ?_|refine Z03 ?_|refine Z04 ?_|refine Z05 ?_
        |refine Z06 ?_|refine Z07 ?_|refine Z08 ?_|refine Z09 ?_|refine Z10 ?_|refine Z11 ?_|refine Z12 ?_|refine Z13 ?_|refine Z14 ?_|refine Z17 ?_|refine Z18 ?_
        |refine Z19 ?_|refine Z20 ?_|refine Z21 ?_|refine Z24 ?_|refine Z25 ?_|refine Z26 ?_|refine Z27 ?_|refine Z28 ?_|refine Z29 ?_|refine Z30 ?_|refine Z31 ?_
        |refine Z32 ?_|refine Z44 ?_|refine Z45 ?_|refine Z49 ?_|refine Z50 ?_|refine Z51 ?_|refine Z52 ?_|refine Z53 ?_|refine Z58 ?_|refine Z59 ?_|refine Z62 ?_
        |refine Z63 ?_|refine Z64 ?_|refine Z65 ?_|refine Z67 ?_|refine Z68 ?_|refine Z69 ?_|refine Z74 ?_|refine Z77 ?_|refine Z78 ?_|refine Z79 ?_|refine Z80 ?_
        |refine Z81 fun _ => ?_|refine Z82 fun _ => ?_)
      refine st_draw1 (by rfl) ?_
      repeat (first
        |refine Zqf (by intro _ _ _;(first
          |(refine st_neSame (by rfl) (by rfl) (by rfl) (by rfl) (by rfl) (by rfl) (by first | with_reducible assumption | (simp [*]; done)) (by rfl) ?_)|refine Z01 ?_
          |refine Z02 ?_|refine Z17 ?_|refine Z18 ?_|refine Z19 ?_|refine Z20 ?_|refine Z21 ?_|refine Z44 ?_|refine Z45 ?_|refine Z49 ?_|refine Z50 ?_|refine Z58 ?_
          |refine Z59 ?_|refine Z62 ?_|refine Z63 ?_|refine Z64 ?_|refine Z65 ?_|refine Z68 ?_|refine Z69 ?_|refine Z74 ?_|refine Z77 ?_|refine Z78 ?_|refine Z79 ?_
          |refine Z80 ?_);exact Zq) ?_
        |refine Zqp (by intro _ _ _;(first
          |refine Z24 ?_|refine Z25 ?_|refine Z26 ?_|refine Z27 ?_|refine Z28 ?_|refine Z67 ?_|refine Z20 ?_|refine Z21 ?_|refine Z62 ?_);exact Zq) ?_
        |refine Zqe (by intro _ _ _;(first
          |refine Z29 ?_|refine Z30 ?_|refine Z31 ?_|refine Z32 ?_);exact Zqq) ?_
        |refine Zqp (by intro _ _ _;refine st_callV (by rfl) (by rfl) (by rfl) (freduce_spec ha) (fun _ _ => trivial) (by rfl) ?_;exact Zq) ?_
        |refine Zqp (by intro _ _ _;(refine st_callV (by rfl) (by rfl) (by rfl) (foctets_spec _ (octs (a % r) 32) hob (by omega)) (RdW.arrAll (m := 32) (by repeat (first | apply Find.here | apply Find.there)) hol) (by rfl) ?_; rw [hv, hmm]);exact Zq) ?_
        |refine Zqp (by intro _ _ _;(refine st_callV (by rfl) (by rfl) (by rfl) (cmp_spec _ _ (D 4 (a % r)) (D 4 r) (D_lt _ _) (D_lt _ _) (by omega) (by omega)) (fun w hw => ⟨RdW.arrAll (m := 4) (by repeat (first | apply Find.here | apply Find.there)) h4 w hw, RdW.arrAll (m := 4) (by repeat (first | apply Find.here | apply Find.there)) h5 w hw⟩) (by rfl) ?_; rw [ho]);exact Zq) ?_
        |refine Zqn ?_)
      refine Zq0 ?_ (by kernel_rfl)
      repeat (first
        |((refine st_callV (by rfl) (by rfl) (by rfl) (frombytes_32 s bs hb h6) (RdW.old hr) (by rfl) ?_; rw [if_neg h7]))
        |(refine st_alloc (v := LV .u64 (List.replicate 4 0)) (by rfl) (by rfl) fun _ => ?_)
        |(refine st_alloc (v := LV .u8 (List.replicate 32 0)) (by rfl) (by rfl) fun _ => ?_)
        |((refine st_buildP (kk := .u64) (vs := []) (by rfl) (by rfl) (by rfl) (by rfl) (by rfl) (by rfl) (by rfl) (by rfl) ?_; rw [z4b]))|refine Z01 ?_|refine Z02 ?_
        |refine Z03 ?_|refine Z04 ?_|refine Z05 ?_|refine Z06 ?_|refine Z07 ?_|refine Z08 ?_|refine Z09 ?_|refine Z10 ?_|refine Z11 ?_|refine Z12 ?_|refine Z13 ?_
        |refine Z14 ?_|refine Z17 ?_|refine Z18 ?_|refine Z19 ?_|refine Z20 ?_|refine Z21 ?_|refine Z24 ?_|refine Z25 ?_|refine Z26 ?_|refine Z27 ?_|refine Z28 ?_
        |refine Z29 ?_|refine Z30 ?_|refine Z31 ?_|refine Z32 ?_|refine Z44 ?_|refine Z45 ?_|refine Z49 ?_|refine Z50 ?_|refine Z51 ?_|refine Z52 ?_|refine Z53 ?_
        |refine Z58 ?_|refine Z59 ?_|refine Z62 ?_|refine Z63 ?_|refine Z64 ?_|refine Z65 ?_|refine Z67 ?_|refine Z68 ?_|refine Z69 ?_|refine Z74 ?_|refine Z77 ?_
        |refine Z78 ?_|refine Z79 ?_|refine Z80 ?_|refine Z81 fun _ => ?_|refine Z82 fun _ => ?_)
      refine Ze1 fun _ hw => post_of hw SubW.nil ⟨?_, rfl⟩
      rw [decide_eq_false (p := ¬ bs.length = 32) (by omega)]; rfl
  · repeat (first
      |(refine st_alloc (v := LV .u64 (List.replicate 4 0)) (by rfl) (by rfl) fun _ => ?_)
      |(refine st_alloc (v := LV .u8 (List.replicate 32 0)) (by rfl) (by rfl) fun _ => ?_)
      |(refine st_callV (by rfl) (by rfl) (by rfl) (awake6_spec) (fun _ _ => trivial) (by rfl) ?_)
      |(refine st_callV (by rfl) (by rfl) (by rfl) (fbytes_spec ha) (fun _ _ => trivial) (by rfl) ?_)
      |((refine st_callV (by rfl) (by rfl) (by rfl) (frombytes_32 _ (octs (a % r) 32) hob hol) (RdW.arrAll (m := 32) (by repeat (first | apply Find.here | apply Find.there)) hol) (by rfl) ?_; rw [hv, if_pos hlt]))
      |(refine st_callV (by rfl) (by rfl) (by rfl) (fR_spec) (fun _ _ => trivial) (by rfl) ?_)|refine Z01 ?_|refine Z02 ?_|refine Z03 ?_|refine Z04 ?_|refine Z05 ?_
      |refine Z06 ?_|refine Z07 ?_|refine Z08 ?_|refine Z09 ?_|refine Z10 ?_|refine Z11 ?_|refine Z12 ?_|refine Z13 ?_|refine Z14 ?_|refine Z17 ?_|refine Z18 ?_
      |refine Z19 ?_|refine Z20 ?_|refine Z21 ?_|refine Z24 ?_|refine Z25 ?_|refine Z26 ?_|refine Z27 ?_|refine Z28 ?_|refine Z29 ?_|refine Z30 ?_|refine Z31 ?_
      |refine Z32 ?_|refine Z44 ?_|refine Z45 ?_|refine Z49 ?_|refine Z50 ?_|refine Z51 ?_|refine Z52 ?_|refine Z53 ?_|refine Z58 ?_|refine Z59 ?_|refine Z62 ?_
      |refine Z63 ?_|refine Z64 ?_|refine Z65 ?_|refine Z67 ?_|refine Z68 ?_|refine Z69 ?_|refine Z74 ?_|refine Z77 ?_|refine Z78 ?_|refine Z79 ?_|refine Z80 ?_
      |refine Z81 fun _ => ?_|refine Z82 fun _ => ?_)
    refine st_draw1 (by rfl) ?_
    repeat (first
      |refine Zqf (by intro _ _ _;(first
        |(refine st_neSame (by rfl) (by rfl) (by rfl) (by rfl) (by rfl) (by rfl) (by first | with_reducible assumption | (simp [*]; done)) (by rfl) ?_)|refine Z01 ?_
        |refine Z02 ?_|refine Z17 ?_|refine Z18 ?_|refine Z19 ?_|refine Z20 ?_|refine Z21 ?_|refine Z44 ?_|refine Z45 ?_|refine Z49 ?_|refine Z50 ?_|refine Z58 ?_
        |refine Z59 ?_|refine Z62 ?_|refine Z63 ?_|refine Z64 ?_|refine Z65 ?_|refine Z68 ?_|refine Z69 ?_|refine Z74 ?_|refine Z77 ?_|refine Z78 ?_|refine Z79 ?_
        |refine Z80 ?_);exact Zq) ?_
      |refine Zqp (by intro _ _ _;(first
        |refine Z24 ?_|refine Z25 ?_|refine Z26 ?_|refine Z27 ?_|refine Z28 ?_|refine Z67 ?_|refine Z20 ?_|refine Z21 ?_|refine Z62 ?_);exact Zq) ?_
      |refine Zqe (by intro _ _ _;(first
        |refine Z29 ?_|refine Z30 ?_|refine Z31 ?_|refine Z32 ?_);exact Zqq) ?_
      |refine Zqp (by intro _ _ _;refine st_callV (by rfl) (by rfl) (by rfl) (freduce_spec ha) (fun _ _ => trivial) (by rfl) ?_;exact Zq) ?_
      |refine Zqp (by intro _ _ _;(refine st_callV (by rfl) (by rfl) (by rfl) (foctets_spec _ (octs (a % r) 32) hob (by omega)) (RdW.arrAll (m := 32) (by repeat (first | apply Find.here | apply Find.there)) hol) (by rfl) ?_; rw [hv, hmm]);exact Zq) ?_
      |refine Zqp (by intro _ _ _;(refine st_callV (by rfl) (by rfl) (by rfl) (cmp_spec _ _ (D 4 (a % r)) (D 4 r) (D_lt _ _) (D_lt _ _) (by omega) (by omega)) (fun w hw => ⟨RdW.arrAll (m := 4) (by repeat (first | apply Find.here | apply Find.there)) h4 w hw, RdW.arrAll (m := 4) (by repeat (first | apply Find.here | apply Find.there)) h5 w hw⟩) (by rfl) ?_; rw [ho]);exact Zq) ?_
      |refine Zqn ?_)
    refine Zq0 ?_ (by kernel_rfl)
    repeat (first
      |(refine st_callV (by rfl) (by rfl) (by rfl) (frombytes_len s bs b63 h6) (RdW.old hr) (by rfl) ?_)
      |(refine st_alloc (v := LV .u64 (List.replicate 4 0)) (by rfl) (by rfl) fun _ => ?_)
      |(refine st_alloc (v := LV .u8 (List.replicate 32 0)) (by rfl) (by rfl) fun _ => ?_)
      |((refine st_buildP (kk := .u64) (vs := []) (by rfl) (by rfl) (by rfl) (by rfl) (by rfl) (by rfl) (by rfl) (by rfl) ?_; rw [z4b]))|refine Z01 ?_|refine Z02 ?_
      |refine Z03 ?_|refine Z04 ?_|refine Z05 ?_|refine Z06 ?_|refine Z07 ?_|refine Z08 ?_|refine Z09 ?_|refine Z10 ?_|refine Z11 ?_|refine Z12 ?_|refine Z13 ?_
      |refine Z14 ?_|refine Z17 ?_|refine Z18 ?_|refine Z19 ?_|refine Z20 ?_|refine Z21 ?_|refine Z24 ?_|refine Z25 ?_|refine Z26 ?_|refine Z27 ?_|refine Z28 ?_
      |refine Z29 ?_|refine Z30 ?_|refine Z31 ?_|refine Z32 ?_|refine Z44 ?_|refine Z45 ?_|refine Z49 ?_|refine Z50 ?_|refine Z51 ?_|refine Z52 ?_|refine Z53 ?_
      |refine Z58 ?_|refine Z59 ?_|refine Z62 ?_|refine Z63 ?_|refine Z64 ?_|refine Z65 ?_|refine Z67 ?_|refine Z68 ?_|refine Z69 ?_|refine Z74 ?_|refine Z77 ?_
      |refine Z78 ?_|refine Z79 ?_|refine Z80 ?_|refine Z81 fun _ => ?_|refine Z82 fun _ => ?_)
    refine Ze1 fun _ hw => post_of hw SubW.nil ⟨?_, rfl⟩
    rw [decide_eq_true (p := ¬ bs.length = 32) h6]; rfl
end Go.Proofs.Ytbjfjkmidhfgcaa.L
