/- The walk of the statements' waking. Conditions: as each statement says. -/
import Derived.Test.YtefhbmhanajfoaaAuto
import Derived.Test.YtefhbmhanajfoaaPerm
import Derived.Test.YtefhbmhanajfoaaMore
import Derived.Test.YtefhbmhanajfoaaProg
import Derived.Test.YtefhbmhanajfoaaShaW
import Derived.Test.YtefhbmhanajfoaaShaX
import Derived.Test.YtefhbmhanajfoaaShaY
import Derived.Test.YtefhbmhanajfoaaShaZ
import Derived.Test.YtefhbmhanajfoaaShaP
import Derived.Test.YtefhbmhanajfoaaShaS
import Derived.Test.YtefhbmhanajfoaaShaT
import Derived.Test.YtefhbmhanajfoaaShaE
namespace Go.Proofs.Ytefhbmhanajfoaa.L
open Go Go.Proofs
attribute [local irreducible] Code.wp wpList Af bodyPost L.Go
open Sha

set_option maxHeartbeats 1000000 in
theorem awake_spec : Spec Try.prog 20 [] NoPre [] (IsV (.bool true)) := by
  refine mk_spec Try.func20 rfl rfl rfl fun w hr => ?_
  have h0 := sum_len []
  have h1 := sum_len [97, 98, 99]
  repeat (first
    |(refine st_alloc (v := LV .u8 (List.replicate 32 0)) (by rfl) (by rfl) fun _ => ?_)
    |(refine st_callV (by rfl) (by rfl) (by rfl) (sum_spec (.slice none 0 0) [] (by intro x hx; cases hx) (by decide)) RdW.nil (by rfl) ?_)
    |(refine st_buildSliceN (vs := [97, 98, 99]) (kk := .u8) (by rfl) (by rfl) (by rfl) (by rfl) (by rfl) (by rfl) (by rfl) (by rfl) fun _ => ?_)
    |(refine st_callV (by rfl) (by rfl) (by rfl) (sum_spec _ [97, 98, 99] (by intro x hx; simp at hx; omega) (by decide)) (RdW.own (by repeat (first | apply Find.here | apply Find.there))) (by rfl) ?_)
    |((refine st_call (by rfl) (by rfl) (by rfl) (pad_spec _ [] (by intro x hx; cases hx) (by decide)) .nil RdW.nil (by rfl) ?_; rintro v _ rfl))|refine Z01 ?_
    |refine Z02 ?_|refine Z03 ?_|refine Z04 ?_|refine Z05 ?_|refine Z06 ?_|refine Z07 ?_|refine Z08 ?_|refine Z09 ?_|refine Z10 ?_|refine Z11 ?_|refine Z12 ?_
    |refine Z13 ?_|refine Z14 ?_|refine Z17 ?_|refine Z18 ?_|refine Z20 ?_|refine Z21 ?_|refine Z22 ?_|refine Z23 ?_|refine Z24 ?_|refine Z25 ?_|refine Z26 ?_
    |refine Z27 ?_|refine Z28 ?_|refine Z29 ?_|refine Z30 ?_|refine Z31 ?_|refine Z32 ?_|refine Z44 ?_|refine Z45 ?_|refine Z49 ?_|refine Z50 ?_|refine Z51 ?_
    |refine Z52 ?_|refine Z53 ?_|refine Z57 ?_|refine Z58 ?_|refine Z59 ?_|refine Z67 ?_|refine Z74 ?_|refine Z80 ?_|refine Z82 fun _ => ?_|refine Z85 fun _ => ?_)
  rw [show (Sha.pad []).length = 64 by rw [pad_nil]; rfl]
  refine st_cond (by rfl) (fun h => absurd rfl h) (fun _ => ?_)
  have e0 : decide ((Sha.sum []).getD 0 0 = 227) = true := by rw [sum_nil]; rfl
  have e1 : decide ((Sha.sum []).getD 31 0 = 85) = true := by rw [sum_nil]; rfl
  have e2 : decide ((Sha.sum [97, 98, 99]).getD 0 0 = 186) = true := by rw [sum_abc0]; rfl
  have e3 : decide ((Sha.sum [97, 98, 99]).getD 31 0 = 173) = true := by rw [sum_abc31]; rfl
  have e4 : decide ((Sha.pad []).getD 0 0 = 128) = true := by rw [pad_nil]; rfl
  have e5 : decide (Sha.H0.getD 0 0 = 1779033703) = true := rfl
  have hpl : (Sha.pad []).length = 64 := by rw [pad_nil]; rfl
  have hH : Sha.H0.length = 8 := rfl
  repeat (first
    |(rw [e0])|(rw [e1])|(rw [e2])|(rw [e3])|(rw [e4])|(rw [e5])|(refine st_callV (by rfl) (by rfl) (by rfl) begin_spec (fun _ _ => trivial) (by rfl) ?_)|refine Z01 ?_
    |refine Z02 ?_|refine Z03 ?_|refine Z04 ?_|refine Z05 ?_|refine Z06 ?_|refine Z07 ?_|refine Z08 ?_|refine Z09 ?_|refine Z10 ?_|refine Z11 ?_|refine Z12 ?_
    |refine Z13 ?_|refine Z14 ?_|refine Z17 ?_|refine Z18 ?_|refine Z20 ?_|refine Z21 ?_|refine Z22 ?_|refine Z23 ?_|refine Z24 ?_|refine Z25 ?_|refine Z26 ?_
    |refine Z27 ?_|refine Z28 ?_|refine Z29 ?_|refine Z30 ?_|refine Z31 ?_|refine Z32 ?_|refine Z44 ?_|refine Z45 ?_|refine Z49 ?_|refine Z50 ?_|refine Z51 ?_
    |refine Z52 ?_|refine Z53 ?_|refine Z57 ?_|refine Z58 ?_|refine Z59 ?_|refine Z67 ?_|refine Z74 ?_|refine Z80 ?_|refine Z82 fun _ => ?_|refine Z85 fun _ => ?_)
  refine Ze1 fun _ hw => post_of hw SubW.nil ⟨?_, rfl⟩
  rfl
end Go.Proofs.Ytefhbmhanajfoaa.L
