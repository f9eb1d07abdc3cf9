/- The walks of the sums' and steps' laws. Conditions: as each statement says. -/
import Derived.Test.YtefhbmhanajfoaaAuto
import Derived.Test.YtefhbmhanajfoaaPerm
import Derived.Test.YtefhbmhanajfoaaMore
import Derived.Test.YtefhbmhanajfoaaProg
import Derived.Test.YtefhbmhanajfoaaShaW
import Derived.Test.YtefhbmhanajfoaaShaX
import Derived.Test.YtefhbmhanajfoaaShaY
import Derived.Test.YtefhbmhanajfoaaShaZ
import Derived.Test.YtefhbmhanajfoaaShaP
import Derived.Test.YtefhbmhanajfoaaShaS
import Derived.Test.YtefhbmhanajfoaaShaT
import Derived.Test.YtefhbmhanajfoaaShaU
namespace Go.Proofs.Ytefhbmhanajfoaa.L
open Go Go.Proofs
attribute [local irreducible] Code.wp wpList Af bodyPost L.Go
open Sha

set_option maxHeartbeats 1000000 in
theorem lawSums_spec (s : Value) (b : List Nat) (hb : Lt 256 b) (h63 : b.length < 9223372036854775808) :
    Spec Try.prog 3 [s] (fun w => Rd w s (b.map (N .u8))) [] (IsV (.bool true)) := by
  refine mk_spec Try.func3 rfl rfl rfl fun w hr => ?_
  have hr := RdC.mk0 hr
  repeat (first
    |(refine st_callV (by rfl) (by rfl) (by rfl) awake_spec (fun _ _ => trivial) (by rfl) ?_)|refine Z01 ?_|refine Z02 ?_|refine Z03 ?_|refine Z04 ?_|refine Z05 ?_
    |refine Z06 ?_|refine Z07 ?_|refine Z08 ?_|refine Z09 ?_|refine Z10 ?_|refine Z11 ?_|refine Z12 ?_|refine Z13 ?_|refine Z14 ?_|refine Z17 ?_|refine Z18 ?_
    |refine Z20 ?_|refine Z21 ?_|refine Z49 ?_|refine Z50 ?_|refine Z51 ?_|refine Z52 ?_|refine Z53 ?_|refine Z58 ?_|refine Z59 ?_|refine Z77 ?_|refine Z78 ?_
    |refine Z79 ?_)
  refine st_cond (by rfl) (fun h => ?_) (fun h => ?_)
  · repeat (first
      |refine Z01 ?_|refine Z02 ?_|refine Z03 ?_|refine Z04 ?_|refine Z05 ?_|refine Z06 ?_|refine Z07 ?_|refine Z08 ?_|refine Z09 ?_|refine Z10 ?_|refine Z11 ?_
      |refine Z12 ?_|refine Z13 ?_|refine Z14 ?_|refine Z17 ?_|refine Z18 ?_|refine Z20 ?_|refine Z21 ?_|refine Z49 ?_|refine Z50 ?_|refine Z51 ?_|refine Z52 ?_
      |refine Z53 ?_|refine Z58 ?_|refine Z59 ?_|refine Z77 ?_|refine Z78 ?_|refine Z79 ?_)
    refine Ze1 fun _ hw => post_of hw SubW.nil ⟨?_, rfl⟩
    rfl
  · have hl : b.length < 4294967296 := by omega
    have hq1 := pad_len b
    have hp := padLen_le b.length
    repeat (first
      |((refine st_call (by rfl) (by rfl) (by rfl) (pad_spec s b hb hl) .nil (RdW.old hr) (by rfl) ?_; rintro v _ rfl))
      |((refine st_call (by rfl) (by rfl) (by rfl) (rpad_spec s b hl) .nil (RdW.old hr) (by rfl) ?_; rintro u _ rfl))
      |(refine st_callV (by rfl) (by rfl) (by rfl) (same_spec _ _ (Sha.pad b) (Sha.pad b) (by omega)) (fun w hw => ⟨RdW.own (by repeat (first | apply Find.here | apply Find.there)) w hw, RdW.own (by repeat (first | apply Find.here | apply Find.there)) w hw⟩) (by rfl) ?_)
      |refine Z01 ?_|refine Z02 ?_|refine Z03 ?_|refine Z04 ?_|refine Z05 ?_|refine Z06 ?_|refine Z07 ?_|refine Z08 ?_|refine Z09 ?_|refine Z10 ?_|refine Z11 ?_
      |refine Z12 ?_|refine Z13 ?_|refine Z14 ?_|refine Z17 ?_|refine Z18 ?_|refine Z20 ?_|refine Z21 ?_|refine Z49 ?_|refine Z50 ?_|refine Z51 ?_|refine Z52 ?_
      |refine Z53 ?_|refine Z58 ?_|refine Z59 ?_|refine Z77 ?_|refine Z78 ?_|refine Z79 ?_)
    rw [decide_eq_true rfl]
    have hsl := sum_len b
    repeat (first
      |(refine st_callV (by rfl) (by rfl) (by rfl) (sum_spec s b hb hl) (RdW.old hr) (by rfl) ?_)
      |(refine st_callV (by rfl) (by rfl) (by rfl) (rsum_spec s b hb hl) (RdW.old hr) (by rfl) ?_)|(rw [decide_eq_true rfl])|refine Z01 ?_|refine Z02 ?_|refine Z03 ?_
      |refine Z04 ?_|refine Z05 ?_|refine Z06 ?_|refine Z07 ?_|refine Z08 ?_|refine Z09 ?_|refine Z10 ?_|refine Z11 ?_|refine Z12 ?_|refine Z13 ?_|refine Z14 ?_
      |refine Z17 ?_|refine Z18 ?_|refine Z20 ?_|refine Z21 ?_|refine Z49 ?_|refine Z50 ?_|refine Z51 ?_|refine Z52 ?_|refine Z53 ?_|refine Z58 ?_|refine Z59 ?_
      |refine Z77 ?_|refine Z78 ?_|refine Z79 ?_)
    refine Ze1 fun _ hw => post_of hw SubW.nil ⟨?_, rfl⟩
    rfl

set_option maxHeartbeats 1000000 in
theorem lawSteps_spec (h : List Nat) (hh : h.length = 8) (hhl : Lt 4294967296 h) (blk : List Nat) (hl : blk.length = 64) (hb : Lt 256 blk) :
    Spec Try.prog 4 [LV .u32 h, LV .u8 blk] NoPre [] (IsV (.bool true)) := by
  refine mk_spec Try.func4 rfl rfl rfl fun w hr => ?_
  have hsl := step_len (blk := blk) hh
  have hH : Sha.H0.length = 8 := rfl
  repeat (first
    |(refine st_callV (by rfl) (by rfl) (by rfl) awake_spec (fun _ _ => trivial) (by rfl) ?_)|refine Z01 ?_|refine Z02 ?_|refine Z03 ?_|refine Z04 ?_|refine Z05 ?_
    |refine Z06 ?_|refine Z07 ?_|refine Z08 ?_|refine Z09 ?_|refine Z10 ?_|refine Z11 ?_|refine Z12 ?_|refine Z13 ?_|refine Z14 ?_|refine Z24 ?_|refine Z25 ?_
    |refine Z26 ?_|refine Z27 ?_|refine Z28 ?_|refine Z49 ?_|refine Z50 ?_|refine Z51 ?_|refine Z52 ?_|refine Z53 ?_|refine Z67 ?_|refine Z77 ?_|refine Z78 ?_
    |refine Z79 ?_|refine Z81 fun _ => ?_)
  refine st_draw1 (by rfl) ?_
  repeat (first
    |refine Zqf (by intro _ _ _;(first
      |refine Z01 ?_|refine Z02 ?_|refine Z49 ?_|refine Z50 ?_|refine Z77 ?_|refine Z78 ?_|refine Z79 ?_
      |(refine st_callV (by rfl) (by rfl) (by rfl) (step_spec h blk hh hhl hl hb) (fun _ _ => trivial) (by rfl) ?_)
      |(refine st_callV (by rfl) (by rfl) (by rfl) (rstep_spec h blk hh hhl hl hb) (fun _ _ => trivial) (by rfl) ?_)
      |(refine st_callV (by rfl) (by rfl) (by rfl) begin_spec (fun _ _ => trivial) (by rfl) ?_)
      |(refine st_callV (by rfl) (by rfl) (by rfl) rbegin_spec (fun _ _ => trivial) (by rfl) ?_));exact Zq) ?_
    |refine Zqp (by intro _ _ _;(first
      |refine Z24 ?_|refine Z25 ?_|refine Z26 ?_|refine Z27 ?_|refine Z28 ?_|refine Z67 ?_);exact Zq) ?_
    |refine Zqn ?_)
  refine Zq0 ?_ (by kernel_rfl)
  repeat (first
    |refine Z01 ?_|refine Z02 ?_|refine Z03 ?_|refine Z04 ?_|refine Z05 ?_|refine Z06 ?_|refine Z07 ?_|refine Z08 ?_|refine Z09 ?_|refine Z10 ?_|refine Z11 ?_
    |refine Z12 ?_|refine Z13 ?_|refine Z14 ?_|refine Z24 ?_|refine Z25 ?_|refine Z26 ?_|refine Z27 ?_|refine Z28 ?_|refine Z49 ?_|refine Z50 ?_|refine Z51 ?_
    |refine Z52 ?_|refine Z53 ?_|refine Z67 ?_|refine Z77 ?_|refine Z78 ?_|refine Z79 ?_|refine Z81 fun _ => ?_)
  refine Ze1 fun _ hw => post_of hw SubW.nil ⟨?_, rfl⟩
  rfl
end Go.Proofs.Ytefhbmhanajfoaa.L
