/- The walks of filling up, of the sum, and of the references. Conditions: as each statement says. -/
import Derived.Test.YtbjfjkmidhfgcaaAuto
import Derived.Test.YtbjfjkmidhfgcaaPerm
import Derived.Test.YtbjfjkmidhfgcaaMore
import Derived.Test.YtbjfjkmidhfgcaaProg
import Derived.Test.YtbjfjkmidhfgcaaSha
import Derived.Test.YtbjfjkmidhfgcaaShaW
import Derived.Test.YtbjfjkmidhfgcaaShaX
import Derived.Test.YtbjfjkmidhfgcaaShaY
import Derived.Test.YtbjfjkmidhfgcaaShaZ
namespace Go.Proofs.Ytbjfjkmidhfgcaa.L
open Go Go.Proofs
set_option maxRecDepth 100000
attribute [local irreducible] Code.wp wpList Af bodyPost L.Go
open Sha

set_option maxHeartbeats 1000000 in
theorem pad_spec (s : Value) (b : List Nat) (_ : Lt 256 b) (hl : b.length < 4294967296) :
    Spec Try.prog 89 [s] (fun w => Rd w s (b.map (N .u8))) [] (fun v W => W = [.sl v ((Sha.pad b).map (N .u8)) 5]) := by
  refine mk_spec Try.func89 rfl rfl rfl fun w hr => ?_
  have hr := RdC.mk0 hr
  have hp := padLen_le b.length
  have hA := padA_len b
  have h8 := fun i => tail8_len (8 * b.length) i
  have hK : (8 * (b.length % 18446744073709551616)) % 18446744073709551616 = 8 * b.length := by omega
  have hpd := padLen_def b.length
  repeat (first
    |refine Z01 ?_|refine Z02 ?_|refine Z03 ?_|refine Z04 ?_|refine Z05 ?_|refine Z06 ?_|refine Z07 ?_|refine Z08 ?_|refine Z09 ?_|refine Z10 ?_|refine Z11 ?_
    |refine Z12 ?_|refine Z13 ?_|refine Z14 ?_|refine Z15 ?_|refine Z16 ?_|refine Z17 ?_|refine Z18 ?_|refine Z20 ?_|refine Z21 ?_|refine Z22 ?_|refine Z23 ?_
    |refine Z29 ?_|refine Z30 ?_|refine Z31 ?_|refine Z32 ?_|refine Z35 ?_|refine Z36 ?_|refine Z37 ?_|refine Z42 ?_|refine Z44 ?_|refine Z45 ?_|refine Z58 ?_
    |refine Z59 ?_|refine Z70 ?_|refine Z71 ?_|refine Z74 ?_|refine Z75 ?_|refine Z76 ?_|refine Z80 ?_|refine Z83 fun _ => ?_)
  rw [hpd]
  repeat (first
    |refine Z01 ?_|refine Z02 ?_|refine Z03 ?_|refine Z04 ?_|refine Z05 ?_|refine Z06 ?_|refine Z07 ?_|refine Z08 ?_|refine Z09 ?_|refine Z10 ?_|refine Z11 ?_
    |refine Z12 ?_|refine Z13 ?_|refine Z14 ?_|refine Z15 ?_|refine Z16 ?_|refine Z17 ?_|refine Z18 ?_|refine Z20 ?_|refine Z21 ?_|refine Z22 ?_|refine Z23 ?_
    |refine Z29 ?_|refine Z30 ?_|refine Z31 ?_|refine Z32 ?_|refine Z35 ?_|refine Z36 ?_|refine Z37 ?_|refine Z42 ?_|refine Z44 ?_|refine Z45 ?_|refine Z58 ?_
    |refine Z59 ?_|refine Z70 ?_|refine Z71 ?_|refine Z74 ?_|refine Z75 ?_|refine Z76 ?_|refine Z80 ?_|refine Z83 fun _ => ?_)
  rename_i v_
  simp only [List.length_replicate]
  rw [pad_start b (8 * b.length), hK]
  refine st_loop (ι := Nat) (fun i => i ≤ 8) (fun i => [(3, N .i64 (padLen b.length)), (4, v_), (5, N .i64 i), (6, N .u64 ((8 * b.length) >>> (8 * i)))])
    (fun i => [.sl v_ ((padA b ++ tail8 (8 * b.length) i).map (N .u8)) 5]) (fun i => 8 - i) 0 (by omega) (by repeat (first | apply subL.nil | refine subL.cons (by rfl) ?_)) (by repeat (first | apply SubW.nil | refine SubW.cons (by repeat (first | apply Find.here | apply Find.there)) ?_)) ?_
  intro i hi
  have h8i := h8 i
  repeat (first
    |refine Z01 ?_|refine Z02 ?_|refine Z03 ?_|refine Z04 ?_|refine Z05 ?_|refine Z06 ?_|refine Z07 ?_|refine Z08 ?_|refine Z09 ?_|refine Z10 ?_|refine Z11 ?_
    |refine Z12 ?_|refine Z13 ?_|refine Z14 ?_|refine Z15 ?_|refine Z16 ?_|refine Z17 ?_|refine Z18 ?_|refine Z20 ?_|refine Z21 ?_|refine Z22 ?_|refine Z23 ?_
    |refine Z29 ?_|refine Z30 ?_|refine Z31 ?_|refine Z32 ?_|refine Z35 ?_|refine Z36 ?_|refine Z37 ?_|refine Z42 ?_|refine Z44 ?_|refine Z45 ?_|refine Z58 ?_
    |refine Z59 ?_|refine Z70 ?_|refine Z71 ?_|refine Z74 ?_|refine Z75 ?_|refine Z76 ?_|refine Z80 ?_|refine Z83 fun _ => ?_)
  refine st_cond (by rfl) (fun h => ?_) (fun h => ?_)
  · repeat (first
      |refine Z01 ?_|refine Z02 ?_|refine Z03 ?_|refine Z04 ?_|refine Z05 ?_|refine Z06 ?_|refine Z07 ?_|refine Z08 ?_|refine Z09 ?_|refine Z10 ?_|refine Z11 ?_
      |refine Z12 ?_|refine Z13 ?_|refine Z14 ?_|refine Z15 ?_|refine Z16 ?_|refine Z17 ?_|refine Z18 ?_|refine Z20 ?_|refine Z21 ?_|refine Z22 ?_|refine Z23 ?_
      |refine Z29 ?_|refine Z30 ?_|refine Z31 ?_|refine Z32 ?_|refine Z35 ?_|refine Z36 ?_|refine Z37 ?_|refine Z42 ?_|refine Z44 ?_|refine Z45 ?_|refine Z58 ?_
      |refine Z59 ?_|refine Z70 ?_|refine Z71 ?_|refine Z74 ?_|refine Z75 ?_|refine Z76 ?_|refine Z80 ?_|refine Z83 fun _ => ?_)
    rw [pad_set _ _ _ h]
    repeat (first
      |refine Z01 ?_|refine Z02 ?_|refine Z03 ?_|refine Z04 ?_|refine Z05 ?_|refine Z06 ?_|refine Z07 ?_|refine Z08 ?_|refine Z09 ?_|refine Z10 ?_|refine Z11 ?_
      |refine Z12 ?_|refine Z13 ?_|refine Z14 ?_|refine Z15 ?_|refine Z16 ?_|refine Z17 ?_|refine Z18 ?_|refine Z20 ?_|refine Z21 ?_|refine Z22 ?_|refine Z23 ?_
      |refine Z29 ?_|refine Z30 ?_|refine Z31 ?_|refine Z32 ?_|refine Z35 ?_|refine Z36 ?_|refine Z37 ?_|refine Z42 ?_|refine Z44 ?_|refine Z45 ?_|refine Z58 ?_
      |refine Z59 ?_|refine Z70 ?_|refine Z71 ?_|refine Z74 ?_|refine Z75 ?_|refine Z76 ?_|refine Z80 ?_|refine Z83 fun _ => ?_)
    rw [← Nat.shiftRight_add]
    exact st_round (i + 1) (by omega) (by omega) (by repeat (first | apply subL.nil | refine subL.cons (by rfl) ?_)) (by repeat (first | apply SubW.nil | refine SubW.cons (by repeat (first | apply Find.here | apply Find.there)) ?_))
  · have h8 : i = 8 := by omega
    subst h8
    rw [pad_eq]
    repeat (first
      |refine Z01 ?_|refine Z02 ?_|refine Z03 ?_|refine Z04 ?_|refine Z05 ?_|refine Z06 ?_|refine Z07 ?_|refine Z08 ?_|refine Z09 ?_|refine Z10 ?_|refine Z11 ?_
      |refine Z12 ?_|refine Z13 ?_|refine Z14 ?_|refine Z15 ?_|refine Z16 ?_|refine Z17 ?_|refine Z18 ?_|refine Z20 ?_|refine Z21 ?_|refine Z22 ?_|refine Z23 ?_
      |refine Z29 ?_|refine Z30 ?_|refine Z31 ?_|refine Z32 ?_|refine Z35 ?_|refine Z36 ?_|refine Z37 ?_|refine Z42 ?_|refine Z44 ?_|refine Z45 ?_|refine Z58 ?_
      |refine Z59 ?_|refine Z70 ?_|refine Z71 ?_|refine Z74 ?_|refine Z75 ?_|refine Z76 ?_|refine Z80 ?_|refine Z83 fun _ => ?_)
    refine Ze1 fun _ hw => post_of hw (Wout := [.sl v_ ((Sha.pad b).map (N .u8)) 5]) ?_ ?_
    · exact (by repeat (first | apply SubW.nil | refine SubW.cons (by repeat (first | apply Find.here | apply Find.there)) ?_))
    · rfl
end Go.Proofs.Ytbjfjkmidhfgcaa.L
