/- The walks of the laws of numbers of many words. Conditions: as each statement says. -/
import Derived.Test.YtbjfjkmidhfgcaaAuto
import Derived.Test.YtbjfjkmidhfgcaaPerm
import Derived.Test.YtbjfjkmidhfgcaaMore
import Derived.Test.YtbjfjkmidhfgcaaProg
import Derived.Test.YtbjfjkmidhfgcaaNum
import Derived.Test.YtbjfjkmidhfgcaaLmb
import Derived.Test.YtbjfjkmidhfgcaaLmd
import Derived.Test.YtbjfjkmidhfgcaaLmo
import Derived.Test.YtbjfjkmidhfgcaaScope
import Derived.Test.YtbjfjkmidhfgcaaJoin
import Derived.Test.YtbjfjkmidhfgcaaLma
import Derived.Test.YtbjfjkmidhfgcaaLmz
import Derived.Test.YtbjfjkmidhfgcaaLmc
import Derived.Test.YtbjfjkmidhfgcaaLme
import Derived.Test.YtbjfjkmidhfgcaaLmf
import Derived.Test.YtbjfjkmidhfgcaaLmh
import Derived.Test.YtbjfjkmidhfgcaaLmj
import Derived.Test.YtbjfjkmidhfgcaaShaT
import Derived.Test.YtbjfjkmidhfgcaaLmp
namespace Go.Proofs.Ytbjfjkmidhfgcaa.L
open Go Go.Proofs
set_option maxRecDepth 100000
attribute [local irreducible] Code.wp wpList Af bodyPost L.Go
open Num
attribute [local simp] D_len octs_len

theorem lt64 {xs : List Nat} (h : xs.all (fun x => Nat.blt x 18446744073709551616) = true) : Lt 18446744073709551616 xs := fun x hx => by
  have := List.all_eq_true.1 h x hx
  exact Nat.le_of_ble_eq_true this
theorem lt8 {xs : List Nat} (h : xs.all (fun x => Nat.blt x 256) = true) : Lt 256 xs := fun x hx => by
  have := List.all_eq_true.1 h x hx
  exact Nat.le_of_ble_eq_true this
theorem aw1 : (D (max [18446744073709551615].length [1].length) (V [18446744073709551615] + V [1])).getD 0 0 = 0 := by decide +kernel
theorem aw2 : (V [18446744073709551615] + V [1]) / Num.W ^ (max [18446744073709551615].length [1].length) = 1 := by decide +kernel
theorem aw3 : (D [10].length (V [0, 1] % V [10])).getD 0 0 = 6 := by decide +kernel
theorem aw4 : (D ([9223372036854775808].length + [2].length) (V [9223372036854775808] * V [2])).getD 1 0 = 1 := by decide +kernel
theorem aw5 : (octs (V [258]) 3).getD 1 0 = 1 := by decide +kernel
theorem aw6 : (D (([1, 0, 0, 0, 0, 0, 0, 0, 2].length + 7) / 8) (bval [1, 0, 0, 0, 0, 0, 0, 0, 2])).getD 0 0 = 2 := by decide +kernel
theorem aw7 : (D (([1, 0, 0, 0, 0, 0, 0, 0, 2].length + 7) / 8) (bval [1, 0, 0, 0, 0, 0, 0, 0, 2])).getD 1 0 = 1 := by decide +kernel
theorem aw8 : ord3 (V [1, 0]) (V [1]) = 0 := by decide +kernel
theorem aw9 : V [0] = 0 := by decide +kernel
theorem aw10 : 0 < V [10] := by decide +kernel

set_option maxHeartbeats 4000000 in
theorem awake3_spec : Spec Try.prog 19 [] NoPre [] (IsV (.bool true)) := by
  refine mk_spec Try.func19 rfl rfl rfl fun w hr => ?_
  have e1 := decide_eq_true aw1
  have e2 := decide_eq_true aw2
  have e3 := decide_eq_true aw3
  have e4 := decide_eq_true aw4
  have e5 := decide_eq_true aw5
  have e6 := decide_eq_true aw6
  have e7 := decide_eq_true aw7
  have hl : (D (([1, 0, 0, 0, 0, 0, 0, 0, 2].length + 7) / 8) (bval [1, 0, 0, 0, 0, 0, 0, 0, 2])).length = 2 := by rw [D_len]; rfl
  have hl2 : (D (max [18446744073709551615].length [1].length) (V [18446744073709551615] + V [1])).length = 1 := by rw [D_len]; rfl
  have hl3 : (D [10].length (V [0, 1] % V [10])).length = 1 := by rw [D_len]; rfl
  have hl4 : (D ([9223372036854775808].length + [2].length) (V [9223372036854775808] * V [2])).length = 2 := by rw [D_len]; rfl
  have hl5 : (octs (V [258]) 3).length = 3 := octs_len _ _
  repeat (first
    |(rw [hl])|(rw [hl2])|(rw [hl3])|(rw [hl4])|(rw [hl5])|(rw [e1])|(rw [e2])|(rw [e3])|(rw [e4])|(rw [e5])|(rw [e6])|(rw [e7])|(rw [aw8])
    |(refine st_buildSliceN (vs := [18446744073709551615]) (kk := .u64) (by rfl) (by rfl) (by rfl) (by rfl) (by rfl) (by rfl) (by rfl) (by rfl) fun _ => ?_)
    |(refine st_buildSliceN (vs := [1]) (kk := .u64) (by rfl) (by rfl) (by rfl) (by rfl) (by rfl) (by rfl) (by rfl) (by rfl) fun _ => ?_)
    |(refine st_buildSliceN (vs := [0, 1]) (kk := .u64) (by rfl) (by rfl) (by rfl) (by rfl) (by rfl) (by rfl) (by rfl) (by rfl) fun _ => ?_)
    |(refine st_buildSliceN (vs := [10]) (kk := .u64) (by rfl) (by rfl) (by rfl) (by rfl) (by rfl) (by rfl) (by rfl) (by rfl) fun _ => ?_)
    |(refine st_buildSliceN (vs := [5]) (kk := .u64) (by rfl) (by rfl) (by rfl) (by rfl) (by rfl) (by rfl) (by rfl) (by rfl) fun _ => ?_)
    |(refine st_buildSliceN (vs := [0]) (kk := .u64) (by rfl) (by rfl) (by rfl) (by rfl) (by rfl) (by rfl) (by rfl) (by rfl) fun _ => ?_)
    |(refine st_buildSliceN (vs := [9223372036854775808]) (kk := .u64) (by rfl) (by rfl) (by rfl) (by rfl) (by rfl) (by rfl) (by rfl) (by rfl) fun _ => ?_)
    |(refine st_buildSliceN (vs := [2]) (kk := .u64) (by rfl) (by rfl) (by rfl) (by rfl) (by rfl) (by rfl) (by rfl) (by rfl) fun _ => ?_)
    |(refine st_buildSliceN (vs := [258]) (kk := .u64) (by rfl) (by rfl) (by rfl) (by rfl) (by rfl) (by rfl) (by rfl) (by rfl) fun _ => ?_)
    |(refine st_buildSliceN (vs := [1, 0]) (kk := .u64) (by rfl) (by rfl) (by rfl) (by rfl) (by rfl) (by rfl) (by rfl) (by rfl) fun _ => ?_)
    |(refine st_buildSliceN (vs := [1, 0, 0, 0, 0, 0, 0, 0, 2]) (kk := .u8) (by rfl) (by rfl) (by rfl) (by rfl) (by rfl) (by rfl) (by rfl) (by rfl) fun _ => ?_)
    |((refine st_call (by rfl) (by rfl) (by rfl) (add_spec _ _ [18446744073709551615] [1] (lt64 rfl) (lt64 rfl) (by decide) (by decide)) .nil (fun w hw => ⟨RdW.own (by repeat (first | apply Find.here | apply Find.there)) w hw, RdW.own (by repeat (first | apply Find.here | apply Find.there)) w hw⟩) (by rfl) ?_; rintro _ _ ⟨a1, rfl, rfl⟩))
    |((refine st_call (by rfl) (by rfl) (by rfl) (mod_spec _ _ [0, 1] [10] (lt64 rfl) (lt64 rfl) (by decide) (by decide)) .nil (fun w hw => ⟨RdW.own (by repeat (first | apply Find.here | apply Find.there)) w hw, RdW.own (by repeat (first | apply Find.here | apply Find.there)) w hw⟩) (by rfl) ?_; rintro _ _ (⟨hz, _, _⟩ | ⟨_, a2, rfl, rfl⟩); exact absurd hz (Nat.ne_of_gt aw10)))
    |((refine st_call (by rfl) (by rfl) (by rfl) (mod_spec _ _ [5] [0] (lt64 rfl) (lt64 rfl) (by decide) (by decide)) .nil (fun w hw => ⟨RdW.own (by repeat (first | apply Find.here | apply Find.there)) w hw, RdW.own (by repeat (first | apply Find.here | apply Find.there)) w hw⟩) (by rfl) ?_; rintro _ _ (⟨_, rfl, rfl⟩ | ⟨hz, _⟩); case inr => exact absurd aw9 (Nat.ne_of_gt hz)))
    |((refine st_call (by rfl) (by rfl) (by rfl) (lmul_spec _ _ [9223372036854775808] [2] (lt64 rfl) (lt64 rfl) (by decide) (by decide)) .nil (fun w hw => ⟨RdW.own (by repeat (first | apply Find.here | apply Find.there)) w hw, RdW.own (by repeat (first | apply Find.here | apply Find.there)) w hw⟩) (by rfl) ?_; rintro a3 _ rfl))
    |((refine st_call (by rfl) (by rfl) (by rfl) (octets_spec _ [258] 3 (lt64 rfl) (by decide) (by decide)) .nil (RdW.own (by repeat (first | apply Find.here | apply Find.there))) (by rfl) ?_; rintro a4 _ rfl))
    |((refine st_call (by rfl) (by rfl) (by rfl) (words_spec _ [1, 0, 0, 0, 0, 0, 0, 0, 2] (lt8 rfl) (by decide)) .nil (RdW.own (by repeat (first | apply Find.here | apply Find.there))) (by rfl) ?_; rintro a5 _ rfl))
    |(refine st_callV (by rfl) (by rfl) (by rfl) (cmp_spec _ _ [1, 0] [1] (lt64 rfl) (lt64 rfl) (by decide) (by decide)) (fun w hw => ⟨RdW.own (by repeat (first | apply Find.here | apply Find.there)) w hw, RdW.own (by repeat (first | apply Find.here | apply Find.there)) w hw⟩) (by rfl) ?_)
    |refine Z01 ?_|refine Z02 ?_|refine Z03 ?_|refine Z04 ?_|refine Z05 ?_|refine Z06 ?_|refine Z07 ?_|refine Z08 ?_|refine Z09 ?_|refine Z10 ?_|refine Z11 ?_
    |refine Z12 ?_|refine Z13 ?_|refine Z14 ?_|refine Z17 ?_|refine Z18 ?_|refine Z19 ?_|refine Z20 ?_|refine Z21 ?_|refine Z22 ?_|refine Z23 ?_|refine Z24 ?_
    |refine Z25 ?_|refine Z26 ?_|refine Z27 ?_|refine Z28 ?_|refine Z49 ?_|refine Z50 ?_|refine Z51 ?_|refine Z52 ?_|refine Z53 ?_|refine Z58 ?_|refine Z59 ?_
    |refine Z67 ?_|refine Z85 fun _ => ?_)
  refine Ze1 fun _ hw => post_of hw SubW.nil ⟨?_, rfl⟩
  rfl

end Go.Proofs.Ytbjfjkmidhfgcaa.L
