/- The walk of the law of sums, differences, orders, products and what is left. Condition: as the statement says. -/
import Derived.Test.YtbjfjkmidhfgcaaAuto
import Derived.Test.YtbjfjkmidhfgcaaPerm
import Derived.Test.YtbjfjkmidhfgcaaMore
import Derived.Test.YtbjfjkmidhfgcaaProg
import Derived.Test.YtbjfjkmidhfgcaaNum
import Derived.Test.YtbjfjkmidhfgcaaLmb
import Derived.Test.YtbjfjkmidhfgcaaLmd
import Derived.Test.YtbjfjkmidhfgcaaLmo
import Derived.Test.YtbjfjkmidhfgcaaLmk
import Derived.Test.YtbjfjkmidhfgcaaScope
import Derived.Test.YtbjfjkmidhfgcaaJoin
import Derived.Test.YtbjfjkmidhfgcaaLma
import Derived.Test.YtbjfjkmidhfgcaaLmz
import Derived.Test.YtbjfjkmidhfgcaaLmc
import Derived.Test.YtbjfjkmidhfgcaaLme
import Derived.Test.YtbjfjkmidhfgcaaLmf
import Derived.Test.YtbjfjkmidhfgcaaLmh
import Derived.Test.YtbjfjkmidhfgcaaLmj
import Derived.Test.YtbjfjkmidhfgcaaShaT
import Derived.Test.YtbjfjkmidhfgcaaLmp
import Derived.Test.YtbjfjkmidhfgcaaLmq
import Derived.Test.YtbjfjkmidhfgcaaLmr
import Derived.Test.YtbjfjkmidhfgcaaLmv
import Derived.Test.YtbjfjkmidhfgcaaLmw
import Derived.Test.YtbjfjkmidhfgcaaLmx
import Derived.Test.YtbjfjkmidhfgcaaLmy
namespace Go.Proofs.Ytbjfjkmidhfgcaa.L
open Go Go.Proofs
set_option maxRecDepth 100000
attribute [local irreducible] Code.wp wpList Af bodyPost L.Go
open Num
attribute [local simp] D_len octs_len

set_option maxHeartbeats 8000000 in
theorem lawTells3_spec (s1 : Value) (xs : List Nat) (hx : Lt 18446744073709551616 xs) (x63 : xs.length < 9223372036854775808) (s2 : Value) (ys : List Nat) (hy : Lt 18446744073709551616 ys) (y63 : ys.length < 9223372036854775808) :
    Spec Try.prog 4 [s1, s2] (fun w => Rd w s1 (xs.map (N .u64)) ∧ Rd w s2 (ys.map (N .u64))) [] (IsV (.bool true)) := by
  refine mk_spec Try.func4 rfl rfl rfl fun w hr => ?_
  have hr1 := RdC.mk0 hr.1
  have hr2 := RdC.mk0 hr.2
  repeat (first
    |(refine st_callV (by rfl) (by rfl) (by rfl) awake3_spec (fun _ _ => trivial) (by rfl) ?_)
    |(refine st_callV (by rfl) (by rfl) (by rfl) (few3_spec s1 s2 xs ys x63 y63) (fun w hw => ⟨RdW.old hr1 w hw, RdW.old hr2 w hw⟩) (by rfl) ?_)|refine Z01 ?_
    |refine Z02 ?_|refine Z03 ?_|refine Z04 ?_|refine Z05 ?_|refine Z06 ?_|refine Z07 ?_|refine Z08 ?_|refine Z09 ?_|refine Z10 ?_|refine Z11 ?_|refine Z12 ?_
    |refine Z13 ?_|refine Z14 ?_|refine Z17 ?_|refine Z18 ?_|refine Z19 ?_|refine Z49 ?_|refine Z50 ?_|refine Z51 ?_|refine Z52 ?_|refine Z53 ?_|refine Z54 ?_)
  by_cases hfew : xs.length ≤ 14 ∧ ys.length ≤ 14
  case neg =>
    rw [decide_eq_false hfew]
    repeat (first
      |refine Z01 ?_|refine Z02 ?_|refine Z03 ?_|refine Z04 ?_|refine Z05 ?_|refine Z06 ?_|refine Z07 ?_|refine Z08 ?_|refine Z09 ?_|refine Z10 ?_|refine Z11 ?_
      |refine Z12 ?_|refine Z13 ?_|refine Z14 ?_|refine Z17 ?_|refine Z18 ?_|refine Z19 ?_|refine Z49 ?_|refine Z50 ?_|refine Z51 ?_|refine Z52 ?_|refine Z53 ?_
      |refine Z54 ?_)
    refine Ze1 fun _ hw => post_of hw SubW.nil ⟨?_, rfl⟩
    rfl
  rw [decide_eq_true hfew]
  have hk5 := hfew.1
  have hb5 := hfew.2
  obtain ⟨e1, he1⟩ : ∃ e, e = D (max xs.length ys.length) (V xs + V ys) := ⟨_, rfl⟩
  obtain ⟨c1, hc1⟩ : ∃ c, c = (V xs + V ys) / W ^ max xs.length ys.length := ⟨_, rfl⟩
  obtain ⟨e2, he2⟩ : ∃ e, e = D (max xs.length ys.length) (sbn (max xs.length ys.length) (V xs) (V ys)) := ⟨_, rfl⟩
  obtain ⟨c2, hc2⟩ : ∃ c, c = bwn (V xs) (V ys) := ⟨_, rfl⟩
  obtain ⟨e3, he3⟩ : ∃ e, e = D (xs.length + ys.length) (V xs * V ys) := ⟨_, rfl⟩
  obtain ⟨o, ho⟩ : ∃ o, o = ord3 (V xs) (V ys) := ⟨_, rfl⟩
  have l1 : e1.length < 4294967296 := by rw [he1, D_len]; omega
  have l2 : e2.length < 4294967296 := by rw [he2, D_len]; omega
  have l3 : e3.length < 4294967296 := by rw [he3, D_len]; omega
  rcases Nat.eq_zero_or_pos (V ys) with hM | hM
  · repeat (first
      
      |((refine st_call (by rfl) (by rfl) (by rfl) (add_spec s1 s2 xs ys hx hy (by omega) (by omega)) .nil (fun w hw => ⟨RdW.old hr1 w hw, RdW.old hr2 w hw⟩) (by rfl) ?_; rintro _ _ ⟨a1, rfl, rfl⟩; rw [← he1, ← hc1]))
      |((refine st_call (by rfl) (by rfl) (by rfl) (add3_spec s1 s2 xs ys hx hy (by omega) (by omega)) .nil (fun w hw => ⟨RdW.old hr1 w hw, RdW.old hr2 w hw⟩) (by rfl) ?_; rintro _ _ ⟨a2, rfl, rfl⟩; rw [← he1, ← hc1]))
      |((refine st_call (by rfl) (by rfl) (by rfl) (sub_spec s1 s2 xs ys hx hy (by omega) (by omega)) .nil (fun w hw => ⟨RdW.old hr1 w hw, RdW.old hr2 w hw⟩) (by rfl) ?_; rintro _ _ ⟨a3, rfl, rfl⟩; rw [← he2, ← hc2]))
      |((refine st_call (by rfl) (by rfl) (by rfl) (sub3_spec s1 s2 xs ys hx hy (by omega) (by omega)) .nil (fun w hw => ⟨RdW.old hr1 w hw, RdW.old hr2 w hw⟩) (by rfl) ?_; rintro _ _ ⟨a4, rfl, rfl⟩; rw [← he2, ← hc2]))
      |((refine st_call (by rfl) (by rfl) (by rfl) (lmul_spec s1 s2 xs ys hx hy (by omega) (by omega)) .nil (fun w hw => ⟨RdW.old hr1 w hw, RdW.old hr2 w hw⟩) (by rfl) ?_; rintro a5 _ rfl; rw [← he3]))
      |((refine st_call (by rfl) (by rfl) (by rfl) (mul3_spec s1 s2 xs ys hx hy (by omega) (by omega)) .nil (fun w hw => ⟨RdW.old hr1 w hw, RdW.old hr2 w hw⟩) (by rfl) ?_; rintro a6 _ rfl; rw [← he3]))
      |((refine st_callV (by rfl) (by rfl) (by rfl) (cmp_spec s1 s2 xs ys hx hy (by omega) (by omega)) (fun w hw => ⟨RdW.old hr1 w hw, RdW.old hr2 w hw⟩) (by rfl) ?_; rw [← ho]))
      |((refine st_callV (by rfl) (by rfl) (by rfl) (cmp3_spec s1 s2 xs ys hx hy (by omega) (by omega)) (fun w hw => ⟨RdW.old hr1 w hw, RdW.old hr2 w hw⟩) (by rfl) ?_; rw [← ho]))
      |(refine st_callV (by rfl) (by rfl) (by rfl) (same3_spec _ _ e1 e1 l1) (fun w hw => ⟨RdW.own (by repeat (first | apply Find.here | apply Find.there)) w hw, RdW.own (by repeat (first | apply Find.here | apply Find.there)) w hw⟩) (by rfl) ?_)
      |(rw [decide_eq_true (p := e1 = e1) rfl])
      |(refine st_callV (by rfl) (by rfl) (by rfl) (same3_spec _ _ e2 e2 l2) (fun w hw => ⟨RdW.own (by repeat (first | apply Find.here | apply Find.there)) w hw, RdW.own (by repeat (first | apply Find.here | apply Find.there)) w hw⟩) (by rfl) ?_)
      |(rw [decide_eq_true (p := e2 = e2) rfl])
      |(refine st_callV (by rfl) (by rfl) (by rfl) (same3_spec _ _ e3 e3 l3) (fun w hw => ⟨RdW.own (by repeat (first | apply Find.here | apply Find.there)) w hw, RdW.own (by repeat (first | apply Find.here | apply Find.there)) w hw⟩) (by rfl) ?_)
      |(rw [decide_eq_true (p := e3 = e3) rfl])|(rw [decide_eq_true (p := c1 = c1) rfl])|(rw [decide_eq_true (p := c2 = c2) rfl])|(rw [decide_eq_true (p := o = o) rfl])
      |((refine st_call (by rfl) (by rfl) (by rfl) (mod_spec s1 s2 xs ys hx hy (by omega) (by omega)) .nil (fun w hw => ⟨RdW.old hr1 w hw, RdW.old hr2 w hw⟩) (by rfl) ?_; rintro _ _ (⟨_, rfl, rfl⟩ | ⟨hz0, _⟩); case inr => exact absurd hM (Nat.ne_of_gt hz0)))
      |((refine st_call (by rfl) (by rfl) (by rfl) (mod3_spec s1 s2 xs ys hx hy (by omega) (by omega)) .nil (fun w hw => ⟨RdW.old hr1 w hw, RdW.old hr2 w hw⟩) (by rfl) ?_; rintro _ _ (⟨_, rfl, rfl⟩ | ⟨hz0, _⟩); case inr => exact absurd hM (Nat.ne_of_gt hz0)))
      |(refine st_callV (by rfl) (by rfl) (by rfl) (same3_spec (.slice none 0 0) (.slice none 0 0) [] [] (by decide)) (fun w hw => ⟨Rd.nil w, Rd.nil w⟩) (by rfl) ?_)
      |(rw [decide_eq_true (p := ([] : List Nat) = []) rfl])|refine Z01 ?_|refine Z02 ?_|refine Z03 ?_|refine Z04 ?_|refine Z05 ?_|refine Z06 ?_|refine Z07 ?_
      |refine Z08 ?_|refine Z09 ?_|refine Z10 ?_|refine Z11 ?_|refine Z12 ?_|refine Z13 ?_|refine Z14 ?_|refine Z17 ?_|refine Z18 ?_|refine Z19 ?_|refine Z49 ?_
      |refine Z50 ?_|refine Z51 ?_|refine Z52 ?_|refine Z53 ?_|refine Z54 ?_)
    refine Ze1 fun _ hw => post_of hw SubW.nil ⟨?_, rfl⟩
    rfl
  · obtain ⟨e4, he4⟩ : ∃ e, e = D ys.length (V xs % V ys) := ⟨_, rfl⟩
    have l4 : e4.length < 4294967296 := by rw [he4, D_len]; omega
    repeat (first
      
      |((refine st_call (by rfl) (by rfl) (by rfl) (add_spec s1 s2 xs ys hx hy (by omega) (by omega)) .nil (fun w hw => ⟨RdW.old hr1 w hw, RdW.old hr2 w hw⟩) (by rfl) ?_; rintro _ _ ⟨a1, rfl, rfl⟩; rw [← he1, ← hc1]))
      |((refine st_call (by rfl) (by rfl) (by rfl) (add3_spec s1 s2 xs ys hx hy (by omega) (by omega)) .nil (fun w hw => ⟨RdW.old hr1 w hw, RdW.old hr2 w hw⟩) (by rfl) ?_; rintro _ _ ⟨a2, rfl, rfl⟩; rw [← he1, ← hc1]))
      |((refine st_call (by rfl) (by rfl) (by rfl) (sub_spec s1 s2 xs ys hx hy (by omega) (by omega)) .nil (fun w hw => ⟨RdW.old hr1 w hw, RdW.old hr2 w hw⟩) (by rfl) ?_; rintro _ _ ⟨a3, rfl, rfl⟩; rw [← he2, ← hc2]))
      |((refine st_call (by rfl) (by rfl) (by rfl) (sub3_spec s1 s2 xs ys hx hy (by omega) (by omega)) .nil (fun w hw => ⟨RdW.old hr1 w hw, RdW.old hr2 w hw⟩) (by rfl) ?_; rintro _ _ ⟨a4, rfl, rfl⟩; rw [← he2, ← hc2]))
      |((refine st_call (by rfl) (by rfl) (by rfl) (lmul_spec s1 s2 xs ys hx hy (by omega) (by omega)) .nil (fun w hw => ⟨RdW.old hr1 w hw, RdW.old hr2 w hw⟩) (by rfl) ?_; rintro a5 _ rfl; rw [← he3]))
      |((refine st_call (by rfl) (by rfl) (by rfl) (mul3_spec s1 s2 xs ys hx hy (by omega) (by omega)) .nil (fun w hw => ⟨RdW.old hr1 w hw, RdW.old hr2 w hw⟩) (by rfl) ?_; rintro a6 _ rfl; rw [← he3]))
      |((refine st_callV (by rfl) (by rfl) (by rfl) (cmp_spec s1 s2 xs ys hx hy (by omega) (by omega)) (fun w hw => ⟨RdW.old hr1 w hw, RdW.old hr2 w hw⟩) (by rfl) ?_; rw [← ho]))
      |((refine st_callV (by rfl) (by rfl) (by rfl) (cmp3_spec s1 s2 xs ys hx hy (by omega) (by omega)) (fun w hw => ⟨RdW.old hr1 w hw, RdW.old hr2 w hw⟩) (by rfl) ?_; rw [← ho]))
      |(refine st_callV (by rfl) (by rfl) (by rfl) (same3_spec _ _ e1 e1 l1) (fun w hw => ⟨RdW.own (by repeat (first | apply Find.here | apply Find.there)) w hw, RdW.own (by repeat (first | apply Find.here | apply Find.there)) w hw⟩) (by rfl) ?_)
      |(rw [decide_eq_true (p := e1 = e1) rfl])
      |(refine st_callV (by rfl) (by rfl) (by rfl) (same3_spec _ _ e2 e2 l2) (fun w hw => ⟨RdW.own (by repeat (first | apply Find.here | apply Find.there)) w hw, RdW.own (by repeat (first | apply Find.here | apply Find.there)) w hw⟩) (by rfl) ?_)
      |(rw [decide_eq_true (p := e2 = e2) rfl])
      |(refine st_callV (by rfl) (by rfl) (by rfl) (same3_spec _ _ e3 e3 l3) (fun w hw => ⟨RdW.own (by repeat (first | apply Find.here | apply Find.there)) w hw, RdW.own (by repeat (first | apply Find.here | apply Find.there)) w hw⟩) (by rfl) ?_)
      |(rw [decide_eq_true (p := e3 = e3) rfl])|(rw [decide_eq_true (p := c1 = c1) rfl])|(rw [decide_eq_true (p := c2 = c2) rfl])|(rw [decide_eq_true (p := o = o) rfl])
      |((refine st_call (by rfl) (by rfl) (by rfl) (mod_spec s1 s2 xs ys hx hy (by omega) (by omega)) .nil (fun w hw => ⟨RdW.old hr1 w hw, RdW.old hr2 w hw⟩) (by rfl) ?_; rintro _ _ (⟨hz0, _, _⟩ | ⟨_, a7, rfl, rfl⟩); exact absurd hz0 (Nat.ne_of_gt hM); rw [← he4]))
      |((refine st_call (by rfl) (by rfl) (by rfl) (mod3_spec s1 s2 xs ys hx hy (by omega) (by omega)) .nil (fun w hw => ⟨RdW.old hr1 w hw, RdW.old hr2 w hw⟩) (by rfl) ?_; rintro _ _ (⟨hz0, _, _⟩ | ⟨_, a8, rfl, rfl⟩); exact absurd hz0 (Nat.ne_of_gt hM); rw [← he4]))
      |(refine st_callV (by rfl) (by rfl) (by rfl) (same3_spec _ _ e4 e4 l4) (fun w hw => ⟨RdW.own (by repeat (first | apply Find.here | apply Find.there)) w hw, RdW.own (by repeat (first | apply Find.here | apply Find.there)) w hw⟩) (by rfl) ?_)
      |(rw [decide_eq_true (p := e4 = e4) rfl])|refine Z01 ?_|refine Z02 ?_|refine Z03 ?_|refine Z04 ?_|refine Z05 ?_|refine Z06 ?_|refine Z07 ?_|refine Z08 ?_
      |refine Z09 ?_|refine Z10 ?_|refine Z11 ?_|refine Z12 ?_|refine Z13 ?_|refine Z14 ?_|refine Z17 ?_|refine Z18 ?_|refine Z19 ?_|refine Z49 ?_|refine Z50 ?_
      |refine Z51 ?_|refine Z52 ?_|refine Z53 ?_|refine Z54 ?_)
    refine Ze1 fun _ hw => post_of hw SubW.nil ⟨?_, rfl⟩
    rfl
end Go.Proofs.Ytbjfjkmidhfgcaa.L
