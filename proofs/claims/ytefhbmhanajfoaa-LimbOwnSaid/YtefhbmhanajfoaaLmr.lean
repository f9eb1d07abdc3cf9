/- The walks of more laws of numbers of many words. Conditions: as each statement says. -/
import Derived.Test.YtefhbmhanajfoaaAuto
import Derived.Test.YtefhbmhanajfoaaPerm
import Derived.Test.YtefhbmhanajfoaaMore
import Derived.Test.YtefhbmhanajfoaaProg
import Derived.Test.YtefhbmhanajfoaaNum
import Derived.Test.YtefhbmhanajfoaaLmb
import Derived.Test.YtefhbmhanajfoaaLmd
import Derived.Test.YtefhbmhanajfoaaLmo
import Derived.Test.YtefhbmhanajfoaaScope
import Derived.Test.YtefhbmhanajfoaaJoin
import Derived.Test.YtefhbmhanajfoaaLma
import Derived.Test.YtefhbmhanajfoaaLmz
import Derived.Test.YtefhbmhanajfoaaLmc
import Derived.Test.YtefhbmhanajfoaaLme
import Derived.Test.YtefhbmhanajfoaaLmf
import Derived.Test.YtefhbmhanajfoaaLmh
import Derived.Test.YtefhbmhanajfoaaLmj
import Derived.Test.YtefhbmhanajfoaaShaT
import Derived.Test.YtefhbmhanajfoaaLmp
import Derived.Test.YtefhbmhanajfoaaLmq
namespace Go.Proofs.Ytefhbmhanajfoaa.L
open Go Go.Proofs
set_option maxRecDepth 100000
attribute [local irreducible] Code.wp wpList Af bodyPost L.Go
open Num
attribute [local simp] D_len octs_len

theorem few3_spec (s t : Value) (a b : List Nat) (h1 : a.length < 9223372036854775808) (h2 : b.length < 9223372036854775808) :
    Spec Try.prog 47 [s, t] (fun w => Rd w s (a.map (N .u64)) ∧ Rd w t (b.map (N .u64))) [] (IsV (.bool (decide (a.length ≤ 14 ∧ b.length ≤ 14)))) := by
  refine mk_spec Try.func47 rfl rfl rfl fun w hr => ?_
  have hr1 := RdC.mk0 hr.1
  have hr2 := RdC.mk0 hr.2
  by_cases ha : a.length ≤ 14
  · by_cases hb : b.length ≤ 14
    · repeat (first
        |(refine st_cmp (r := true) (by rfl) (by rfl) (cmpN_t (by first | (simp only [cmpP]; done) | (simp only [cmpP]; omega))) (by rfl) ?_)|refine Z01 ?_|refine Z02 ?_
        |refine Z03 ?_|refine Z04 ?_|refine Z05 ?_|refine Z06 ?_|refine Z07 ?_|refine Z08 ?_|refine Z09 ?_|refine Z10 ?_|refine Z11 ?_|refine Z12 ?_|refine Z13 ?_
        |refine Z14 ?_|refine Z17 ?_|refine Z18 ?_|refine Z20 ?_|refine Z21 ?_|refine Z49 ?_|refine Z50 ?_|refine Z51 ?_|refine Z52 ?_|refine Z53 ?_|refine Z58 ?_
        |refine Z59 ?_)
      refine Ze1 fun _ hw => post_of hw SubW.nil ⟨?_, rfl⟩
      rw [decide_eq_true ⟨ha, hb⟩]
    · repeat (first
        |(refine st_cmp (r := true) (by rfl) (by rfl) (cmpN_t (by first | (simp only [cmpP]; done) | (simp only [cmpP]; omega))) (by rfl) ?_)
        |(refine st_cmp (r := false) (by rfl) (by rfl) (cmpN_f (by first | (simp only [cmpQ]; done) | (simp only [cmpQ]; omega))) (by rfl) ?_)|refine Z01 ?_|refine Z02 ?_
        |refine Z03 ?_|refine Z04 ?_|refine Z05 ?_|refine Z06 ?_|refine Z07 ?_|refine Z08 ?_|refine Z09 ?_|refine Z10 ?_|refine Z11 ?_|refine Z12 ?_|refine Z13 ?_
        |refine Z14 ?_|refine Z17 ?_|refine Z18 ?_|refine Z20 ?_|refine Z21 ?_|refine Z49 ?_|refine Z50 ?_|refine Z51 ?_|refine Z52 ?_|refine Z53 ?_|refine Z58 ?_
        |refine Z59 ?_)
      refine Ze1 fun _ hw => post_of hw SubW.nil ⟨?_, rfl⟩
      rw [decide_eq_false (fun h => hb h.2)]
  · repeat (first
      |(refine st_cmp (r := false) (by rfl) (by rfl) (cmpN_f (by first | (simp only [cmpQ]; done) | (simp only [cmpQ]; omega))) (by rfl) ?_)|refine Z01 ?_|refine Z02 ?_
      |refine Z03 ?_|refine Z04 ?_|refine Z05 ?_|refine Z06 ?_|refine Z07 ?_|refine Z08 ?_|refine Z09 ?_|refine Z10 ?_|refine Z11 ?_|refine Z12 ?_|refine Z13 ?_
      |refine Z14 ?_|refine Z17 ?_|refine Z18 ?_|refine Z20 ?_|refine Z21 ?_|refine Z49 ?_|refine Z50 ?_|refine Z51 ?_|refine Z52 ?_|refine Z53 ?_|refine Z58 ?_
      |refine Z59 ?_)
    refine Ze1 fun _ hw => post_of hw SubW.nil ⟨?_, rfl⟩
    rw [decide_eq_false (fun h => ha h.1)]

theorem back_oct {xs : List Nat} (h : Lt 18446744073709551616 xs) : D (((octs (V xs) (8 * xs.length)).length + 7) / 8) (bval (octs (V xs) (8 * xs.length))) = xs := by
  have h1 := V_lt h
  have h2 : W ^ xs.length = 256 ^ (8 * xs.length) := by rw [W_256, ← Nat.pow_mul]
  rw [octs_len, octs_bval _ _ (by rw [← h2]; exact h1), show (8 * xs.length + 7) / 8 = xs.length by omega]
  exact D_V h
theorem back_sub {A B n m : Nat} (hA : A < W ^ n) (hB : B < W ^ n) (hm : m = n) : V (D m (sbn m (V (D n (A + B))) B)) = A := by
  subst hm
  rw [V_D, V_D, sbn]
  rcases Nat.lt_or_ge (A + B) (W ^ m) with h | h
  · rw [Nat.mod_eq_of_lt h, show A + B + W ^ m - B = A + W ^ m by omega, Nat.add_mod_right, Nat.mod_eq_of_lt hA]
  · rw [Nat.mod_eq_sub_mod h, Nat.mod_eq_of_lt (a := A + B - W ^ m) (by omega), show A + B - W ^ m + W ^ m - B = A by omega, Nat.mod_eq_of_lt hA]


set_option maxHeartbeats 4000000 in
theorem lawBack3_spec (s1 : Value) (xs : List Nat) (hx : Lt 18446744073709551616 xs) (x63 : xs.length < 9223372036854775808) (s2 : Value) (ys : List Nat) (hy : Lt 18446744073709551616 ys) (y63 : ys.length < 9223372036854775808) :
    Spec Try.prog 18 [s1, s2] (fun w => Rd w s1 (xs.map (N .u64)) ∧ Rd w s2 (ys.map (N .u64))) [] (IsV (.bool true)) := by
  refine mk_spec Try.func18 rfl rfl rfl fun w hr => ?_
  have hr1 := RdC.mk0 hr.1
  have hr2 := RdC.mk0 hr.2
  repeat (first
    |(refine st_callV (by rfl) (by rfl) (by rfl) awake3_spec (fun _ _ => trivial) (by rfl) ?_)
    |(refine st_callV (by rfl) (by rfl) (by rfl) (few3_spec s1 s2 xs ys x63 y63) (fun w hw => ⟨RdW.old hr1 w hw, RdW.old hr2 w hw⟩) (by rfl) ?_)|refine Z01 ?_
    |refine Z02 ?_|refine Z03 ?_|refine Z04 ?_|refine Z05 ?_|refine Z06 ?_|refine Z07 ?_|refine Z08 ?_|refine Z09 ?_|refine Z10 ?_|refine Z11 ?_|refine Z12 ?_
    |refine Z13 ?_|refine Z14 ?_|refine Z17 ?_|refine Z18 ?_|refine Z19 ?_|refine Z20 ?_|refine Z21 ?_|refine Z36 ?_|refine Z49 ?_|refine Z50 ?_|refine Z51 ?_
    |refine Z52 ?_|refine Z53 ?_|refine Z54 ?_|refine Z58 ?_|refine Z59 ?_|refine Z68 ?_|refine Z69 ?_|refine Z72 ?_|refine Z73 ?_)
  by_cases hfew : xs.length ≤ 14 ∧ ys.length ≤ 14
  case neg =>
    rw [decide_eq_false hfew]
    repeat (first
      |refine Z01 ?_|refine Z02 ?_|refine Z03 ?_|refine Z04 ?_|refine Z05 ?_|refine Z06 ?_|refine Z07 ?_|refine Z08 ?_|refine Z09 ?_|refine Z10 ?_|refine Z11 ?_
      |refine Z12 ?_|refine Z13 ?_|refine Z14 ?_|refine Z17 ?_|refine Z18 ?_|refine Z19 ?_|refine Z20 ?_|refine Z21 ?_|refine Z36 ?_|refine Z49 ?_|refine Z50 ?_
      |refine Z51 ?_|refine Z52 ?_|refine Z53 ?_|refine Z54 ?_|refine Z58 ?_|refine Z59 ?_|refine Z68 ?_|refine Z69 ?_|refine Z72 ?_|refine Z73 ?_)
    refine Ze1 fun _ hw => post_of hw SubW.nil ⟨?_, rfl⟩
    rfl
  rw [decide_eq_true hfew]
  have hk5 := hfew.1
  have hb5 := hfew.2
  have hvx := V_lt_le hx (n := max xs.length ys.length) (Nat.le_max_left ..)
  have hvy := V_lt_le hy (n := max xs.length ys.length) (Nat.le_max_right ..)
  have hd := back_sub hvx hvy (m := max (D (max xs.length ys.length) (V xs + V ys)).length ys.length) (by rw [D_len]; omega)
  have ho := back_oct hx
  have hoL : (octs (V xs) (8 * xs.length)).length < 16777216 := by rw [octs_len]; omega
  have hsL : (D (max xs.length ys.length) (V xs + V ys)).length < 16777216 := by rw [D_len]; omega
  repeat (first
    
    |((refine st_call (by rfl) (by rfl) (by rfl) (add_spec s1 s2 xs ys hx hy (by omega) (by omega)) .nil (fun w hw => ⟨RdW.old hr1 w hw, RdW.old hr2 w hw⟩) (by rfl) ?_; rintro _ _ ⟨a1, rfl, rfl⟩))
    |((refine st_call (by rfl) (by rfl) (by rfl) (sub_spec _ s2 _ ys (D_lt _ _) hy hsL (by omega)) .nil (fun w hw => ⟨RdW.own (by repeat (first | apply Find.here | apply Find.there)) w hw, RdW.old hr2 w hw⟩) (by rfl) ?_; rintro _ _ ⟨a2, rfl, rfl⟩))
    |((refine st_call (by rfl) (by rfl) (by rfl) (sub_spec s1 s2 xs ys hx hy (by omega) (by omega)) .nil (fun w hw => ⟨RdW.old hr1 w hw, RdW.old hr2 w hw⟩) (by rfl) ?_; rintro _ _ ⟨a3, rfl, rfl⟩))
    |((refine st_call (by rfl) (by rfl) (by rfl) (octets_spec s1 xs (8 * xs.length) hx (by omega) (by omega)) .nil (fun w hw => RdW.old hr1 w hw) (by rfl) ?_; rintro a4 _ rfl))
    |((refine st_call (by rfl) (by rfl) (by rfl) (words_spec _ _ (octs_lt _ _) hoL) .nil (RdW.own (by repeat (first | apply Find.here | apply Find.there))) (by rfl) ?_; rintro a5 _ rfl; rw [ho]))
    |(refine st_callV (by rfl) (by rfl) (by rfl) (cmp_spec s1 s2 xs ys hx hy (by omega) (by omega)) (fun w hw => ⟨RdW.old hr1 w hw, RdW.old hr2 w hw⟩) (by rfl) ?_)
    |(refine st_callV (by rfl) (by rfl) (by rfl) (cmp_spec s2 s1 ys xs hy hx (by omega) (by omega)) (fun w hw => ⟨RdW.old hr2 w hw, RdW.old hr1 w hw⟩) (by rfl) ?_)
    |(refine st_callV (by rfl) (by rfl) (by rfl) (same3_spec _ s1 xs xs (by omega)) (fun w hw => ⟨RdW.own (by repeat (first | apply Find.here | apply Find.there)) w hw, RdW.old hr1 w hw⟩) (by rfl) ?_)
    |refine Z01 ?_|refine Z02 ?_|refine Z03 ?_|refine Z04 ?_|refine Z05 ?_|refine Z06 ?_|refine Z07 ?_|refine Z08 ?_|refine Z09 ?_|refine Z10 ?_|refine Z11 ?_
    |refine Z12 ?_|refine Z13 ?_|refine Z14 ?_|refine Z17 ?_|refine Z18 ?_|refine Z19 ?_|refine Z20 ?_|refine Z21 ?_|refine Z36 ?_|refine Z49 ?_|refine Z50 ?_
    |refine Z51 ?_|refine Z52 ?_|refine Z53 ?_|refine Z54 ?_|refine Z58 ?_|refine Z59 ?_|refine Z68 ?_|refine Z69 ?_|refine Z72 ?_|refine Z73 ?_)
  rw [decide_eq_true rfl]
  have hLl : (D (max (D (max xs.length ys.length) (V xs + V ys)).length ys.length) (sbn (max (D (max xs.length ys.length) (V xs + V ys)).length ys.length) (V (D (max xs.length ys.length) (V xs + V ys))) (V ys))).length < 16777216 := by rw [D_len]; omega
  rcases Nat.lt_trichotomy (V xs) (V ys) with h | h | h
  · rw [ord3_lt h, ord3_gt h, show bwn (V xs) (V ys) = 1 from if_pos h]
    repeat (first
      
      |(refine st_callV (by rfl) (by rfl) (by rfl) (cmp_spec _ s1 (D (max (D (max xs.length ys.length) (V xs + V ys)).length ys.length) (sbn (max (D (max xs.length ys.length) (V xs + V ys)).length ys.length) (V (D (max xs.length ys.length) (V xs + V ys))) (V ys))) xs (D_lt _ _) hx hLl (by omega)) (fun w hw => ⟨RdW.own (by repeat (first | apply Find.here | apply Find.there)) w hw, RdW.old hr1 w hw⟩) (by rfl) ?_)
      |(rw [hd, ord3_eq rfl])|refine Z01 ?_|refine Z02 ?_|refine Z03 ?_|refine Z04 ?_|refine Z05 ?_|refine Z06 ?_|refine Z07 ?_|refine Z08 ?_|refine Z09 ?_|refine Z10 ?_
      |refine Z11 ?_|refine Z12 ?_|refine Z13 ?_|refine Z14 ?_|refine Z17 ?_|refine Z18 ?_|refine Z19 ?_|refine Z20 ?_|refine Z21 ?_|refine Z36 ?_|refine Z49 ?_
      |refine Z50 ?_|refine Z51 ?_|refine Z52 ?_|refine Z53 ?_|refine Z54 ?_|refine Z58 ?_|refine Z59 ?_|refine Z68 ?_|refine Z69 ?_|refine Z72 ?_|refine Z73 ?_)
    refine Ze1 fun _ hw => post_of hw SubW.nil ⟨?_, rfl⟩
    rfl
  · rw [ord3_eq h, ord3_eq h.symm, show bwn (V xs) (V ys) = 0 from if_neg (by omega)]
    repeat (first
      
      |(refine st_callV (by rfl) (by rfl) (by rfl) (cmp_spec _ s1 (D (max (D (max xs.length ys.length) (V xs + V ys)).length ys.length) (sbn (max (D (max xs.length ys.length) (V xs + V ys)).length ys.length) (V (D (max xs.length ys.length) (V xs + V ys))) (V ys))) xs (D_lt _ _) hx hLl (by omega)) (fun w hw => ⟨RdW.own (by repeat (first | apply Find.here | apply Find.there)) w hw, RdW.old hr1 w hw⟩) (by rfl) ?_)
      |(rw [hd, ord3_eq rfl])|refine Z01 ?_|refine Z02 ?_|refine Z03 ?_|refine Z04 ?_|refine Z05 ?_|refine Z06 ?_|refine Z07 ?_|refine Z08 ?_|refine Z09 ?_|refine Z10 ?_
      |refine Z11 ?_|refine Z12 ?_|refine Z13 ?_|refine Z14 ?_|refine Z17 ?_|refine Z18 ?_|refine Z19 ?_|refine Z20 ?_|refine Z21 ?_|refine Z36 ?_|refine Z49 ?_
      |refine Z50 ?_|refine Z51 ?_|refine Z52 ?_|refine Z53 ?_|refine Z54 ?_|refine Z58 ?_|refine Z59 ?_|refine Z68 ?_|refine Z69 ?_|refine Z72 ?_|refine Z73 ?_)
    refine Ze1 fun _ hw => post_of hw SubW.nil ⟨?_, rfl⟩
    rfl
  · rw [ord3_lt h, ord3_gt h, show bwn (V xs) (V ys) = 0 from if_neg (by omega)]
    repeat (first
      
      |(refine st_callV (by rfl) (by rfl) (by rfl) (cmp_spec _ s1 (D (max (D (max xs.length ys.length) (V xs + V ys)).length ys.length) (sbn (max (D (max xs.length ys.length) (V xs + V ys)).length ys.length) (V (D (max xs.length ys.length) (V xs + V ys))) (V ys))) xs (D_lt _ _) hx hLl (by omega)) (fun w hw => ⟨RdW.own (by repeat (first | apply Find.here | apply Find.there)) w hw, RdW.old hr1 w hw⟩) (by rfl) ?_)
      |(rw [hd, ord3_eq rfl])|refine Z01 ?_|refine Z02 ?_|refine Z03 ?_|refine Z04 ?_|refine Z05 ?_|refine Z06 ?_|refine Z07 ?_|refine Z08 ?_|refine Z09 ?_|refine Z10 ?_
      |refine Z11 ?_|refine Z12 ?_|refine Z13 ?_|refine Z14 ?_|refine Z17 ?_|refine Z18 ?_|refine Z19 ?_|refine Z20 ?_|refine Z21 ?_|refine Z36 ?_|refine Z49 ?_
      |refine Z50 ?_|refine Z51 ?_|refine Z52 ?_|refine Z53 ?_|refine Z54 ?_|refine Z58 ?_|refine Z59 ?_|refine Z68 ?_|refine Z69 ?_|refine Z72 ?_|refine Z73 ?_)
    refine Ze1 fun _ hw => post_of hw SubW.nil ⟨?_, rfl⟩
    rfl
end Go.Proofs.Ytefhbmhanajfoaa.L
