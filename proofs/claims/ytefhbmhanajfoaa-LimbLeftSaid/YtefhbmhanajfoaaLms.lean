/- The walk of the law of products. Condition: as the statement says. -/
import Derived.Test.YtefhbmhanajfoaaAuto
import Derived.Test.YtefhbmhanajfoaaPerm
import Derived.Test.YtefhbmhanajfoaaMore
import Derived.Test.YtefhbmhanajfoaaProg
import Derived.Test.YtefhbmhanajfoaaNum
import Derived.Test.YtefhbmhanajfoaaLmb
import Derived.Test.YtefhbmhanajfoaaLmd
import Derived.Test.YtefhbmhanajfoaaLmo
import Derived.Test.YtefhbmhanajfoaaScope
import Derived.Test.YtefhbmhanajfoaaJoin
import Derived.Test.YtefhbmhanajfoaaLma
import Derived.Test.YtefhbmhanajfoaaLmz
import Derived.Test.YtefhbmhanajfoaaLmc
import Derived.Test.YtefhbmhanajfoaaLme
import Derived.Test.YtefhbmhanajfoaaLmf
import Derived.Test.YtefhbmhanajfoaaLmh
import Derived.Test.YtefhbmhanajfoaaLmj
import Derived.Test.YtefhbmhanajfoaaShaT
import Derived.Test.YtefhbmhanajfoaaLmp
import Derived.Test.YtefhbmhanajfoaaLmq
namespace Go.Proofs.Ytefhbmhanajfoaa.L
open Go Go.Proofs
set_option maxRecDepth 100000
attribute [local irreducible] Code.wp wpList Af bodyPost L.Go
open Num
attribute [local simp] D_len octs_len

theorem app_V (n X : Nat) : V (D n X ++ [X / W ^ n]) = X := by
  rw [V_append, V_D, D_len, V_one]
  exact Nat.mod_add_div X (W ^ n)
theorem app_lt {n X : Nat} (h : X / W ^ n < 18446744073709551616) : Lt 18446744073709551616 (D n X ++ [X / W ^ n]) := Lt.append (D_lt _ _) (Lt.cons h (Lt.nil _))
theorem sum_top {A B n : Nat} (hA : A < W ^ n) (hB : B < W ^ n) : (A + B) / W ^ n < 18446744073709551616 := by
  have : (A + B) / W ^ n < 2 := by rw [Nat.div_lt_iff_lt_mul (W_pow_pos n)]; omega
  omega
theorem mul_fit {A B a b : Nat} (hA : A < W ^ a) (hB : B < W ^ b) : A * B < W ^ (a + b) := by
  rw [Nat.pow_add]
  exact Nat.mul_lt_mul'' hA hB

set_option maxHeartbeats 4000000 in
theorem lawProducts3_spec (s1 : Value) (xs : List Nat) (hx : Lt 18446744073709551616 xs) (x63 : xs.length < 9223372036854775808) (s2 : Value) (ys : List Nat) (hy : Lt 18446744073709551616 ys) (y63 : ys.length < 9223372036854775808) (s3 : Value) (zs : List Nat) (hz : Lt 18446744073709551616 zs) (z63 : zs.length < 9223372036854775808) :
    Spec Try.prog 15 [s1, s2, s3] (fun w => Rd w s1 (xs.map (N .u64)) ∧ Rd w s2 (ys.map (N .u64)) ∧ Rd w s3 (zs.map (N .u64))) [] (IsV (.bool true)) := by
  refine mk_spec Try.func15 rfl rfl rfl fun w hr => ?_
  have hr1 := RdC.mk0 hr.1
  have hr2 := RdC.mk0 hr.2.1
  have hr3 := RdC.mk0 hr.2.2
  by_cases h1 : 10 < xs.length
  · repeat (first
      |(refine st_callV (by rfl) (by rfl) (by rfl) awake3_spec (fun _ _ => trivial) (by rfl) ?_)
      |(refine st_cmp (r := true) (by rfl) (by rfl) (cmpN_t (by first | (simp only [cmpP]; done) | (simp only [cmpP]; omega))) (by rfl) ?_)
      |(refine st_cmp (r := false) (by rfl) (by rfl) (cmpN_f (by first | (simp only [cmpQ]; done) | (simp only [cmpQ]; omega))) (by rfl) ?_)|refine Z01 ?_|refine Z02 ?_
      |refine Z03 ?_|refine Z04 ?_|refine Z05 ?_|refine Z06 ?_|refine Z07 ?_|refine Z08 ?_|refine Z09 ?_|refine Z10 ?_|refine Z11 ?_|refine Z12 ?_|refine Z13 ?_
      |refine Z14 ?_|refine Z15 ?_|refine Z17 ?_|refine Z18 ?_|refine Z19 ?_|refine Z20 ?_|refine Z21 ?_|refine Z49 ?_|refine Z50 ?_|refine Z51 ?_|refine Z52 ?_
      |refine Z53 ?_|refine Z58 ?_|refine Z59 ?_|refine Z70 ?_|refine Z84 fun _ => ?_|refine Z85 fun _ => ?_)
    refine Ze1 fun _ hw => post_of hw SubW.nil ⟨?_, rfl⟩
    rfl
  by_cases h2 : 10 < ys.length
  · repeat (first
      |(refine st_callV (by rfl) (by rfl) (by rfl) awake3_spec (fun _ _ => trivial) (by rfl) ?_)
      |(refine st_cmp (r := true) (by rfl) (by rfl) (cmpN_t (by first | (simp only [cmpP]; done) | (simp only [cmpP]; omega))) (by rfl) ?_)
      |(refine st_cmp (r := false) (by rfl) (by rfl) (cmpN_f (by first | (simp only [cmpQ]; done) | (simp only [cmpQ]; omega))) (by rfl) ?_)|refine Z01 ?_|refine Z02 ?_
      |refine Z03 ?_|refine Z04 ?_|refine Z05 ?_|refine Z06 ?_|refine Z07 ?_|refine Z08 ?_|refine Z09 ?_|refine Z10 ?_|refine Z11 ?_|refine Z12 ?_|refine Z13 ?_
      |refine Z14 ?_|refine Z15 ?_|refine Z17 ?_|refine Z18 ?_|refine Z19 ?_|refine Z20 ?_|refine Z21 ?_|refine Z49 ?_|refine Z50 ?_|refine Z51 ?_|refine Z52 ?_
      |refine Z53 ?_|refine Z58 ?_|refine Z59 ?_|refine Z70 ?_|refine Z84 fun _ => ?_|refine Z85 fun _ => ?_)
    refine Ze1 fun _ hw => post_of hw SubW.nil ⟨?_, rfl⟩
    rfl
  by_cases h3 : 10 < zs.length
  · repeat (first
      |(refine st_callV (by rfl) (by rfl) (by rfl) awake3_spec (fun _ _ => trivial) (by rfl) ?_)
      |(refine st_cmp (r := true) (by rfl) (by rfl) (cmpN_t (by first | (simp only [cmpP]; done) | (simp only [cmpP]; omega))) (by rfl) ?_)
      |(refine st_cmp (r := false) (by rfl) (by rfl) (cmpN_f (by first | (simp only [cmpQ]; done) | (simp only [cmpQ]; omega))) (by rfl) ?_)|refine Z01 ?_|refine Z02 ?_
      |refine Z03 ?_|refine Z04 ?_|refine Z05 ?_|refine Z06 ?_|refine Z07 ?_|refine Z08 ?_|refine Z09 ?_|refine Z10 ?_|refine Z11 ?_|refine Z12 ?_|refine Z13 ?_
      |refine Z14 ?_|refine Z15 ?_|refine Z17 ?_|refine Z18 ?_|refine Z19 ?_|refine Z20 ?_|refine Z21 ?_|refine Z49 ?_|refine Z50 ?_|refine Z51 ?_|refine Z52 ?_
      |refine Z53 ?_|refine Z58 ?_|refine Z59 ?_|refine Z70 ?_|refine Z84 fun _ => ?_|refine Z85 fun _ => ?_)
    refine Ze1 fun _ hw => post_of hw SubW.nil ⟨?_, rfl⟩
    rfl
  obtain ⟨n, hn⟩ : ∃ n, n = max ys.length zs.length := ⟨_, rfl⟩
  have hvx := V_lt hx
  have hvy := V_lt hy
  have hvz := V_lt hz
  have hvy' := V_lt_le hy (n := n) (by omega)
  have hvz' := V_lt_le hz (n := n) (by omega)
  have hq : D (ys.length + xs.length) (V ys * V xs) = D (xs.length + ys.length) (V xs * V ys) := by rw [Nat.add_comm, Nat.mul_comm]
  have ho := sum_top hvy' hvz'
  have hlt := app_lt ho
  have hlen : (D n (V ys + V zs) ++ [(V ys + V zs) / W ^ n]).length = n + 1 := by simp
  have hleft : V (D (xs.length + (D n (V ys + V zs) ++ [(V ys + V zs) / W ^ n]).length) (V xs * V (D n (V ys + V zs) ++ [(V ys + V zs) / W ^ n]))) = V xs * (V ys + V zs) := by
    have e : V (D n (V ys + V zs) ++ [(V ys + V zs) / W ^ n]) < W ^ (n + 1) := by have := V_lt hlt; rwa [hlen] at this
    rw [V_D' (by rw [hlen]; exact mul_fit hvx e), app_V]
  have f1 := V_D' (mul_fit hvx hvy)
  have f2 := V_D' (mul_fit hvx hvz)
  obtain ⟨m, hm⟩ : ∃ m, m = max (D (xs.length + ys.length) (V xs * V ys)).length (D (xs.length + zs.length) (V xs * V zs)).length := ⟨_, rfl⟩
  have hm' : m < 1000 := by rw [hm, D_len, D_len]; omega
  have hvp := V_lt_le (D_lt (xs.length + ys.length) (V xs * V ys)) (n := m) (by omega)
  have hvr := V_lt_le (D_lt (xs.length + zs.length) (V xs * V zs)) (n := m) (by omega)
  have ho2 := sum_top hvp hvr
  have hlt2 := app_lt ho2
  have hright := app_V m (V (D (xs.length + ys.length) (V xs * V ys)) + V (D (xs.length + zs.length) (V xs * V zs)))
  have hE : V xs * (V ys + V zs) = V (D (xs.length + ys.length) (V xs * V ys)) + V (D (xs.length + zs.length) (V xs * V zs)) := by rw [f1, f2, Nat.mul_add (V xs)]
  have hl1 : (D (xs.length + ys.length) (V xs * V ys)).length < 16777216 := by rw [D_len]; omega
  have hl2 : (D (xs.length + zs.length) (V xs * V zs)).length < 16777216 := by rw [D_len]; omega
  have hl3 : (D n (V ys + V zs) ++ [(V ys + V zs) / W ^ n]).length < 16777216 := by omega
  repeat (first
    |(refine st_callV (by rfl) (by rfl) (by rfl) awake3_spec (fun _ _ => trivial) (by rfl) ?_)
    |(refine st_cmp (r := true) (by rfl) (by rfl) (cmpN_t (by first | (simp only [cmpP]; done) | (simp only [cmpP]; omega))) (by rfl) ?_)
    |(refine st_cmp (r := false) (by rfl) (by rfl) (cmpN_f (by first | (simp only [cmpQ]; done) | (simp only [cmpQ]; omega))) (by rfl) ?_)|refine Z01 ?_|refine Z02 ?_
    |refine Z03 ?_|refine Z04 ?_|refine Z05 ?_|refine Z06 ?_|refine Z07 ?_|refine Z08 ?_|refine Z09 ?_|refine Z10 ?_|refine Z11 ?_|refine Z12 ?_|refine Z13 ?_
    |refine Z14 ?_|refine Z15 ?_|refine Z17 ?_|refine Z18 ?_|refine Z19 ?_|refine Z20 ?_|refine Z21 ?_|refine Z49 ?_|refine Z50 ?_|refine Z51 ?_|refine Z52 ?_
    |refine Z53 ?_|refine Z58 ?_|refine Z59 ?_|refine Z70 ?_|refine Z84 fun _ => ?_|refine Z85 fun _ => ?_)
  have hl4 : (D (xs.length + (D n (V ys + V zs) ++ [(V ys + V zs) / W ^ n]).length) (V xs * V (D n (V ys + V zs) ++ [(V ys + V zs) / W ^ n]))).length < 16777216 := by rw [D_len]; omega
  have hl5 : (D m (V (D (xs.length + ys.length) (V xs * V ys)) + V (D (xs.length + zs.length) (V xs * V zs))) ++ [(V (D (xs.length + ys.length) (V xs * V ys)) + V (D (xs.length + zs.length) (V xs * V zs))) / W ^ m]).length < 16777216 := by simp; omega
  repeat (first
    
    |((refine st_call (by rfl) (by rfl) (by rfl) (lmul_spec s1 s2 xs ys hx hy (by omega) (by omega)) .nil (fun w hw => ⟨RdW.old hr1 w hw, RdW.old hr2 w hw⟩) (by rfl) ?_; rintro a1 _ rfl))
    |((refine st_call (by rfl) (by rfl) (by rfl) (lmul_spec s2 s1 ys xs hy hx (by omega) (by omega)) .nil (fun w hw => ⟨RdW.old hr2 w hw, RdW.old hr1 w hw⟩) (by rfl) ?_; rintro a2 _ rfl; rw [hq]))
    |((refine st_call (by rfl) (by rfl) (by rfl) (add_spec s2 s3 ys zs hy hz (by omega) (by omega)) .nil (fun w hw => ⟨RdW.old hr2 w hw, RdW.old hr3 w hw⟩) (by rfl) ?_; rintro _ _ ⟨a3, rfl, rfl⟩; rw [← hn]))
    |((refine st_buildSliceN (vs := []) (kk := .u64) (by rfl) (by rfl) (by rfl) (by rfl) (by rfl) (by rfl) (by rfl) (by rfl) fun _ => ?_))
    |((refine st_buildSliceN (vs := [(V ys + V zs) / W ^ n]) (kk := .u64) (by rfl) (by rfl) (by rfl) (by rfl) (by rfl) (by rfl) (by rfl) (by rfl) fun _ => ?_))
    |(rw [List.nil_append])
    |((refine st_call (by rfl) (by rfl) (by rfl) (lmul_spec s1 _ xs (D n (V ys + V zs) ++ [(V ys + V zs) / W ^ n]) hx hlt (by omega) hl3) .nil (fun w hw => ⟨RdW.old hr1 w hw, RdW.own (by repeat (first | apply Find.here | apply Find.there)) w hw⟩) (by rfl) ?_; rintro a4 _ rfl))
    |((refine st_call (by rfl) (by rfl) (by rfl) (lmul_spec s1 s3 xs zs hx hz (by omega) (by omega)) .nil (fun w hw => ⟨RdW.old hr1 w hw, RdW.old hr3 w hw⟩) (by rfl) ?_; rintro a5 _ rfl))
    |((refine st_call (by rfl) (by rfl) (by rfl) (add_spec _ _ (D (xs.length + ys.length) (V xs * V ys)) (D (xs.length + zs.length) (V xs * V zs)) (D_lt _ _) (D_lt _ _) hl1 hl2) .nil (fun w hw => ⟨RdW.own (by repeat (first | apply Find.here | apply Find.there)) w hw, RdW.own (by repeat (first | apply Find.here | apply Find.there)) w hw⟩) (by rfl) ?_; rintro _ _ ⟨a6, rfl, rfl⟩; rw [← hm]))
    |((refine st_buildSliceN (vs := [(V (D (xs.length + ys.length) (V xs * V ys)) + V (D (xs.length + zs.length) (V xs * V zs))) / W ^ m]) (kk := .u64) (by rfl) (by rfl) (by rfl) (by rfl) (by rfl) (by rfl) (by rfl) (by rfl) fun _ => ?_))
    |(refine st_callV (by rfl) (by rfl) (by rfl) (same3_spec _ _ (D (xs.length + ys.length) (V xs * V ys)) (D (xs.length + ys.length) (V xs * V ys)) (by omega)) (fun w hw => ⟨RdW.own (by repeat (first | apply Find.here | apply Find.there)) w hw, RdW.own (by repeat (first | apply Find.here | apply Find.there)) w hw⟩) (by rfl) ?_)
    |(rw [decide_eq_true (p := D (xs.length + ys.length) (V xs * V ys) = D (xs.length + ys.length) (V xs * V ys)) rfl])
    |((refine st_callV (by rfl) (by rfl) (by rfl) (cmp_spec _ _ (D (xs.length + (D n (V ys + V zs) ++ [(V ys + V zs) / W ^ n]).length) (V xs * V (D n (V ys + V zs) ++ [(V ys + V zs) / W ^ n]))) (D m (V (D (xs.length + ys.length) (V xs * V ys)) + V (D (xs.length + zs.length) (V xs * V zs))) ++ [(V (D (xs.length + ys.length) (V xs * V ys)) + V (D (xs.length + zs.length) (V xs * V zs))) / W ^ m]) (D_lt _ _) hlt2 hl4 hl5) (fun w hw => ⟨RdW.own (by repeat (first | apply Find.here | apply Find.there)) w hw, RdW.own (by repeat (first | apply Find.here | apply Find.there)) w hw⟩) (by rfl) ?_; rw [hleft, hright, ord3_eq hE]))
    |(rw [decide_eq_true (p := (D (xs.length + ys.length) (V xs * V ys)).length = xs.length + ys.length) (D_len _ _)])
    |(refine st_cmp (r := true) (by rfl) (by rfl) (cmpN_t (by first | (simp only [cmpP]; done) | (simp only [cmpP]; omega))) (by rfl) ?_)|refine Z01 ?_|refine Z02 ?_
    |refine Z03 ?_|refine Z04 ?_|refine Z05 ?_|refine Z06 ?_|refine Z07 ?_|refine Z08 ?_|refine Z09 ?_|refine Z10 ?_|refine Z11 ?_|refine Z12 ?_|refine Z13 ?_
    |refine Z14 ?_|refine Z15 ?_|refine Z17 ?_|refine Z18 ?_|refine Z19 ?_|refine Z20 ?_|refine Z21 ?_|refine Z49 ?_|refine Z50 ?_|refine Z51 ?_|refine Z52 ?_
    |refine Z53 ?_|refine Z58 ?_|refine Z59 ?_|refine Z70 ?_|refine Z84 fun _ => ?_|refine Z85 fun _ => ?_)
  refine Ze1 fun _ hw => post_of hw SubW.nil ⟨?_, rfl⟩
  rfl
end Go.Proofs.Ytefhbmhanajfoaa.L
