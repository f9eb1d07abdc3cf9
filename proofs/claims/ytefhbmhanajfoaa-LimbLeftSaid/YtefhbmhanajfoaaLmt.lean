/- The walk of the law of what is left. Condition: as the statement says. -/
import Derived.Test.YtefhbmhanajfoaaAuto
import Derived.Test.YtefhbmhanajfoaaPerm
import Derived.Test.YtefhbmhanajfoaaMore
import Derived.Test.YtefhbmhanajfoaaProg
import Derived.Test.YtefhbmhanajfoaaNum
import Derived.Test.YtefhbmhanajfoaaLmb
import Derived.Test.YtefhbmhanajfoaaLmd
import Derived.Test.YtefhbmhanajfoaaLmo
import Derived.Test.YtefhbmhanajfoaaScope
import Derived.Test.YtefhbmhanajfoaaJoin
import Derived.Test.YtefhbmhanajfoaaLma
import Derived.Test.YtefhbmhanajfoaaLmz
import Derived.Test.YtefhbmhanajfoaaLmc
import Derived.Test.YtefhbmhanajfoaaLme
import Derived.Test.YtefhbmhanajfoaaLmf
import Derived.Test.YtefhbmhanajfoaaLmh
import Derived.Test.YtefhbmhanajfoaaLmj
import Derived.Test.YtefhbmhanajfoaaShaT
import Derived.Test.YtefhbmhanajfoaaLmp
import Derived.Test.YtefhbmhanajfoaaLmq
import Derived.Test.YtefhbmhanajfoaaLms
namespace Go.Proofs.Ytefhbmhanajfoaa.L
open Go Go.Proofs
set_option maxRecDepth 100000
attribute [local irreducible] Code.wp wpList Af bodyPost L.Go
open Num
attribute [local simp] D_len octs_len

set_option maxHeartbeats 4000000 in
theorem lawLeft3_spec (s1 : Value) (xs : List Nat) (hx : Lt 18446744073709551616 xs) (x63 : xs.length < 9223372036854775808) (s2 : Value) (ms : List Nat) (hm : Lt 18446744073709551616 ms) (m63 : ms.length < 9223372036854775808) (s3 : Value) (ks : List Nat) (hk : Lt 18446744073709551616 ks) (k63 : ks.length < 9223372036854775808) :
    Spec Try.prog 16 [s1, s2, s3] (fun w => Rd w s1 (xs.map (N .u64)) ∧ Rd w s2 (ms.map (N .u64)) ∧ Rd w s3 (ks.map (N .u64))) [] (IsV (.bool true)) := by
  refine mk_spec Try.func16 rfl rfl rfl fun w hr => ?_
  have hr1 := RdC.mk0 hr.1
  have hr2 := RdC.mk0 hr.2.1
  have hr3 := RdC.mk0 hr.2.2
  by_cases h1 : 10 < xs.length
  · repeat (first
      |(refine st_callV (by rfl) (by rfl) (by rfl) awake3_spec (fun _ _ => trivial) (by rfl) ?_)
      |(refine st_cmp (r := true) (by rfl) (by rfl) (cmpN_t (by first | (simp only [cmpP]; done) | (simp only [cmpP]; omega))) (by rfl) ?_)
      |(refine st_cmp (r := false) (by rfl) (by rfl) (cmpN_f (by first | (simp only [cmpQ]; done) | (simp only [cmpQ]; omega))) (by rfl) ?_)|refine Z01 ?_|refine Z02 ?_
      |refine Z03 ?_|refine Z04 ?_|refine Z05 ?_|refine Z06 ?_|refine Z07 ?_|refine Z08 ?_|refine Z09 ?_|refine Z10 ?_|refine Z11 ?_|refine Z12 ?_|refine Z13 ?_
      |refine Z14 ?_|refine Z17 ?_|refine Z18 ?_|refine Z19 ?_|refine Z20 ?_|refine Z21 ?_|refine Z49 ?_|refine Z50 ?_|refine Z51 ?_|refine Z52 ?_|refine Z53 ?_
      |refine Z58 ?_|refine Z59 ?_|refine Z84 fun _ => ?_|refine Z85 fun _ => ?_)
    refine Ze1 fun _ hw => post_of hw SubW.nil ⟨?_, rfl⟩
    rfl
  by_cases h2 : 10 < ms.length
  · repeat (first
      |(refine st_callV (by rfl) (by rfl) (by rfl) awake3_spec (fun _ _ => trivial) (by rfl) ?_)
      |(refine st_cmp (r := true) (by rfl) (by rfl) (cmpN_t (by first | (simp only [cmpP]; done) | (simp only [cmpP]; omega))) (by rfl) ?_)
      |(refine st_cmp (r := false) (by rfl) (by rfl) (cmpN_f (by first | (simp only [cmpQ]; done) | (simp only [cmpQ]; omega))) (by rfl) ?_)|refine Z01 ?_|refine Z02 ?_
      |refine Z03 ?_|refine Z04 ?_|refine Z05 ?_|refine Z06 ?_|refine Z07 ?_|refine Z08 ?_|refine Z09 ?_|refine Z10 ?_|refine Z11 ?_|refine Z12 ?_|refine Z13 ?_
      |refine Z14 ?_|refine Z17 ?_|refine Z18 ?_|refine Z19 ?_|refine Z20 ?_|refine Z21 ?_|refine Z49 ?_|refine Z50 ?_|refine Z51 ?_|refine Z52 ?_|refine Z53 ?_
      |refine Z58 ?_|refine Z59 ?_|refine Z84 fun _ => ?_|refine Z85 fun _ => ?_)
    refine Ze1 fun _ hw => post_of hw SubW.nil ⟨?_, rfl⟩
    rfl
  by_cases h3 : 10 < ks.length
  · repeat (first
      |(refine st_callV (by rfl) (by rfl) (by rfl) awake3_spec (fun _ _ => trivial) (by rfl) ?_)
      |(refine st_cmp (r := true) (by rfl) (by rfl) (cmpN_t (by first | (simp only [cmpP]; done) | (simp only [cmpP]; omega))) (by rfl) ?_)
      |(refine st_cmp (r := false) (by rfl) (by rfl) (cmpN_f (by first | (simp only [cmpQ]; done) | (simp only [cmpQ]; omega))) (by rfl) ?_)|refine Z01 ?_|refine Z02 ?_
      |refine Z03 ?_|refine Z04 ?_|refine Z05 ?_|refine Z06 ?_|refine Z07 ?_|refine Z08 ?_|refine Z09 ?_|refine Z10 ?_|refine Z11 ?_|refine Z12 ?_|refine Z13 ?_
      |refine Z14 ?_|refine Z17 ?_|refine Z18 ?_|refine Z19 ?_|refine Z20 ?_|refine Z21 ?_|refine Z49 ?_|refine Z50 ?_|refine Z51 ?_|refine Z52 ?_|refine Z53 ?_
      |refine Z58 ?_|refine Z59 ?_|refine Z84 fun _ => ?_|refine Z85 fun _ => ?_)
    refine Ze1 fun _ hw => post_of hw SubW.nil ⟨?_, rfl⟩
    rfl
  rcases Nat.eq_zero_or_pos (V ms) with hM | hM
  · repeat (first
      |(refine st_callV (by rfl) (by rfl) (by rfl) awake3_spec (fun _ _ => trivial) (by rfl) ?_)
      |(refine st_cmp (r := true) (by rfl) (by rfl) (cmpN_t (by first | (simp only [cmpP]; done) | (simp only [cmpP]; omega))) (by rfl) ?_)
      |(refine st_cmp (r := false) (by rfl) (by rfl) (cmpN_f (by first | (simp only [cmpQ]; done) | (simp only [cmpQ]; omega))) (by rfl) ?_)|refine Z01 ?_|refine Z02 ?_
      |refine Z03 ?_|refine Z04 ?_|refine Z05 ?_|refine Z06 ?_|refine Z07 ?_|refine Z08 ?_|refine Z09 ?_|refine Z10 ?_|refine Z11 ?_|refine Z12 ?_|refine Z13 ?_
      |refine Z14 ?_|refine Z17 ?_|refine Z18 ?_|refine Z19 ?_|refine Z20 ?_|refine Z21 ?_|refine Z49 ?_|refine Z50 ?_|refine Z51 ?_|refine Z52 ?_|refine Z53 ?_
      |refine Z58 ?_|refine Z59 ?_|refine Z84 fun _ => ?_|refine Z85 fun _ => ?_)
    repeat (first
      
      |((refine st_call (by rfl) (by rfl) (by rfl) (mod_spec s1 s2 xs ms hx hm (by omega) (by omega)) .nil (fun w hw => ⟨RdW.old hr1 w hw, RdW.old hr2 w hw⟩) (by rfl) ?_; rintro _ _ (⟨_, rfl, rfl⟩ | ⟨hz0, _⟩); case inr => exact absurd hM (Nat.ne_of_gt hz0)))
      |((refine st_callV (by rfl) (by rfl) (by rfl) (cmp_spec s2 (.slice none 0 0) ms [] hm (Lt.nil _) (by omega) (by decide)) (fun w hw => ⟨RdW.old hr2 w hw, Rd.nil w⟩) (by rfl) ?_; rw [ord3_eq (hM.trans V_nil.symm)]))
      |((refine st_own_nil 49 ?_; refine st_lenN (xs := []) (by rfl) (by rfl) (RdW.own Find.here) (by rfl) ?_))|refine Z01 ?_|refine Z02 ?_|refine Z03 ?_
      |refine Z04 ?_|refine Z05 ?_|refine Z06 ?_|refine Z07 ?_|refine Z08 ?_|refine Z09 ?_|refine Z10 ?_|refine Z11 ?_|refine Z12 ?_|refine Z13 ?_|refine Z14 ?_
      |refine Z17 ?_|refine Z18 ?_|refine Z19 ?_|refine Z20 ?_|refine Z21 ?_|refine Z49 ?_|refine Z50 ?_|refine Z51 ?_|refine Z52 ?_|refine Z53 ?_|refine Z58 ?_
      |refine Z59 ?_|refine Z84 fun _ => ?_|refine Z85 fun _ => ?_)
    refine Ze1 fun _ hw => post_of hw SubW.nil ⟨?_, rfl⟩
    rfl
  have hvk := V_lt hk
  have hvm := V_lt hm
  have f1 := V_D' (mul_fit hvm hvk)
  have hl1 : (D (ms.length + ks.length) (V ms * V ks)).length < 16777216 := by rw [D_len]; omega
  obtain ⟨n, hn⟩ : ∃ n, n = max (D (ms.length + ks.length) (V ms * V ks)).length xs.length := ⟨_, rfl⟩
  have hn' : n < 1000 := by rw [hn, D_len]; omega
  have ho := sum_top (V_lt_le (D_lt (ms.length + ks.length) (V ms * V ks)) (n := n) (by omega)) (V_lt_le hx (n := n) (by omega))
  have hlt := app_lt ho
  have hl2 : (D n (V (D (ms.length + ks.length) (V ms * V ks)) + V xs) ++ [(V (D (ms.length + ks.length) (V ms * V ks)) + V xs) / W ^ n]).length < 1000000 := by simp; omega
  have hl3 : (D ms.length (V xs % V ms)).length < 1000000 := by rw [D_len]; omega
  have hxm : V (D ms.length (V xs % V ms)) = V xs % V ms := V_D' (Nat.lt_trans (Nat.mod_lt _ hM) hvm)
  have hy : V (D n (V (D (ms.length + ks.length) (V ms * V ks)) + V xs) ++ [(V (D (ms.length + ks.length) (V ms * V ks)) + V xs) / W ^ n]) % V ms = V xs % V ms := by rw [app_V, f1, Nat.mul_add_mod]
  have hz : V (D ms.length (V xs % V ms)) % V ms = V xs % V ms := by rw [hxm, Nat.mod_mod]
  have hc : ord3 (V (D ms.length (V xs % V ms))) (V ms) = -1 := ord3_lt (by rw [hxm]; exact Nat.mod_lt _ hM)
  have hg : ord3 (V ms) (V []) = 1 := ord3_gt (by rw [V_nil]; exact hM)
  repeat (first
    |(refine st_callV (by rfl) (by rfl) (by rfl) awake3_spec (fun _ _ => trivial) (by rfl) ?_)
    |(refine st_cmp (r := true) (by rfl) (by rfl) (cmpN_t (by first | (simp only [cmpP]; done) | (simp only [cmpP]; omega))) (by rfl) ?_)
    |(refine st_cmp (r := false) (by rfl) (by rfl) (cmpN_f (by first | (simp only [cmpQ]; done) | (simp only [cmpQ]; omega))) (by rfl) ?_)|refine Z01 ?_|refine Z02 ?_
    |refine Z03 ?_|refine Z04 ?_|refine Z05 ?_|refine Z06 ?_|refine Z07 ?_|refine Z08 ?_|refine Z09 ?_|refine Z10 ?_|refine Z11 ?_|refine Z12 ?_|refine Z13 ?_
    |refine Z14 ?_|refine Z17 ?_|refine Z18 ?_|refine Z19 ?_|refine Z20 ?_|refine Z21 ?_|refine Z49 ?_|refine Z50 ?_|refine Z51 ?_|refine Z52 ?_|refine Z53 ?_
    |refine Z58 ?_|refine Z59 ?_|refine Z84 fun _ => ?_|refine Z85 fun _ => ?_)
  repeat (first
    
    |((refine st_call (by rfl) (by rfl) (by rfl) (mod_spec s1 s2 xs ms hx hm (by omega) (by omega)) .nil (fun w hw => ⟨RdW.old hr1 w hw, RdW.old hr2 w hw⟩) (by rfl) ?_; rintro _ _ (⟨hz0, _, _⟩ | ⟨_, a1, rfl, rfl⟩); exact absurd hz0 (Nat.ne_of_gt hM)))
    |((refine st_callV (by rfl) (by rfl) (by rfl) (cmp_spec s2 (.slice none 0 0) ms [] hm (Lt.nil _) (by omega) (by decide)) (fun w hw => ⟨RdW.old hr2 w hw, Rd.nil w⟩) (by rfl) ?_; rw [hg]))
    |((refine st_call (by rfl) (by rfl) (by rfl) (lmul_spec s2 s3 ms ks hm hk (by omega) (by omega)) .nil (fun w hw => ⟨RdW.old hr2 w hw, RdW.old hr3 w hw⟩) (by rfl) ?_; rintro a2 _ rfl))
    |((refine st_call (by rfl) (by rfl) (by rfl) (add_spec _ s1 (D (ms.length + ks.length) (V ms * V ks)) xs (D_lt _ _) hx hl1 (by omega)) .nil (fun w hw => ⟨RdW.own (by repeat (first | apply Find.here | apply Find.there)) w hw, RdW.old hr1 w hw⟩) (by rfl) ?_; rintro _ _ ⟨a3, rfl, rfl⟩; rw [← hn]))
    |((refine st_buildSliceN (vs := []) (kk := .u64) (by rfl) (by rfl) (by rfl) (by rfl) (by rfl) (by rfl) (by rfl) (by rfl) fun _ => ?_))
    |((refine st_buildSliceN (vs := [(V (D (ms.length + ks.length) (V ms * V ks)) + V xs) / W ^ n]) (kk := .u64) (by rfl) (by rfl) (by rfl) (by rfl) (by rfl) (by rfl) (by rfl) (by rfl) fun _ => ?_))
    |(rw [List.nil_append])
    |((refine st_call (by rfl) (by rfl) (by rfl) (mod_spec _ s2 (D n (V (D (ms.length + ks.length) (V ms * V ks)) + V xs) ++ [(V (D (ms.length + ks.length) (V ms * V ks)) + V xs) / W ^ n]) ms hlt hm hl2 (by omega)) .nil (fun w hw => ⟨RdW.own (by repeat (first | apply Find.here | apply Find.there)) w hw, RdW.old hr2 w hw⟩) (by rfl) ?_; rintro _ _ (⟨hz0, _, _⟩ | ⟨_, a4, rfl, rfl⟩); exact absurd hz0 (Nat.ne_of_gt hM); rw [hy]))
    |((refine st_call (by rfl) (by rfl) (by rfl) (mod_spec _ s2 (D ms.length (V xs % V ms)) ms (D_lt _ _) hm hl3 (by omega)) .nil (fun w hw => ⟨RdW.own (by repeat (first | apply Find.here | apply Find.there)) w hw, RdW.old hr2 w hw⟩) (by rfl) ?_; rintro _ _ (⟨hz0, _, _⟩ | ⟨_, a5, rfl, rfl⟩); exact absurd hz0 (Nat.ne_of_gt hM); rw [hz]))
    |(refine st_callV (by rfl) (by rfl) (by rfl) (same3_spec _ _ (D ms.length (V xs % V ms)) (D ms.length (V xs % V ms)) (by omega)) (fun w hw => ⟨RdW.own (by repeat (first | apply Find.here | apply Find.there)) w hw, RdW.own (by repeat (first | apply Find.here | apply Find.there)) w hw⟩) (by rfl) ?_)
    |(rw [decide_eq_true (p := D ms.length (V xs % V ms) = D ms.length (V xs % V ms)) rfl])
    |(rw [decide_eq_true (p := (D ms.length (V xs % V ms)).length = ms.length) (D_len _ _)])
    |((refine st_callV (by rfl) (by rfl) (by rfl) (cmp_spec _ s2 (D ms.length (V xs % V ms)) ms (D_lt _ _) hm (by omega) (by omega)) (fun w hw => ⟨RdW.own (by repeat (first | apply Find.here | apply Find.there)) w hw, RdW.old hr2 w hw⟩) (by rfl) ?_; rw [hc]))
    |refine Z01 ?_|refine Z02 ?_|refine Z03 ?_|refine Z04 ?_|refine Z05 ?_|refine Z06 ?_|refine Z07 ?_|refine Z08 ?_|refine Z09 ?_|refine Z10 ?_|refine Z11 ?_
    |refine Z12 ?_|refine Z13 ?_|refine Z14 ?_|refine Z17 ?_|refine Z18 ?_|refine Z19 ?_|refine Z20 ?_|refine Z21 ?_|refine Z49 ?_|refine Z50 ?_|refine Z51 ?_
    |refine Z52 ?_|refine Z53 ?_|refine Z58 ?_|refine Z59 ?_|refine Z84 fun _ => ?_|refine Z85 fun _ => ?_)
  refine Ze1 fun _ hw => post_of hw SubW.nil ⟨?_, rfl⟩
  rfl
end Go.Proofs.Ytefhbmhanajfoaa.L
