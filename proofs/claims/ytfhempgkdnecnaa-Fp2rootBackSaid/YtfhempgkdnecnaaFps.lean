/- The statements about roots of numbers with u: their head's walk. Conditions: as each statement says. -/
import Derived.Test.YtfhempgkdnecnaaAuto
import Derived.Test.YtfhempgkdnecnaaPerm
import Derived.Test.YtfhempgkdnecnaaMore
import Derived.Test.YtfhempgkdnecnaaProg
import Derived.Test.YtfhempgkdnecnaaNum
import Derived.Test.YtfhempgkdnecnaaLmb
import Derived.Test.YtfhempgkdnecnaaLmd
import Derived.Test.YtfhempgkdnecnaaLmk
import Derived.Test.YtfhempgkdnecnaaScope
import Derived.Test.YtfhempgkdnecnaaJoin
import Derived.Test.YtfhempgkdnecnaaLma
import Derived.Test.YtfhempgkdnecnaaLmf
import Derived.Test.YtfhempgkdnecnaaWin
import Derived.Test.YtfhempgkdnecnaaGho
import Derived.Test.YtfhempgkdnecnaaOrd
import Derived.Test.YtfhempgkdnecnaaBld
import Derived.Test.YtfhempgkdnecnaaFld
import Derived.Test.YtfhempgkdnecnaaOld
import Derived.Test.YtfhempgkdnecnaaArr
import Derived.Test.YtfhempgkdnecnaaClr
import Derived.Test.YtfhempgkdnecnaaPq
import Derived.Test.YtfhempgkdnecnaaKf
import Derived.Test.YtfhempgkdnecnaaKs
import Derived.Test.YtfhempgkdnecnaaKt
import Derived.Test.YtfhempgkdnecnaaKu
import Derived.Test.YtfhempgkdnecnaaFpa
import Derived.Test.YtfhempgkdnecnaaFpb
import Derived.Test.YtfhempgkdnecnaaFpc
import Derived.Test.YtfhempgkdnecnaaFpd
import Derived.Test.YtfhempgkdnecnaaFpe
import Derived.Test.YtfhempgkdnecnaaFpi
import Derived.Test.YtfhempgkdnecnaaFpj
import Derived.Test.YtfhempgkdnecnaaFpk
import Derived.Test.YtfhempgkdnecnaaFpl
import Derived.Test.YtfhempgkdnecnaaFpm
import Derived.Test.YtfhempgkdnecnaaFpq
namespace Go.Proofs.Ytfhempgkdnecnaa.L
open Go Go.Proofs
set_option maxRecDepth 100000
attribute [local irreducible] Code.wp wpList Af bodyPost L.Go
open Num
attribute [local simp] D_len

theorem arr12 {y : List Nat} (n : y.length = 12) (h : Lt 18446744073709551616 y) : ∃ a b, a < W ^ 6 ∧ b < W ^ 6 ∧ y = D 6 a ++ D 6 b := by
  have h1 : (y.take 6).length = 6 := by rw [List.length_take]; omega
  have h2 : (y.drop 6).length = 6 := by rw [List.length_drop]; omega
  have l1 : Lt 18446744073709551616 (y.take 6) := fun x hx => h x (List.mem_of_mem_take hx)
  have l2 : Lt 18446744073709551616 (y.drop 6) := fun x hx => h x (List.mem_of_mem_drop hx)
  have b1 := V_lt l1
  have b2 := V_lt l2
  rw [h1] at b1
  rw [h2] at b2
  refine ⟨V (y.take 6), V (y.drop 6), b1, b2, ?_⟩
  have e1 := D_V l1
  have e2 := D_V l2
  rw [h1] at e1
  rw [h2] at e2
  rw [e1, e2, List.take_append_drop]
theorem E2_same (x : F2) : (decide (D 6 x.re.val = D 6 x.re.val) && decide (D 6 x.im.val = D 6 x.im.val)) = true := by rw [E2_iff]; exact decide_eq_true rfl
theorem E2_diff {x y : F2} (h : ¬ x = y) : (decide (D 6 x.re.val = D 6 y.re.val) && decide (D 6 x.im.val = D 6 y.im.val)) = false := by rw [E2_iff]; exact decide_eq_false h
theorem bsame (b : Bool) : decide (b = b) = true := decide_eq_true rfl
theorem rep6 : (List.replicate 6 0 : List Nat) = D 6 0 := (D_zero 6).symm
theorem two6 : ([2] ++ List.replicate (6 - [2].length) 0 : List Nat) = D 6 2 := by decide +kernel
theorem isq_2 : Kf.isq (kp 2) = false := by
  have h : Kf.isq (-kp 2) = true := (Kf.isq_iff p_3).2 ⟨kp 2057464292470212699950648958431590554769679873859515792311286236065221686597310451751142621105086029381756709738514, by decide +kernel⟩
  have h2 := Kf.isq_neg p_3 (a := kp 2) (by decide +kernel)
  rw [h] at h2
  cases h3 : Kf.isq (kp 2)
  · rfl
  · rw [h3] at h2; exact absurd h2 (by decide)
theorem aw1 : Kf.K2.sqrtP (k2 (-kp 1).val 0) = (⟨0, -kp 1⟩, true) :=
  Kf.K2.root_eq p_3 (Kf.K2.sqrtP_root p_3 _) (.inl ⟨rfl, by decide +kernel, by decide +kernel⟩)
theorem aw2 : Kf.K2.sqrtP (k2 0 2) = (⟨-kp 1, -kp 1⟩, true) :=
  Kf.K2.root_eq p_3 (Kf.K2.sqrtP_root p_3 _) (.inl ⟨rfl, by decide +kernel, by decide +kernel⟩)
theorem aw3 : (Kf.K2.sqrtP (k2 1 1)).2 = false := by
  rw [← Kf.K2.isq2_def, Kf.K2.isq2_norm p_3, show Kf.K2.norm (k2 1 1) = kp 2 by decide +kernel]
  exact isq_2
theorem aw4 : Kf.K2.sgn (k2 0 1) = 1 := by decide +kernel
set_option maxHeartbeats 4000000 in
theorem awake8_spec : Spec Try.prog 17 [] NoPre [] (IsV (.bool true)) := by
  refine mk_spec Try.func17 rfl rfl rfl fun w hr => ?_
  have hl0 := fun x => D_len 6 x
  have hle := fun x : F2 => E2_len x
  have h0 : 0 < W ^ 6 := by decide
  have h1 : 1 < W ^ 6 := by decide
  have h2 : 2 < W ^ 6 := by decide
  have hs1 := sqrt_spec (val_lt (-kp 1)) h0
  rw [aw1] at hs1
  have hs2 := sqrt_spec h0 h2
  rw [aw2] at hs2
  have hs3 := sqrt_spec h1 h1
  have a3 := aw3
  have hsg := ssign_spec h0 h1
  rw [aw4] at hsg
  have hng := kneg_spec h1
  obtain ⟨m, hm⟩ : ∃ m : Fq, m = -kp 1 := ⟨_, rfl⟩
  rw [← hm] at hs1 hs2 hng
  generalize Kf.K2.sqrtP (k2 1 1) = r at hs3 a3
  obtain ⟨r1, r2⟩ := r
  simp only at a3 hs3
  subst a3
  clear hm
  have e1 : (decide (D 6 (0 : Fq).val = List.replicate 6 0) && decide (D 6 m.val = D 6 m.val)) = true := by rw [z6]; exact E2_same ⟨0, m⟩
  have e2 := E2_same (⟨m, m⟩ : F2)
  simp only [← rep6] at hs1 hs2 hsg
  repeat (first
    |(refine st_alloc (v := LV .u64 (List.replicate 12 0)) (by rfl) (by rfl) fun _ => ?_)
    |(refine st_alloc (v := LV .u64 (List.replicate 6 0)) (by rfl) (by rfl) fun _ => ?_)
    |((refine st_buildP (kk := .u64) (vs := [1]) (by rfl) (by rfl) (by rfl) (by rfl) (by rfl) (by rfl) (by rfl) (by rfl) ?_; rw [one6]))
    |((refine st_buildP (kk := .u64) (vs := [2]) (by rfl) (by rfl) (by rfl) (by rfl) (by rfl) (by rfl) (by rfl) (by rfl) ?_; rw [two6]))
    |(refine st_fld (by rfl) (by first | exact (show _ = some (0, 6) from rfl) | exact (show _ = some (6, 6) from rfl) | exact (show _ = some (0, 12) from rfl) | exact (show _ = some (12, 12) from rfl) | exact (show _ = some (24, 1) from rfl)) (by rfl) (by rfl) ?_)
    |((refine st_ldp (by rfl) (by repeat (first | apply Find.here | apply Find.there)) (by rfl) (by rfl) (by first | (refine PartAt.l ?_; (first | exact D_len _ _ | (simp; done))) | (refine PartAt.r ?_ ?_ <;> (first | exact D_len _ _ | (simp; done))) | (refine PartAt.all ?_; (first | exact D_len _ _ | (simp; done)))) (by rfl) ?_))
    |(refine st_build2 (by rfl) (by rfl) (by rfl) (by rfl) (by first | exact D_len _ _ | (simp; done)) (by first | exact D_len _ _ | (simp; done)) (by rfl) ?_)
    |(refine st_build2a (by rfl) (by rfl) (by rfl) (by rfl) (by first | exact D_len _ _ | (simp; done)) (by rfl) ?_)
    |(refine st_build2b (by rfl) (by rfl) (by rfl) (by rfl) (by first | exact D_len _ _ | (simp; done)) (by rfl) ?_)
    |(refine st_build20 (by rfl) (by rfl) (by rfl) (by rfl) ?_)
    |(refine st_eq2 (by rfl) (by rfl) (by rfl) (by kernel_rfl) (by rfl) (by rfl) (by rfl) (by rfl) (by rfl) (by rfl) (by rfl) (by rfl) (by rfl) (by rfl) (by kernel_rfl) (by first | exact D_len _ _ | (simp; done)) (by first | exact D_len _ _ | (simp; done)) (by first | exact D_len _ _ | (simp; done)) (by first | exact D_len _ _ | (simp; done)) (by rfl) ?_)
    |(refine st_ne2 (by rfl) (by rfl) (by rfl) (by kernel_rfl) (by rfl) (by rfl) (by rfl) (by rfl) (by rfl) (by rfl) (by rfl) (by rfl) (by rfl) (by rfl) (by kernel_rfl) (by first | exact D_len _ _ | (simp; done)) (by first | exact D_len _ _ | (simp; done)) (by first | exact D_len _ _ | (simp; done)) (by first | exact D_len _ _ | (simp; done)) (by rfl) ?_)
    |(refine st_fieldLV (by rfl) (by first | exact (show _ = some (0, 6) from rfl) | exact (show _ = some (6, 6) from rfl) | exact (show _ = some (0, 12) from rfl) | exact (show _ = some (12, 12) from rfl) | exact (show _ = some (24, 1) from rfl)) (by first | (refine PartAt.l ?_; (first | exact D_len _ _ | (simp; done))) | (refine PartAt.r ?_ ?_ <;> (first | exact D_len _ _ | (simp; done))) | (refine PartAt.all ?_; (first | exact D_len _ _ | (simp; done)))) (by rfl) (by rfl) ?_)
    |(refine st_callV (by rfl) (by rfl) (by rfl) (hng) (fun _ _ => trivial) (by rfl) ?_)
    |(refine st_callV (by rfl) (by rfl) (by rfl) (hs1) (fun _ _ => trivial) (by rfl) ?_)
    |(refine st_callV (by rfl) (by rfl) (by rfl) (hs2) (fun _ _ => trivial) (by rfl) ?_)
    |(refine st_callV (by rfl) (by rfl) (by rfl) (hs3) (fun _ _ => trivial) (by rfl) ?_)|refine Z01 ?_|refine Z02 ?_|refine Z03 ?_|refine Z04 ?_|refine Z05 ?_
    |refine Z06 ?_|refine Z07 ?_|refine Z08 ?_|refine Z09 ?_|refine Z10 ?_|refine Z11 ?_|refine Z12 ?_|refine Z13 ?_|refine Z14 ?_|refine Z17 ?_|refine Z18 ?_
    |refine Z19 ?_|refine Z24 ?_|refine Z25 ?_|refine Z26 ?_|refine Z27 ?_|refine Z28 ?_|refine Z29 ?_|refine Z30 ?_|refine Z31 ?_|refine Z32 ?_|refine Z49 ?_
    |refine Z50 ?_|refine Z51 ?_|refine Z52 ?_|refine Z53 ?_|refine Z54 ?_|refine Z65 ?_|refine Z67 ?_|refine Z77 ?_|refine Z78 ?_|refine Z79 ?_|refine Z82 fun _ => ?_)
  refine st_draw1 (by rfl) ?_
  repeat (first
    |refine Zqf (by intro _ _ _;(first
      |((refine st_buildP (kk := .u64) (vs := [1]) (by rfl) (by rfl) (by rfl) (by rfl) (by rfl) (by rfl) (by rfl) (by rfl) ?_; rw [one6]))
      |((refine st_eq2v (hr := e1) (by rfl) (by rfl) (by rfl) (by kernel_rfl) (by rfl) (by rfl) (by rfl) (by rfl) (by rfl) (by rfl) (by rfl) (by rfl) (by rfl) (by rfl) (by kernel_rfl) (by first | exact D_len _ _ | (simp; done)) (by first | exact D_len _ _ | (simp; done)) (by first | exact D_len _ _ | (simp; done)) (by first | exact D_len _ _ | (simp; done)) (by rfl) ?_))
      |((refine st_eq2v (hr := e2) (by rfl) (by rfl) (by rfl) (by kernel_rfl) (by rfl) (by rfl) (by rfl) (by rfl) (by rfl) (by rfl) (by rfl) (by rfl) (by rfl) (by rfl) (by kernel_rfl) (by first | exact D_len _ _ | (simp; done)) (by first | exact D_len _ _ | (simp; done)) (by first | exact D_len _ _ | (simp; done)) (by first | exact D_len _ _ | (simp; done)) (by rfl) ?_))
      |(refine st_fld (by rfl) (by first | exact (show _ = some (0, 6) from rfl) | exact (show _ = some (6, 6) from rfl) | exact (show _ = some (0, 12) from rfl) | exact (show _ = some (12, 12) from rfl) | exact (show _ = some (24, 1) from rfl)) (by rfl) (by rfl) ?_)
      |(refine st_build2 (by rfl) (by rfl) (by rfl) (by rfl) (by first | exact D_len _ _ | (simp; done)) (by first | exact D_len _ _ | (simp; done)) (by rfl) ?_)
      |(refine st_build2a (by rfl) (by rfl) (by rfl) (by rfl) (by first | exact D_len _ _ | (simp; done)) (by rfl) ?_)
      |(refine st_build2b (by rfl) (by rfl) (by rfl) (by rfl) (by first | exact D_len _ _ | (simp; done)) (by rfl) ?_)
      |(refine st_build20 (by rfl) (by rfl) (by rfl) (by rfl) ?_)
      |(refine st_eq2 (by rfl) (by rfl) (by rfl) (by kernel_rfl) (by rfl) (by rfl) (by rfl) (by rfl) (by rfl) (by rfl) (by rfl) (by rfl) (by rfl) (by rfl) (by kernel_rfl) (by first | exact D_len _ _ | (simp; done)) (by first | exact D_len _ _ | (simp; done)) (by first | exact D_len _ _ | (simp; done)) (by first | exact D_len _ _ | (simp; done)) (by rfl) ?_)
      |(refine st_ne2 (by rfl) (by rfl) (by rfl) (by kernel_rfl) (by rfl) (by rfl) (by rfl) (by rfl) (by rfl) (by rfl) (by rfl) (by rfl) (by rfl) (by rfl) (by kernel_rfl) (by first | exact D_len _ _ | (simp; done)) (by first | exact D_len _ _ | (simp; done)) (by first | exact D_len _ _ | (simp; done)) (by first | exact D_len _ _ | (simp; done)) (by rfl) ?_)
      |(refine st_fieldLV (by rfl) (by first | exact (show _ = some (0, 6) from rfl) | exact (show _ = some (6, 6) from rfl) | exact (show _ = some (0, 12) from rfl) | exact (show _ = some (12, 12) from rfl) | exact (show _ = some (24, 1) from rfl)) (by first | (refine PartAt.l ?_; (first | exact D_len _ _ | (simp; done))) | (refine PartAt.r ?_ ?_ <;> (first | exact D_len _ _ | (simp; done))) | (refine PartAt.all ?_; (first | exact D_len _ _ | (simp; done)))) (by rfl) (by rfl) ?_)
      |refine Z01 ?_|refine Z02 ?_|refine Z17 ?_|refine Z18 ?_|refine Z19 ?_|refine Z49 ?_|refine Z50 ?_|refine Z54 ?_|refine Z65 ?_|refine Z77 ?_|refine Z78 ?_
      |refine Z79 ?_);exact Zq) ?_
    |refine Zqp (by intro _ _ _;(refine st_ldp (by rfl) (by repeat (first | apply Find.here | apply Find.there)) (by rfl) (by rfl) (by first | (refine PartAt.l ?_; (first | exact D_len _ _ | (simp; done))) | (refine PartAt.r ?_ ?_ <;> (first | exact D_len _ _ | (simp; done))) | (refine PartAt.all ?_; (first | exact D_len _ _ | (simp; done)))) (by rfl) ?_);exact Zq) ?_
    |refine Zqp (by intro _ _ _;refine st_callV (by rfl) (by rfl) (by rfl) (hng) (fun _ _ => trivial) (by rfl) ?_;exact Zq) ?_
    |refine Zqp (by intro _ _ _;refine st_callV (by rfl) (by rfl) (by rfl) (hsg) (fun _ _ => trivial) (by rfl) ?_;exact Zq) ?_
    |refine Zqp (by intro _ _ _;(first
      |refine Z24 ?_|refine Z25 ?_|refine Z26 ?_|refine Z27 ?_|refine Z28 ?_|refine Z67 ?_);exact Zq) ?_
    |refine Zqe (by intro _ _ _;(first
      |refine Z29 ?_|refine Z30 ?_|refine Z31 ?_|refine Z32 ?_);exact Zqq) ?_
    |refine Zqn ?_)
  refine Zq0 ?_ (by kernel_rfl)
  repeat (first
    |refine Z01 ?_|refine Z02 ?_|refine Z03 ?_|refine Z04 ?_|refine Z05 ?_|refine Z06 ?_|refine Z07 ?_|refine Z08 ?_|refine Z09 ?_|refine Z10 ?_|refine Z11 ?_
    |refine Z12 ?_|refine Z13 ?_|refine Z14 ?_|refine Z17 ?_|refine Z18 ?_|refine Z19 ?_|refine Z24 ?_|refine Z25 ?_|refine Z26 ?_|refine Z27 ?_|refine Z28 ?_
    |refine Z29 ?_|refine Z30 ?_|refine Z31 ?_|refine Z32 ?_|refine Z49 ?_|refine Z50 ?_|refine Z51 ?_|refine Z52 ?_|refine Z53 ?_|refine Z54 ?_|refine Z65 ?_
    |refine Z67 ?_|refine Z77 ?_|refine Z78 ?_|refine Z79 ?_|refine Z82 fun _ => ?_)
  refine Ze1 fun _ hw => post_of hw SubW.nil ⟨?_, rfl⟩
  rfl
end Go.Proofs.Ytfhempgkdnecnaa.L
