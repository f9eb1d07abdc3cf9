/- Roots of numbers with u: the program's tries. Conditions: as each statement says. -/
import Derived.Test.YtfhempgkdnecnaaAuto
import Derived.Test.YtfhempgkdnecnaaPerm
import Derived.Test.YtfhempgkdnecnaaMore
import Derived.Test.YtfhempgkdnecnaaProg
import Derived.Test.YtfhempgkdnecnaaNum
import Derived.Test.YtfhempgkdnecnaaLmb
import Derived.Test.YtfhempgkdnecnaaLmd
import Derived.Test.YtfhempgkdnecnaaLmk
import Derived.Test.YtfhempgkdnecnaaScope
import Derived.Test.YtfhempgkdnecnaaJoin
import Derived.Test.YtfhempgkdnecnaaLma
import Derived.Test.YtfhempgkdnecnaaLmz
import Derived.Test.YtfhempgkdnecnaaWin
import Derived.Test.YtfhempgkdnecnaaGho
import Derived.Test.YtfhempgkdnecnaaOrd
import Derived.Test.YtfhempgkdnecnaaBld
import Derived.Test.YtfhempgkdnecnaaFld
import Derived.Test.YtfhempgkdnecnaaOld
import Derived.Test.YtfhempgkdnecnaaArr
import Derived.Test.YtfhempgkdnecnaaClr
import Derived.Test.YtfhempgkdnecnaaPq
import Derived.Test.YtfhempgkdnecnaaKf
import Derived.Test.YtfhempgkdnecnaaKs
import Derived.Test.YtfhempgkdnecnaaKt
import Derived.Test.YtfhempgkdnecnaaKu
import Derived.Test.YtfhempgkdnecnaaFpa
import Derived.Test.YtfhempgkdnecnaaFpb
import Derived.Test.YtfhempgkdnecnaaFpc
import Derived.Test.YtfhempgkdnecnaaFpd
import Derived.Test.YtfhempgkdnecnaaFpe
import Derived.Test.YtfhempgkdnecnaaFpi
import Derived.Test.YtfhempgkdnecnaaFpj
import Derived.Test.YtfhempgkdnecnaaFpk
import Derived.Test.YtfhempgkdnecnaaFpl
namespace Go.Proofs.Ytfhempgkdnecnaa.L
open Go Go.Proofs
set_option maxRecDepth 100000
attribute [local irreducible] Code.wp wpList Af bodyPost L.Go
open Num
attribute [local simp] D_len

set_option maxHeartbeats 4000000 in
theorem try_spec (u : Nat) (x : F2) (m : Fq) : Spec Try.prog 56 [LV .u64 (D 6 m.val), pt u 0] (fun w => HasB w u (LV .u64 (E2 x)) 26) [] (IsV (.tuple [LV .u64 (E2 (Kf.K2.tryP x m).1), .bool (Kf.K2.tryP x m).2].toArray)) := by
  refine mk_spec Try.func56 rfl rfl rfl fun w hr => ?_
  have h1 := OldB.mk0 hr
  have hl0 := fun x => D_len 6 x
  repeat (first
    |(refine st_alloc (v := LV .u64 (List.replicate 12 0)) (by rfl) (by rfl) fun _ => ?_)
    |(refine st_alloc (v := LV .u64 (List.replicate 6 0)) (by rfl) (by rfl) fun _ => ?_)
    |((refine st_ldo (by rfl) (h1) (by rfl) (by rfl) (by first | (refine PartAt.l ?_; (first | exact D_len _ _ | (simp; done))) | (refine PartAt.r ?_ ?_ <;> (first | exact D_len _ _ | (simp; done))) | (refine PartAt.all ?_; (first | exact D_len _ _ | (simp; done)))) (by rfl) ?_))
    |(refine st_fld (by rfl) (by first | exact (show _ = some (0, 6) from rfl) | exact (show _ = some (6, 6) from rfl) | exact (show _ = some (0, 12) from rfl) | exact (show _ = some (12, 12) from rfl) | exact (show _ = some (24, 1) from rfl)) (by rfl) (by rfl) ?_)
    |((refine st_ldp (by rfl) (by repeat (first | apply Find.here | apply Find.there)) (by rfl) (by rfl) (by first | (refine PartAt.l ?_; (first | exact D_len _ _ | (simp; done))) | (refine PartAt.r ?_ ?_ <;> (first | exact D_len _ _ | (simp; done))) | (refine PartAt.all ?_; (first | exact D_len _ _ | (simp; done)))) (by rfl) ?_))
    |(refine st_build2 (by rfl) (by rfl) (by rfl) (by rfl) (by first | exact D_len _ _ | (simp; done)) (by first | exact D_len _ _ | (simp; done)) (by rfl) ?_)
    |(refine st_build2a (by rfl) (by rfl) (by rfl) (by rfl) (by first | exact D_len _ _ | (simp; done)) (by rfl) ?_)
    |(refine st_build2b (by rfl) (by rfl) (by rfl) (by rfl) (by first | exact D_len _ _ | (simp; done)) (by rfl) ?_)
    |(refine st_build20 (by rfl) (by rfl) (by rfl) (by rfl) ?_)
    |(refine st_eq2 (by rfl) (by rfl) (by rfl) (by kernel_rfl) (by rfl) (by rfl) (by rfl) (by rfl) (by rfl) (by rfl) (by rfl) (by rfl) (by rfl) (by rfl) (by kernel_rfl) (by first | exact D_len _ _ | (simp; done)) (by first | exact D_len _ _ | (simp; done)) (by first | exact D_len _ _ | (simp; done)) (by first | exact D_len _ _ | (simp; done)) (by rfl) ?_)
    |(refine st_ne2 (by rfl) (by rfl) (by rfl) (by kernel_rfl) (by rfl) (by rfl) (by rfl) (by rfl) (by rfl) (by rfl) (by rfl) (by rfl) (by rfl) (by rfl) (by kernel_rfl) (by first | exact D_len _ _ | (simp; done)) (by first | exact D_len _ _ | (simp; done)) (by first | exact D_len _ _ | (simp; done)) (by first | exact D_len _ _ | (simp; done)) (by rfl) ?_)
    |(refine st_fieldLV (by rfl) (by first | exact (show _ = some (0, 6) from rfl) | exact (show _ = some (6, 6) from rfl) | exact (show _ = some (0, 12) from rfl) | exact (show _ = some (12, 12) from rfl) | exact (show _ = some (24, 1) from rfl)) (by first | (refine PartAt.l ?_; (first | exact D_len _ _ | (simp; done))) | (refine PartAt.r ?_ ?_ <;> (first | exact D_len _ _ | (simp; done))) | (refine PartAt.all ?_; (first | exact D_len _ _ | (simp; done)))) (by rfl) (by rfl) ?_)
    |(refine st_callV (by rfl) (by rfl) (by rfl) (fadd_spec' x.re m) (fun _ _ => trivial) (by rfl) ?_)
    |(refine st_callV (by rfl) (by rfl) (by rfl) (half2_spec) (fun _ _ => trivial) (by rfl) ?_)
    |(refine st_callV (by rfl) (by rfl) (by rfl) (fmul_spec' (x.re + m) hv) (fun _ _ => trivial) (by rfl) ?_)
    |(refine st_callV (by rfl) (by rfl) (by rfl) (fsqrtF ((x.re + m) * hv)) (fun _ _ => trivial) (by rfl) ?_)|refine Z01 ?_|refine Z02 ?_|refine Z03 ?_|refine Z04 ?_
    |refine Z05 ?_|refine Z06 ?_|refine Z07 ?_|refine Z08 ?_|refine Z09 ?_|refine Z10 ?_|refine Z11 ?_|refine Z12 ?_|refine Z13 ?_|refine Z14 ?_|refine Z17 ?_
    |refine Z18 ?_|refine Z19 ?_|refine Z24 ?_|refine Z25 ?_|refine Z26 ?_|refine Z27 ?_|refine Z28 ?_|refine Z29 ?_|refine Z30 ?_|refine Z31 ?_|refine Z32 ?_
    |refine Z49 ?_|refine Z50 ?_|refine Z51 ?_|refine Z52 ?_|refine Z53 ?_|refine Z65 ?_|refine Z67 ?_|refine Z77 ?_|refine Z78 ?_|refine Z79 ?_|refine Z81 fun _ => ?_
    |refine Z82 fun _ => ?_)
  obtain ⟨s, hs⟩ : ∃ s, s = Kf.K2.fsq ((x.re + m) * hv) := ⟨_, rfl⟩
  rw [← hs]
  refine R.st_perm [0, 1, 2, 3, 4, 5, 6, 7, 8] (by rfl) ?_
  repeat (first
    |refine R.Zpf (by rfl)
      (by intro _ _ _;(first
      
      |((refine st_ldo (by rfl) ((h1).shift (by assumption)) (by rfl) (by rfl) (by first | (refine PartAt.l ?_; (first | exact D_len _ _ | (simp; done))) | (refine PartAt.r ?_ ?_ <;> (first | exact D_len _ _ | (simp; done))) | (refine PartAt.all ?_; (first | exact D_len _ _ | (simp; done)))) (by rfl) ?_))
      |(refine st_fld (by rfl) (by first | exact (show _ = some (0, 6) from rfl) | exact (show _ = some (6, 6) from rfl) | exact (show _ = some (0, 12) from rfl) | exact (show _ = some (12, 12) from rfl) | exact (show _ = some (24, 1) from rfl)) (by rfl) (by rfl) ?_)
      |(refine st_build2 (by rfl) (by rfl) (by rfl) (by rfl) (by first | exact D_len _ _ | (simp; done)) (by first | exact D_len _ _ | (simp; done)) (by rfl) ?_)
      |(refine st_build2a (by rfl) (by rfl) (by rfl) (by rfl) (by first | exact D_len _ _ | (simp; done)) (by rfl) ?_)
      |(refine st_build2b (by rfl) (by rfl) (by rfl) (by rfl) (by first | exact D_len _ _ | (simp; done)) (by rfl) ?_)
      |(refine st_build20 (by rfl) (by rfl) (by rfl) (by rfl) ?_)
      |(refine st_eq2 (by rfl) (by rfl) (by rfl) (by kernel_rfl) (by rfl) (by rfl) (by rfl) (by rfl) (by rfl) (by rfl) (by rfl) (by rfl) (by rfl) (by rfl) (by kernel_rfl) (by first | exact D_len _ _ | (simp; done)) (by first | exact D_len _ _ | (simp; done)) (by first | exact D_len _ _ | (simp; done)) (by first | exact D_len _ _ | (simp; done)) (by rfl) ?_)
      |(refine st_ne2 (by rfl) (by rfl) (by rfl) (by kernel_rfl) (by rfl) (by rfl) (by rfl) (by rfl) (by rfl) (by rfl) (by rfl) (by rfl) (by rfl) (by rfl) (by kernel_rfl) (by first | exact D_len _ _ | (simp; done)) (by first | exact D_len _ _ | (simp; done)) (by first | exact D_len _ _ | (simp; done)) (by first | exact D_len _ _ | (simp; done)) (by rfl) ?_)
      |(refine st_fieldLV (by rfl) (by first | exact (show _ = some (0, 6) from rfl) | exact (show _ = some (6, 6) from rfl) | exact (show _ = some (0, 12) from rfl) | exact (show _ = some (12, 12) from rfl) | exact (show _ = some (24, 1) from rfl)) (by first | (refine PartAt.l ?_; (first | exact D_len _ _ | (simp; done))) | (refine PartAt.r ?_ ?_ <;> (first | exact D_len _ _ | (simp; done))) | (refine PartAt.all ?_; (first | exact D_len _ _ | (simp; done)))) (by rfl) (by rfl) ?_)
      |refine Z01 ?_|refine Z02 ?_|refine Z17 ?_|refine Z18 ?_|refine Z19 ?_|refine Z49 ?_|refine Z50 ?_|refine Z65 ?_|refine Z77 ?_|refine Z78 ?_|refine Z79 ?_);exact Zq) ?_
    |refine R.Zpp (by rfl)
      (by intro _ _ _;(first
      |refine Z24 ?_|refine Z25 ?_|refine Z26 ?_|refine Z27 ?_|refine Z28 ?_|refine Z67 ?_);exact Zq) ?_
    |refine R.Zpp (by rfl)
      (by intro _ _ _;(refine st_ldp (by rfl) (by repeat (first | apply Find.here | apply Find.there)) (by rfl) (by rfl) (by first | (refine PartAt.l ?_; (first | exact D_len _ _ | (simp; done))) | (refine PartAt.r ?_ ?_ <;> (first | exact D_len _ _ | (simp; done))) | (refine PartAt.all ?_; (first | exact D_len _ _ | (simp; done)))) (by rfl) ?_);exact Zq) ?_
    |refine R.Zpp (by rfl)
      (by intro _ _ _;refine st_callV (by rfl) (by rfl) (by rfl) (half2_spec) (fun _ _ => trivial) (by rfl) ?_;exact Zq) ?_
    |refine R.Zpp (by rfl)
      (by intro _ _ _;refine st_callV (by rfl) (by rfl) (by rfl) (fmul_spec' x.im hv) (fun _ _ => trivial) (by rfl) ?_;exact Zq) ?_
    |refine R.Zpp (by rfl)
      (by intro _ _ _;refine st_callV (by rfl) (by rfl) (by rfl) (finv_spec' s.1) (fun _ _ => trivial) (by rfl) ?_;exact Zq) ?_
    |refine R.Zpp (by rfl)
      (by intro _ _ _;refine st_callV (by rfl) (by rfl) (by rfl) (fmul_spec' (x.im * hv) (Kf.inv s.1)) (fun _ _ => trivial) (by rfl) ?_;exact Zq) ?_
    |refine R.Zps (by rfl)
      (by intro _ _ _;(first
      |refine Z29 ?_|refine Z30 ?_|refine Z31 ?_|refine Z32 ?_);exact Zqq) ?_
    |refine R.Zpb (by rfl)
      (by intro _ _ _;refine st_alloc (v := LV .u64 (List.replicate 6 0)) (by rfl) (by rfl) fun _ => ?_;exact R.Zpbx) fun _ => ?_
    |refine R.Zpn (by rfl)
      (by intro _ _ _;(first
      |refine Z81 fun _ => ?_|refine Z82 fun _ => ?_);exact R.Zpx) fun _ => ?_
    |refine R.Zpo (by rfl) ?_)
  refine R.Zp0 ?_
  repeat (first
    |((refine st_buildP (kk := .u64) (vs := []) (by rfl) (by rfl) (by rfl) (by rfl) (by rfl) (by rfl) (by rfl) (by rfl) ?_; rw [zero6F]))|refine Z01 ?_|refine Z02 ?_
    |refine Z03 ?_|refine Z04 ?_|refine Z05 ?_|refine Z06 ?_|refine Z07 ?_|refine Z08 ?_|refine Z09 ?_|refine Z10 ?_|refine Z11 ?_|refine Z12 ?_|refine Z13 ?_
    |refine Z14 ?_|refine Z17 ?_|refine Z18 ?_|refine Z19 ?_|refine Z24 ?_|refine Z25 ?_|refine Z26 ?_|refine Z27 ?_|refine Z28 ?_|refine Z29 ?_|refine Z30 ?_
    |refine Z31 ?_|refine Z32 ?_|refine Z49 ?_|refine Z50 ?_|refine Z51 ?_|refine Z52 ?_|refine Z53 ?_|refine Z65 ?_|refine Z67 ?_|refine Z77 ?_|refine Z78 ?_
    |refine Z79 ?_|refine Z81 fun _ => ?_|refine Z82 fun _ => ?_)
  refine st_cond (by rfl) (fun h => ?_) (fun h => ?_)
  · rw [D6_iff] at h
    obtain ⟨o, ho⟩ : ∃ o : F2, o = ⟨s.1, (Kf.K2.fsq (-x.re)).1⟩ := ⟨_, rfl⟩
    have hv0 := E2_mk ho
    have hT := Kf.K2.tryP_0 hs h ho
    have hsg := ssignE o
    obtain ⟨g, hg⟩ : ∃ g, g = Kf.K2.sgn o := ⟨_, rfl⟩
    rw [← hg] at hsg
    have hlo := E2_len o
    have hln := E2_len (Kf.K2.neg o)
    have hle := E2_len (Kf.K2.evn2 o)
    clear hs ho
    repeat (first
      
      |((refine st_build2 (by rfl) (by rfl) (by rfl) (by rfl) (by first | exact D_len _ _ | (simp; done)) (by first | exact D_len _ _ | (simp; done)) (by rfl) ?_; rw [hv0]))
      |(refine st_fld (by rfl) (by first | exact (show _ = some (0, 6) from rfl) | exact (show _ = some (6, 6) from rfl) | exact (show _ = some (0, 12) from rfl) | exact (show _ = some (12, 12) from rfl) | exact (show _ = some (24, 1) from rfl)) (by rfl) (by rfl) ?_)
      |((refine st_ldp (by rfl) (by repeat (first | apply Find.here | apply Find.there)) (by rfl) (by rfl) (by first | (refine PartAt.l ?_; (first | exact D_len _ _ | (simp; done))) | (refine PartAt.r ?_ ?_ <;> (first | exact D_len _ _ | (simp; done))) | (refine PartAt.all ?_; (first | exact D_len _ _ | (simp; done)))) (by rfl) ?_))
      |(refine st_build2 (by rfl) (by rfl) (by rfl) (by rfl) (by first | exact D_len _ _ | (simp; done)) (by first | exact D_len _ _ | (simp; done)) (by rfl) ?_)
      |(refine st_build2a (by rfl) (by rfl) (by rfl) (by rfl) (by first | exact D_len _ _ | (simp; done)) (by rfl) ?_)
      |(refine st_build2b (by rfl) (by rfl) (by rfl) (by rfl) (by first | exact D_len _ _ | (simp; done)) (by rfl) ?_)
      |(refine st_build20 (by rfl) (by rfl) (by rfl) (by rfl) ?_)
      |(refine st_eq2 (by rfl) (by rfl) (by rfl) (by kernel_rfl) (by rfl) (by rfl) (by rfl) (by rfl) (by rfl) (by rfl) (by rfl) (by rfl) (by rfl) (by rfl) (by kernel_rfl) (by first | exact D_len _ _ | (simp; done)) (by first | exact D_len _ _ | (simp; done)) (by first | exact D_len _ _ | (simp; done)) (by first | exact D_len _ _ | (simp; done)) (by rfl) ?_)
      |(refine st_ne2 (by rfl) (by rfl) (by rfl) (by kernel_rfl) (by rfl) (by rfl) (by rfl) (by rfl) (by rfl) (by rfl) (by rfl) (by rfl) (by rfl) (by rfl) (by kernel_rfl) (by first | exact D_len _ _ | (simp; done)) (by first | exact D_len _ _ | (simp; done)) (by first | exact D_len _ _ | (simp; done)) (by first | exact D_len _ _ | (simp; done)) (by rfl) ?_)
      |(refine st_fieldLV (by rfl) (by first | exact (show _ = some (0, 6) from rfl) | exact (show _ = some (6, 6) from rfl) | exact (show _ = some (0, 12) from rfl) | exact (show _ = some (12, 12) from rfl) | exact (show _ = some (24, 1) from rfl)) (by first | (refine PartAt.l ?_; (first | exact D_len _ _ | (simp; done))) | (refine PartAt.r ?_ ?_ <;> (first | exact D_len _ _ | (simp; done))) | (refine PartAt.all ?_; (first | exact D_len _ _ | (simp; done)))) (by rfl) (by rfl) ?_)
      |(refine st_alloc (v := LV .u64 (List.replicate 12 0)) (by rfl) (by rfl) fun _ => ?_)
      |(refine st_alloc (v := LV .u64 (List.replicate 6 0)) (by rfl) (by rfl) fun _ => ?_)
      |(refine st_callV (by rfl) (by rfl) (by rfl) (hsg) (fun _ _ => trivial) (by rfl) ?_)
      |(refine st_callV (by rfl) (by rfl) (by rfl) (fneg_spec' x.re) (fun _ _ => trivial) (by rfl) ?_)
      |(refine st_callV (by rfl) (by rfl) (by rfl) (fsqrtF (-x.re)) (fun _ _ => trivial) (by rfl) ?_)
      |((refine st_ldo (by rfl) (h1) (by rfl) (by rfl) (by first | (refine PartAt.l ?_; (first | exact D_len _ _ | (simp; done))) | (refine PartAt.r ?_ ?_ <;> (first | exact D_len _ _ | (simp; done))) | (refine PartAt.all ?_; (first | exact D_len _ _ | (simp; done)))) (by rfl) ?_))
      |refine Z01 ?_|refine Z02 ?_|refine Z03 ?_|refine Z04 ?_|refine Z05 ?_|refine Z06 ?_|refine Z07 ?_|refine Z08 ?_|refine Z09 ?_|refine Z10 ?_|refine Z11 ?_
      |refine Z12 ?_|refine Z13 ?_|refine Z14 ?_|refine Z17 ?_|refine Z18 ?_|refine Z19 ?_|refine Z24 ?_|refine Z25 ?_|refine Z26 ?_|refine Z27 ?_|refine Z28 ?_
      |refine Z29 ?_|refine Z30 ?_|refine Z31 ?_|refine Z32 ?_|refine Z49 ?_|refine Z50 ?_|refine Z51 ?_|refine Z52 ?_|refine Z53 ?_|refine Z65 ?_|refine Z67 ?_
      |refine Z77 ?_|refine Z78 ?_|refine Z79 ?_|refine Z81 fun _ => ?_|refine Z82 fun _ => ?_)
    refine st_cond (by rfl) (fun hc => ?_) (fun hc => ?_)
    · have he := Kf.K2.evn2_1 hg hc
      repeat (first
        |(refine st_callV (by rfl) (by rfl) (by rfl) (snegE o) (fun _ _ => trivial) (by rfl) ?_)|refine Z01 ?_|refine Z02 ?_|refine Z03 ?_|refine Z04 ?_|refine Z05 ?_
        |refine Z06 ?_|refine Z07 ?_|refine Z08 ?_|refine Z09 ?_|refine Z10 ?_|refine Z11 ?_|refine Z12 ?_|refine Z13 ?_|refine Z14 ?_|refine Z17 ?_|refine Z18 ?_
        |refine Z19 ?_|refine Z24 ?_|refine Z25 ?_|refine Z26 ?_|refine Z27 ?_|refine Z28 ?_|refine Z29 ?_|refine Z30 ?_|refine Z31 ?_|refine Z32 ?_|refine Z49 ?_
        |refine Z50 ?_|refine Z51 ?_|refine Z52 ?_|refine Z53 ?_|refine Z65 ?_|refine Z67 ?_|refine Z77 ?_|refine Z78 ?_|refine Z79 ?_|refine Z81 fun _ => ?_
        |refine Z82 fun _ => ?_)
      rw [← he]
      cases hB : (Kf.K2.fsq (-x.re)).2 with
      | false =>
        rw [hB] at hT
        rw [hT]
        repeat (first
          |refine Z01 ?_|refine Z02 ?_|refine Z03 ?_|refine Z04 ?_|refine Z05 ?_|refine Z06 ?_|refine Z07 ?_|refine Z08 ?_|refine Z09 ?_|refine Z10 ?_|refine Z11 ?_
          |refine Z12 ?_|refine Z13 ?_|refine Z14 ?_|refine Z17 ?_|refine Z18 ?_|refine Z19 ?_|refine Z24 ?_|refine Z25 ?_|refine Z26 ?_|refine Z27 ?_|refine Z28 ?_
          |refine Z29 ?_|refine Z30 ?_|refine Z31 ?_|refine Z32 ?_|refine Z49 ?_|refine Z50 ?_|refine Z51 ?_|refine Z52 ?_|refine Z53 ?_|refine Z65 ?_|refine Z67 ?_
          |refine Z77 ?_|refine Z78 ?_|refine Z79 ?_|refine Z81 fun _ => ?_|refine Z82 fun _ => ?_)
        refine st_draw1 (by rfl) ?_
        repeat (first
          |refine Zqf (by intro _ _ _;(first
            
            |(refine st_fld (by rfl) (by first | exact (show _ = some (0, 6) from rfl) | exact (show _ = some (6, 6) from rfl) | exact (show _ = some (0, 12) from rfl) | exact (show _ = some (12, 12) from rfl) | exact (show _ = some (24, 1) from rfl)) (by rfl) (by rfl) ?_)
            |(refine st_build2 (by rfl) (by rfl) (by rfl) (by rfl) (by first | exact D_len _ _ | (simp; done)) (by first | exact D_len _ _ | (simp; done)) (by rfl) ?_)
            |(refine st_build2a (by rfl) (by rfl) (by rfl) (by rfl) (by first | exact D_len _ _ | (simp; done)) (by rfl) ?_)
            |(refine st_build2b (by rfl) (by rfl) (by rfl) (by rfl) (by first | exact D_len _ _ | (simp; done)) (by rfl) ?_)
            |(refine st_build20 (by rfl) (by rfl) (by rfl) (by rfl) ?_)
            |(refine st_eq2 (by rfl) (by rfl) (by rfl) (by kernel_rfl) (by rfl) (by rfl) (by rfl) (by rfl) (by rfl) (by rfl) (by rfl) (by rfl) (by rfl) (by rfl) (by kernel_rfl) (by first | exact D_len _ _ | (simp; done)) (by first | exact D_len _ _ | (simp; done)) (by first | exact D_len _ _ | (simp; done)) (by first | exact D_len _ _ | (simp; done)) (by rfl) ?_)
            |(refine st_ne2 (by rfl) (by rfl) (by rfl) (by kernel_rfl) (by rfl) (by rfl) (by rfl) (by rfl) (by rfl) (by rfl) (by rfl) (by rfl) (by rfl) (by rfl) (by kernel_rfl) (by first | exact D_len _ _ | (simp; done)) (by first | exact D_len _ _ | (simp; done)) (by first | exact D_len _ _ | (simp; done)) (by first | exact D_len _ _ | (simp; done)) (by rfl) ?_)
            |(refine st_fieldLV (by rfl) (by first | exact (show _ = some (0, 6) from rfl) | exact (show _ = some (6, 6) from rfl) | exact (show _ = some (0, 12) from rfl) | exact (show _ = some (12, 12) from rfl) | exact (show _ = some (24, 1) from rfl)) (by first | (refine PartAt.l ?_; (first | exact D_len _ _ | (simp; done))) | (refine PartAt.r ?_ ?_ <;> (first | exact D_len _ _ | (simp; done))) | (refine PartAt.all ?_; (first | exact D_len _ _ | (simp; done)))) (by rfl) (by rfl) ?_)
            |refine Z01 ?_|refine Z02 ?_|refine Z17 ?_|refine Z18 ?_|refine Z19 ?_|refine Z49 ?_|refine Z50 ?_|refine Z65 ?_|refine Z77 ?_|refine Z78 ?_|refine Z79 ?_);exact Zq) ?_
          |refine Zqp (by intro _ _ _;(refine st_ldp (by rfl) (by repeat (first | apply Find.here | apply Find.there)) (by rfl) (by rfl) (by first | (refine PartAt.l ?_; (first | exact D_len _ _ | (simp; done))) | (refine PartAt.r ?_ ?_ <;> (first | exact D_len _ _ | (simp; done))) | (refine PartAt.all ?_; (first | exact D_len _ _ | (simp; done)))) (by rfl) ?_);exact Zq) ?_
          |refine Zqp (by intro _ _ _;(first
            |refine Z24 ?_|refine Z25 ?_|refine Z26 ?_|refine Z27 ?_|refine Z28 ?_|refine Z67 ?_);exact Zq) ?_
          |refine Zqe (by intro _ _ _;(first
            |refine Z29 ?_|refine Z30 ?_|refine Z31 ?_|refine Z32 ?_);exact Zqq) ?_
          |refine Zqn ?_)
        refine Zq0 ?_ (by kernel_rfl)
        repeat (first
          |refine Z01 ?_|refine Z02 ?_|refine Z03 ?_|refine Z04 ?_|refine Z05 ?_|refine Z06 ?_|refine Z07 ?_|refine Z08 ?_|refine Z09 ?_|refine Z10 ?_|refine Z11 ?_
          |refine Z12 ?_|refine Z13 ?_|refine Z14 ?_|refine Z17 ?_|refine Z18 ?_|refine Z19 ?_|refine Z24 ?_|refine Z25 ?_|refine Z26 ?_|refine Z27 ?_|refine Z28 ?_
          |refine Z29 ?_|refine Z30 ?_|refine Z31 ?_|refine Z32 ?_|refine Z49 ?_|refine Z50 ?_|refine Z51 ?_|refine Z52 ?_|refine Z53 ?_|refine Z65 ?_|refine Z67 ?_
          |refine Z77 ?_|refine Z78 ?_|refine Z79 ?_|refine Z81 fun _ => ?_|refine Z82 fun _ => ?_)
        refine st_endc2_LV (by rfl) (by rfl) (by rfl) (by repeat (first | apply Find.here | apply Find.there)) (by rfl) (by rfl) (by first | with_reducible assumption | (simp [*]; done)) fun _ hw => post_of hw SubW.nil ⟨?_, rfl⟩
        rfl
      | true =>
        rw [hB] at hT
        rw [hT]
        have hE2 := E2_iff (Kf.K2.mul (Kf.K2.evn2 o) (Kf.K2.evn2 o)) x
        repeat (first
          |refine Z01 ?_|refine Z02 ?_|refine Z03 ?_|refine Z04 ?_|refine Z05 ?_|refine Z06 ?_|refine Z07 ?_|refine Z08 ?_|refine Z09 ?_|refine Z10 ?_|refine Z11 ?_
          |refine Z12 ?_|refine Z13 ?_|refine Z14 ?_|refine Z17 ?_|refine Z18 ?_|refine Z19 ?_|refine Z24 ?_|refine Z25 ?_|refine Z26 ?_|refine Z27 ?_|refine Z28 ?_
          |refine Z29 ?_|refine Z30 ?_|refine Z31 ?_|refine Z32 ?_|refine Z49 ?_|refine Z50 ?_|refine Z51 ?_|refine Z52 ?_|refine Z53 ?_|refine Z65 ?_|refine Z67 ?_
          |refine Z77 ?_|refine Z78 ?_|refine Z79 ?_|refine Z81 fun _ => ?_|refine Z82 fun _ => ?_)
        refine st_draw1 (by rfl) ?_
        repeat (first
          |refine Zqf (by intro _ _ _;(first
            
            |(refine st_fld (by rfl) (by first | exact (show _ = some (0, 6) from rfl) | exact (show _ = some (6, 6) from rfl) | exact (show _ = some (0, 12) from rfl) | exact (show _ = some (12, 12) from rfl) | exact (show _ = some (24, 1) from rfl)) (by rfl) (by rfl) ?_)
            |(refine st_build2 (by rfl) (by rfl) (by rfl) (by rfl) (by first | exact D_len _ _ | (simp; done)) (by first | exact D_len _ _ | (simp; done)) (by rfl) ?_)
            |(refine st_build2a (by rfl) (by rfl) (by rfl) (by rfl) (by first | exact D_len _ _ | (simp; done)) (by rfl) ?_)
            |(refine st_build2b (by rfl) (by rfl) (by rfl) (by rfl) (by first | exact D_len _ _ | (simp; done)) (by rfl) ?_)
            |(refine st_build20 (by rfl) (by rfl) (by rfl) (by rfl) ?_)
            |(refine st_eq2 (by rfl) (by rfl) (by rfl) (by kernel_rfl) (by rfl) (by rfl) (by rfl) (by rfl) (by rfl) (by rfl) (by rfl) (by rfl) (by rfl) (by rfl) (by kernel_rfl) (by first | exact D_len _ _ | (simp; done)) (by first | exact D_len _ _ | (simp; done)) (by first | exact D_len _ _ | (simp; done)) (by first | exact D_len _ _ | (simp; done)) (by rfl) ?_)
            |(refine st_ne2 (by rfl) (by rfl) (by rfl) (by kernel_rfl) (by rfl) (by rfl) (by rfl) (by rfl) (by rfl) (by rfl) (by rfl) (by rfl) (by rfl) (by rfl) (by kernel_rfl) (by first | exact D_len _ _ | (simp; done)) (by first | exact D_len _ _ | (simp; done)) (by first | exact D_len _ _ | (simp; done)) (by first | exact D_len _ _ | (simp; done)) (by rfl) ?_)
            |(refine st_fieldLV (by rfl) (by first | exact (show _ = some (0, 6) from rfl) | exact (show _ = some (6, 6) from rfl) | exact (show _ = some (0, 12) from rfl) | exact (show _ = some (12, 12) from rfl) | exact (show _ = some (24, 1) from rfl)) (by first | (refine PartAt.l ?_; (first | exact D_len _ _ | (simp; done))) | (refine PartAt.r ?_ ?_ <;> (first | exact D_len _ _ | (simp; done))) | (refine PartAt.all ?_; (first | exact D_len _ _ | (simp; done)))) (by rfl) (by rfl) ?_)
            |((refine st_ldo (by rfl) ((h1).shift (by assumption)) (by rfl) (by rfl) (by first | (refine PartAt.l ?_; (first | exact D_len _ _ | (simp; done))) | (refine PartAt.r ?_ ?_ <;> (first | exact D_len _ _ | (simp; done))) | (refine PartAt.all ?_; (first | exact D_len _ _ | (simp; done)))) (by rfl) ?_))
            |refine Z01 ?_|refine Z02 ?_|refine Z17 ?_|refine Z18 ?_|refine Z19 ?_|refine Z49 ?_|refine Z50 ?_|refine Z65 ?_|refine Z77 ?_|refine Z78 ?_|refine Z79 ?_);exact Zq) ?_
          |refine Zqp (by intro _ _ _;(refine st_ldp (by rfl) (by repeat (first | apply Find.here | apply Find.there)) (by rfl) (by rfl) (by first | (refine PartAt.l ?_; (first | exact D_len _ _ | (simp; done))) | (refine PartAt.r ?_ ?_ <;> (first | exact D_len _ _ | (simp; done))) | (refine PartAt.all ?_; (first | exact D_len _ _ | (simp; done)))) (by rfl) ?_);exact Zq) ?_
          |refine Zqp (by intro _ _ _;refine st_callV (by rfl) (by rfl) (by rfl) (smulE (Kf.K2.evn2 o) (Kf.K2.evn2 o)) (fun _ _ => trivial) (by rfl) ?_;exact Zq) ?_
          |refine Zqp (by intro _ _ _;(first
            |refine Z24 ?_|refine Z25 ?_|refine Z26 ?_|refine Z27 ?_|refine Z28 ?_|refine Z67 ?_);exact Zq) ?_
          |refine Zqe (by intro _ _ _;(first
            |refine Z29 ?_|refine Z30 ?_|refine Z31 ?_|refine Z32 ?_);exact Zqq) ?_
          |refine Zqn ?_)
        refine Zq0 ?_ (by kernel_rfl)
        rw [hE2]
        repeat (first
          |refine Z01 ?_|refine Z02 ?_|refine Z03 ?_|refine Z04 ?_|refine Z05 ?_|refine Z06 ?_|refine Z07 ?_|refine Z08 ?_|refine Z09 ?_|refine Z10 ?_|refine Z11 ?_
          |refine Z12 ?_|refine Z13 ?_|refine Z14 ?_|refine Z17 ?_|refine Z18 ?_|refine Z19 ?_|refine Z24 ?_|refine Z25 ?_|refine Z26 ?_|refine Z27 ?_|refine Z28 ?_
          |refine Z29 ?_|refine Z30 ?_|refine Z31 ?_|refine Z32 ?_|refine Z49 ?_|refine Z50 ?_|refine Z51 ?_|refine Z52 ?_|refine Z53 ?_|refine Z65 ?_|refine Z67 ?_
          |refine Z77 ?_|refine Z78 ?_|refine Z79 ?_|refine Z81 fun _ => ?_|refine Z82 fun _ => ?_)
        refine st_endc2_LV (by rfl) (by rfl) (by rfl) (by repeat (first | apply Find.here | apply Find.there)) (by rfl) (by rfl) (by first | with_reducible assumption | (simp [*]; done)) fun _ hw => post_of hw SubW.nil ⟨?_, rfl⟩
        rfl
    · have he := (Kf.K2.evn2_0 hg hc).symm
      repeat (first
        |refine Z01 ?_|refine Z02 ?_|refine Z03 ?_|refine Z04 ?_|refine Z05 ?_|refine Z06 ?_|refine Z07 ?_|refine Z08 ?_|refine Z09 ?_|refine Z10 ?_|refine Z11 ?_
        |refine Z12 ?_|refine Z13 ?_|refine Z14 ?_|refine Z17 ?_|refine Z18 ?_|refine Z19 ?_|refine Z24 ?_|refine Z25 ?_|refine Z26 ?_|refine Z27 ?_|refine Z28 ?_
        |refine Z29 ?_|refine Z30 ?_|refine Z31 ?_|refine Z32 ?_|refine Z49 ?_|refine Z50 ?_|refine Z51 ?_|refine Z52 ?_|refine Z53 ?_|refine Z65 ?_|refine Z67 ?_
        |refine Z77 ?_|refine Z78 ?_|refine Z79 ?_|refine Z81 fun _ => ?_|refine Z82 fun _ => ?_)
      have hE0 := E2_congr he
      rw [hE0]
      cases hB : (Kf.K2.fsq (-x.re)).2 with
      | false =>
        rw [hB] at hT
        rw [hT]
        repeat (first
          |refine Z01 ?_|refine Z02 ?_|refine Z03 ?_|refine Z04 ?_|refine Z05 ?_|refine Z06 ?_|refine Z07 ?_|refine Z08 ?_|refine Z09 ?_|refine Z10 ?_|refine Z11 ?_
          |refine Z12 ?_|refine Z13 ?_|refine Z14 ?_|refine Z17 ?_|refine Z18 ?_|refine Z19 ?_|refine Z24 ?_|refine Z25 ?_|refine Z26 ?_|refine Z27 ?_|refine Z28 ?_
          |refine Z29 ?_|refine Z30 ?_|refine Z31 ?_|refine Z32 ?_|refine Z49 ?_|refine Z50 ?_|refine Z51 ?_|refine Z52 ?_|refine Z53 ?_|refine Z65 ?_|refine Z67 ?_
          |refine Z77 ?_|refine Z78 ?_|refine Z79 ?_|refine Z81 fun _ => ?_|refine Z82 fun _ => ?_)
        refine st_draw1 (by rfl) ?_
        repeat (first
          |refine Zqf (by intro _ _ _;(first
            
            |(refine st_fld (by rfl) (by first | exact (show _ = some (0, 6) from rfl) | exact (show _ = some (6, 6) from rfl) | exact (show _ = some (0, 12) from rfl) | exact (show _ = some (12, 12) from rfl) | exact (show _ = some (24, 1) from rfl)) (by rfl) (by rfl) ?_)
            |(refine st_build2 (by rfl) (by rfl) (by rfl) (by rfl) (by first | exact D_len _ _ | (simp; done)) (by first | exact D_len _ _ | (simp; done)) (by rfl) ?_)
            |(refine st_build2a (by rfl) (by rfl) (by rfl) (by rfl) (by first | exact D_len _ _ | (simp; done)) (by rfl) ?_)
            |(refine st_build2b (by rfl) (by rfl) (by rfl) (by rfl) (by first | exact D_len _ _ | (simp; done)) (by rfl) ?_)
            |(refine st_build20 (by rfl) (by rfl) (by rfl) (by rfl) ?_)
            |(refine st_eq2 (by rfl) (by rfl) (by rfl) (by kernel_rfl) (by rfl) (by rfl) (by rfl) (by rfl) (by rfl) (by rfl) (by rfl) (by rfl) (by rfl) (by rfl) (by kernel_rfl) (by first | exact D_len _ _ | (simp; done)) (by first | exact D_len _ _ | (simp; done)) (by first | exact D_len _ _ | (simp; done)) (by first | exact D_len _ _ | (simp; done)) (by rfl) ?_)
            |(refine st_ne2 (by rfl) (by rfl) (by rfl) (by kernel_rfl) (by rfl) (by rfl) (by rfl) (by rfl) (by rfl) (by rfl) (by rfl) (by rfl) (by rfl) (by rfl) (by kernel_rfl) (by first | exact D_len _ _ | (simp; done)) (by first | exact D_len _ _ | (simp; done)) (by first | exact D_len _ _ | (simp; done)) (by first | exact D_len _ _ | (simp; done)) (by rfl) ?_)
            |(refine st_fieldLV (by rfl) (by first | exact (show _ = some (0, 6) from rfl) | exact (show _ = some (6, 6) from rfl) | exact (show _ = some (0, 12) from rfl) | exact (show _ = some (12, 12) from rfl) | exact (show _ = some (24, 1) from rfl)) (by first | (refine PartAt.l ?_; (first | exact D_len _ _ | (simp; done))) | (refine PartAt.r ?_ ?_ <;> (first | exact D_len _ _ | (simp; done))) | (refine PartAt.all ?_; (first | exact D_len _ _ | (simp; done)))) (by rfl) (by rfl) ?_)
            |refine Z01 ?_|refine Z02 ?_|refine Z17 ?_|refine Z18 ?_|refine Z19 ?_|refine Z49 ?_|refine Z50 ?_|refine Z65 ?_|refine Z77 ?_|refine Z78 ?_|refine Z79 ?_);exact Zq) ?_
          |refine Zqp (by intro _ _ _;(refine st_ldp (by rfl) (by repeat (first | apply Find.here | apply Find.there)) (by rfl) (by rfl) (by first | (refine PartAt.l ?_; (first | exact D_len _ _ | (simp; done))) | (refine PartAt.r ?_ ?_ <;> (first | exact D_len _ _ | (simp; done))) | (refine PartAt.all ?_; (first | exact D_len _ _ | (simp; done)))) (by rfl) ?_);exact Zq) ?_
          |refine Zqp (by intro _ _ _;(first
            |refine Z24 ?_|refine Z25 ?_|refine Z26 ?_|refine Z27 ?_|refine Z28 ?_|refine Z67 ?_);exact Zq) ?_
          |refine Zqe (by intro _ _ _;(first
            |refine Z29 ?_|refine Z30 ?_|refine Z31 ?_|refine Z32 ?_);exact Zqq) ?_
          |refine Zqn ?_)
        refine Zq0 ?_ (by kernel_rfl)
        repeat (first
          |refine Z01 ?_|refine Z02 ?_|refine Z03 ?_|refine Z04 ?_|refine Z05 ?_|refine Z06 ?_|refine Z07 ?_|refine Z08 ?_|refine Z09 ?_|refine Z10 ?_|refine Z11 ?_
          |refine Z12 ?_|refine Z13 ?_|refine Z14 ?_|refine Z17 ?_|refine Z18 ?_|refine Z19 ?_|refine Z24 ?_|refine Z25 ?_|refine Z26 ?_|refine Z27 ?_|refine Z28 ?_
          |refine Z29 ?_|refine Z30 ?_|refine Z31 ?_|refine Z32 ?_|refine Z49 ?_|refine Z50 ?_|refine Z51 ?_|refine Z52 ?_|refine Z53 ?_|refine Z65 ?_|refine Z67 ?_
          |refine Z77 ?_|refine Z78 ?_|refine Z79 ?_|refine Z81 fun _ => ?_|refine Z82 fun _ => ?_)
        refine st_endc2_LV (by rfl) (by rfl) (by rfl) (by repeat (first | apply Find.here | apply Find.there)) (by rfl) (by rfl) (by first | with_reducible assumption | (simp [*]; done)) fun _ hw => post_of hw SubW.nil ⟨?_, rfl⟩
        rfl
      | true =>
        rw [hB] at hT
        rw [hT]
        have hE2 := E2_iff (Kf.K2.mul (Kf.K2.evn2 o) (Kf.K2.evn2 o)) x
        repeat (first
          |refine Z01 ?_|refine Z02 ?_|refine Z03 ?_|refine Z04 ?_|refine Z05 ?_|refine Z06 ?_|refine Z07 ?_|refine Z08 ?_|refine Z09 ?_|refine Z10 ?_|refine Z11 ?_
          |refine Z12 ?_|refine Z13 ?_|refine Z14 ?_|refine Z17 ?_|refine Z18 ?_|refine Z19 ?_|refine Z24 ?_|refine Z25 ?_|refine Z26 ?_|refine Z27 ?_|refine Z28 ?_
          |refine Z29 ?_|refine Z30 ?_|refine Z31 ?_|refine Z32 ?_|refine Z49 ?_|refine Z50 ?_|refine Z51 ?_|refine Z52 ?_|refine Z53 ?_|refine Z65 ?_|refine Z67 ?_
          |refine Z77 ?_|refine Z78 ?_|refine Z79 ?_|refine Z81 fun _ => ?_|refine Z82 fun _ => ?_)
        refine st_draw1 (by rfl) ?_
        repeat (first
          |refine Zqf (by intro _ _ _;(first
            
            |(refine st_fld (by rfl) (by first | exact (show _ = some (0, 6) from rfl) | exact (show _ = some (6, 6) from rfl) | exact (show _ = some (0, 12) from rfl) | exact (show _ = some (12, 12) from rfl) | exact (show _ = some (24, 1) from rfl)) (by rfl) (by rfl) ?_)
            |(refine st_build2 (by rfl) (by rfl) (by rfl) (by rfl) (by first | exact D_len _ _ | (simp; done)) (by first | exact D_len _ _ | (simp; done)) (by rfl) ?_)
            |(refine st_build2a (by rfl) (by rfl) (by rfl) (by rfl) (by first | exact D_len _ _ | (simp; done)) (by rfl) ?_)
            |(refine st_build2b (by rfl) (by rfl) (by rfl) (by rfl) (by first | exact D_len _ _ | (simp; done)) (by rfl) ?_)
            |(refine st_build20 (by rfl) (by rfl) (by rfl) (by rfl) ?_)
            |(refine st_eq2 (by rfl) (by rfl) (by rfl) (by kernel_rfl) (by rfl) (by rfl) (by rfl) (by rfl) (by rfl) (by rfl) (by rfl) (by rfl) (by rfl) (by rfl) (by kernel_rfl) (by first | exact D_len _ _ | (simp; done)) (by first | exact D_len _ _ | (simp; done)) (by first | exact D_len _ _ | (simp; done)) (by first | exact D_len _ _ | (simp; done)) (by rfl) ?_)
            |(refine st_ne2 (by rfl) (by rfl) (by rfl) (by kernel_rfl) (by rfl) (by rfl) (by rfl) (by rfl) (by rfl) (by rfl) (by rfl) (by rfl) (by rfl) (by rfl) (by kernel_rfl) (by first | exact D_len _ _ | (simp; done)) (by first | exact D_len _ _ | (simp; done)) (by first | exact D_len _ _ | (simp; done)) (by first | exact D_len _ _ | (simp; done)) (by rfl) ?_)
            |(refine st_fieldLV (by rfl) (by first | exact (show _ = some (0, 6) from rfl) | exact (show _ = some (6, 6) from rfl) | exact (show _ = some (0, 12) from rfl) | exact (show _ = some (12, 12) from rfl) | exact (show _ = some (24, 1) from rfl)) (by first | (refine PartAt.l ?_; (first | exact D_len _ _ | (simp; done))) | (refine PartAt.r ?_ ?_ <;> (first | exact D_len _ _ | (simp; done))) | (refine PartAt.all ?_; (first | exact D_len _ _ | (simp; done)))) (by rfl) (by rfl) ?_)
            |((refine st_ldo (by rfl) ((h1).shift (by assumption)) (by rfl) (by rfl) (by first | (refine PartAt.l ?_; (first | exact D_len _ _ | (simp; done))) | (refine PartAt.r ?_ ?_ <;> (first | exact D_len _ _ | (simp; done))) | (refine PartAt.all ?_; (first | exact D_len _ _ | (simp; done)))) (by rfl) ?_))
            |refine Z01 ?_|refine Z02 ?_|refine Z17 ?_|refine Z18 ?_|refine Z19 ?_|refine Z49 ?_|refine Z50 ?_|refine Z65 ?_|refine Z77 ?_|refine Z78 ?_|refine Z79 ?_);exact Zq) ?_
          |refine Zqp (by intro _ _ _;(refine st_ldp (by rfl) (by repeat (first | apply Find.here | apply Find.there)) (by rfl) (by rfl) (by first | (refine PartAt.l ?_; (first | exact D_len _ _ | (simp; done))) | (refine PartAt.r ?_ ?_ <;> (first | exact D_len _ _ | (simp; done))) | (refine PartAt.all ?_; (first | exact D_len _ _ | (simp; done)))) (by rfl) ?_);exact Zq) ?_
          |refine Zqp (by intro _ _ _;refine st_callV (by rfl) (by rfl) (by rfl) (smulE (Kf.K2.evn2 o) (Kf.K2.evn2 o)) (fun _ _ => trivial) (by rfl) ?_;exact Zq) ?_
          |refine Zqp (by intro _ _ _;(first
            |refine Z24 ?_|refine Z25 ?_|refine Z26 ?_|refine Z27 ?_|refine Z28 ?_|refine Z67 ?_);exact Zq) ?_
          |refine Zqe (by intro _ _ _;(first
            |refine Z29 ?_|refine Z30 ?_|refine Z31 ?_|refine Z32 ?_);exact Zqq) ?_
          |refine Zqn ?_)
        refine Zq0 ?_ (by kernel_rfl)
        rw [hE2]
        repeat (first
          |refine Z01 ?_|refine Z02 ?_|refine Z03 ?_|refine Z04 ?_|refine Z05 ?_|refine Z06 ?_|refine Z07 ?_|refine Z08 ?_|refine Z09 ?_|refine Z10 ?_|refine Z11 ?_
          |refine Z12 ?_|refine Z13 ?_|refine Z14 ?_|refine Z17 ?_|refine Z18 ?_|refine Z19 ?_|refine Z24 ?_|refine Z25 ?_|refine Z26 ?_|refine Z27 ?_|refine Z28 ?_
          |refine Z29 ?_|refine Z30 ?_|refine Z31 ?_|refine Z32 ?_|refine Z49 ?_|refine Z50 ?_|refine Z51 ?_|refine Z52 ?_|refine Z53 ?_|refine Z65 ?_|refine Z67 ?_
          |refine Z77 ?_|refine Z78 ?_|refine Z79 ?_|refine Z81 fun _ => ?_|refine Z82 fun _ => ?_)
        refine st_endc2_LV (by rfl) (by rfl) (by rfl) (by repeat (first | apply Find.here | apply Find.there)) (by rfl) (by rfl) (by first | with_reducible assumption | (simp [*]; done)) fun _ hw => post_of hw SubW.nil ⟨?_, rfl⟩
        rfl
  · rw [D6_iff] at h
    obtain ⟨o, ho⟩ : ∃ o : F2, o = ⟨s.1, x.im * hv * Kf.inv s.1⟩ := ⟨_, rfl⟩
    have hv0 := E2_mk ho
    have hT := Kf.K2.tryP_1 hs h ho
    have hsg := ssignE o
    obtain ⟨g, hg⟩ : ∃ g, g = Kf.K2.sgn o := ⟨_, rfl⟩
    rw [← hg] at hsg
    have hlo := E2_len o
    have hln := E2_len (Kf.K2.neg o)
    have hle := E2_len (Kf.K2.evn2 o)
    clear hs ho
    repeat (first
      
      |((refine st_build2 (by rfl) (by rfl) (by rfl) (by rfl) (by first | exact D_len _ _ | (simp; done)) (by first | exact D_len _ _ | (simp; done)) (by rfl) ?_; rw [hv0]))
      |(refine st_fld (by rfl) (by first | exact (show _ = some (0, 6) from rfl) | exact (show _ = some (6, 6) from rfl) | exact (show _ = some (0, 12) from rfl) | exact (show _ = some (12, 12) from rfl) | exact (show _ = some (24, 1) from rfl)) (by rfl) (by rfl) ?_)
      |((refine st_ldp (by rfl) (by repeat (first | apply Find.here | apply Find.there)) (by rfl) (by rfl) (by first | (refine PartAt.l ?_; (first | exact D_len _ _ | (simp; done))) | (refine PartAt.r ?_ ?_ <;> (first | exact D_len _ _ | (simp; done))) | (refine PartAt.all ?_; (first | exact D_len _ _ | (simp; done)))) (by rfl) ?_))
      |(refine st_build2 (by rfl) (by rfl) (by rfl) (by rfl) (by first | exact D_len _ _ | (simp; done)) (by first | exact D_len _ _ | (simp; done)) (by rfl) ?_)
      |(refine st_build2a (by rfl) (by rfl) (by rfl) (by rfl) (by first | exact D_len _ _ | (simp; done)) (by rfl) ?_)
      |(refine st_build2b (by rfl) (by rfl) (by rfl) (by rfl) (by first | exact D_len _ _ | (simp; done)) (by rfl) ?_)
      |(refine st_build20 (by rfl) (by rfl) (by rfl) (by rfl) ?_)
      |(refine st_eq2 (by rfl) (by rfl) (by rfl) (by kernel_rfl) (by rfl) (by rfl) (by rfl) (by rfl) (by rfl) (by rfl) (by rfl) (by rfl) (by rfl) (by rfl) (by kernel_rfl) (by first | exact D_len _ _ | (simp; done)) (by first | exact D_len _ _ | (simp; done)) (by first | exact D_len _ _ | (simp; done)) (by first | exact D_len _ _ | (simp; done)) (by rfl) ?_)
      |(refine st_ne2 (by rfl) (by rfl) (by rfl) (by kernel_rfl) (by rfl) (by rfl) (by rfl) (by rfl) (by rfl) (by rfl) (by rfl) (by rfl) (by rfl) (by rfl) (by kernel_rfl) (by first | exact D_len _ _ | (simp; done)) (by first | exact D_len _ _ | (simp; done)) (by first | exact D_len _ _ | (simp; done)) (by first | exact D_len _ _ | (simp; done)) (by rfl) ?_)
      |(refine st_fieldLV (by rfl) (by first | exact (show _ = some (0, 6) from rfl) | exact (show _ = some (6, 6) from rfl) | exact (show _ = some (0, 12) from rfl) | exact (show _ = some (12, 12) from rfl) | exact (show _ = some (24, 1) from rfl)) (by first | (refine PartAt.l ?_; (first | exact D_len _ _ | (simp; done))) | (refine PartAt.r ?_ ?_ <;> (first | exact D_len _ _ | (simp; done))) | (refine PartAt.all ?_; (first | exact D_len _ _ | (simp; done)))) (by rfl) (by rfl) ?_)
      |(refine st_alloc (v := LV .u64 (List.replicate 12 0)) (by rfl) (by rfl) fun _ => ?_)
      |(refine st_alloc (v := LV .u64 (List.replicate 6 0)) (by rfl) (by rfl) fun _ => ?_)
      |(refine st_callV (by rfl) (by rfl) (by rfl) (hsg) (fun _ _ => trivial) (by rfl) ?_)|(skip; fail)|refine Z01 ?_|refine Z02 ?_|refine Z03 ?_|refine Z04 ?_
      |refine Z05 ?_|refine Z06 ?_|refine Z07 ?_|refine Z08 ?_|refine Z09 ?_|refine Z10 ?_|refine Z11 ?_|refine Z12 ?_|refine Z13 ?_|refine Z14 ?_|refine Z17 ?_
      |refine Z18 ?_|refine Z19 ?_|refine Z24 ?_|refine Z25 ?_|refine Z26 ?_|refine Z27 ?_|refine Z28 ?_|refine Z29 ?_|refine Z30 ?_|refine Z31 ?_|refine Z32 ?_
      |refine Z49 ?_|refine Z50 ?_|refine Z51 ?_|refine Z52 ?_|refine Z53 ?_|refine Z65 ?_|refine Z67 ?_|refine Z77 ?_|refine Z78 ?_|refine Z79 ?_|refine Z81 fun _ => ?_
      |refine Z82 fun _ => ?_)
    refine st_cond (by rfl) (fun hc => ?_) (fun hc => ?_)
    · have he := Kf.K2.evn2_1 hg hc
      repeat (first
        |(refine st_callV (by rfl) (by rfl) (by rfl) (snegE o) (fun _ _ => trivial) (by rfl) ?_)|refine Z01 ?_|refine Z02 ?_|refine Z03 ?_|refine Z04 ?_|refine Z05 ?_
        |refine Z06 ?_|refine Z07 ?_|refine Z08 ?_|refine Z09 ?_|refine Z10 ?_|refine Z11 ?_|refine Z12 ?_|refine Z13 ?_|refine Z14 ?_|refine Z17 ?_|refine Z18 ?_
        |refine Z19 ?_|refine Z24 ?_|refine Z25 ?_|refine Z26 ?_|refine Z27 ?_|refine Z28 ?_|refine Z29 ?_|refine Z30 ?_|refine Z31 ?_|refine Z32 ?_|refine Z49 ?_
        |refine Z50 ?_|refine Z51 ?_|refine Z52 ?_|refine Z53 ?_|refine Z65 ?_|refine Z67 ?_|refine Z77 ?_|refine Z78 ?_|refine Z79 ?_|refine Z81 fun _ => ?_
        |refine Z82 fun _ => ?_)
      rw [← he]
      cases hB : s.2 with
      | false =>
        rw [hB] at hT
        rw [hT]
        repeat (first
          |refine Z01 ?_|refine Z02 ?_|refine Z03 ?_|refine Z04 ?_|refine Z05 ?_|refine Z06 ?_|refine Z07 ?_|refine Z08 ?_|refine Z09 ?_|refine Z10 ?_|refine Z11 ?_
          |refine Z12 ?_|refine Z13 ?_|refine Z14 ?_|refine Z17 ?_|refine Z18 ?_|refine Z19 ?_|refine Z24 ?_|refine Z25 ?_|refine Z26 ?_|refine Z27 ?_|refine Z28 ?_
          |refine Z29 ?_|refine Z30 ?_|refine Z31 ?_|refine Z32 ?_|refine Z49 ?_|refine Z50 ?_|refine Z51 ?_|refine Z52 ?_|refine Z53 ?_|refine Z65 ?_|refine Z67 ?_
          |refine Z77 ?_|refine Z78 ?_|refine Z79 ?_|refine Z81 fun _ => ?_|refine Z82 fun _ => ?_)
        refine st_draw1 (by rfl) ?_
        repeat (first
          |refine Zqf (by intro _ _ _;(first
            
            |(refine st_fld (by rfl) (by first | exact (show _ = some (0, 6) from rfl) | exact (show _ = some (6, 6) from rfl) | exact (show _ = some (0, 12) from rfl) | exact (show _ = some (12, 12) from rfl) | exact (show _ = some (24, 1) from rfl)) (by rfl) (by rfl) ?_)
            |(refine st_build2 (by rfl) (by rfl) (by rfl) (by rfl) (by first | exact D_len _ _ | (simp; done)) (by first | exact D_len _ _ | (simp; done)) (by rfl) ?_)
            |(refine st_build2a (by rfl) (by rfl) (by rfl) (by rfl) (by first | exact D_len _ _ | (simp; done)) (by rfl) ?_)
            |(refine st_build2b (by rfl) (by rfl) (by rfl) (by rfl) (by first | exact D_len _ _ | (simp; done)) (by rfl) ?_)
            |(refine st_build20 (by rfl) (by rfl) (by rfl) (by rfl) ?_)
            |(refine st_eq2 (by rfl) (by rfl) (by rfl) (by kernel_rfl) (by rfl) (by rfl) (by rfl) (by rfl) (by rfl) (by rfl) (by rfl) (by rfl) (by rfl) (by rfl) (by kernel_rfl) (by first | exact D_len _ _ | (simp; done)) (by first | exact D_len _ _ | (simp; done)) (by first | exact D_len _ _ | (simp; done)) (by first | exact D_len _ _ | (simp; done)) (by rfl) ?_)
            |(refine st_ne2 (by rfl) (by rfl) (by rfl) (by kernel_rfl) (by rfl) (by rfl) (by rfl) (by rfl) (by rfl) (by rfl) (by rfl) (by rfl) (by rfl) (by rfl) (by kernel_rfl) (by first | exact D_len _ _ | (simp; done)) (by first | exact D_len _ _ | (simp; done)) (by first | exact D_len _ _ | (simp; done)) (by first | exact D_len _ _ | (simp; done)) (by rfl) ?_)
            |(refine st_fieldLV (by rfl) (by first | exact (show _ = some (0, 6) from rfl) | exact (show _ = some (6, 6) from rfl) | exact (show _ = some (0, 12) from rfl) | exact (show _ = some (12, 12) from rfl) | exact (show _ = some (24, 1) from rfl)) (by first | (refine PartAt.l ?_; (first | exact D_len _ _ | (simp; done))) | (refine PartAt.r ?_ ?_ <;> (first | exact D_len _ _ | (simp; done))) | (refine PartAt.all ?_; (first | exact D_len _ _ | (simp; done)))) (by rfl) (by rfl) ?_)
            |refine Z01 ?_|refine Z02 ?_|refine Z17 ?_|refine Z18 ?_|refine Z19 ?_|refine Z49 ?_|refine Z50 ?_|refine Z65 ?_|refine Z77 ?_|refine Z78 ?_|refine Z79 ?_);exact Zq) ?_
          |refine Zqp (by intro _ _ _;(refine st_ldp (by rfl) (by repeat (first | apply Find.here | apply Find.there)) (by rfl) (by rfl) (by first | (refine PartAt.l ?_; (first | exact D_len _ _ | (simp; done))) | (refine PartAt.r ?_ ?_ <;> (first | exact D_len _ _ | (simp; done))) | (refine PartAt.all ?_; (first | exact D_len _ _ | (simp; done)))) (by rfl) ?_);exact Zq) ?_
          |refine Zqp (by intro _ _ _;(first
            |refine Z24 ?_|refine Z25 ?_|refine Z26 ?_|refine Z27 ?_|refine Z28 ?_|refine Z67 ?_);exact Zq) ?_
          |refine Zqe (by intro _ _ _;(first
            |refine Z29 ?_|refine Z30 ?_|refine Z31 ?_|refine Z32 ?_);exact Zqq) ?_
          |refine Zqn ?_)
        refine Zq0 ?_ (by kernel_rfl)
        repeat (first
          |refine Z01 ?_|refine Z02 ?_|refine Z03 ?_|refine Z04 ?_|refine Z05 ?_|refine Z06 ?_|refine Z07 ?_|refine Z08 ?_|refine Z09 ?_|refine Z10 ?_|refine Z11 ?_
          |refine Z12 ?_|refine Z13 ?_|refine Z14 ?_|refine Z17 ?_|refine Z18 ?_|refine Z19 ?_|refine Z24 ?_|refine Z25 ?_|refine Z26 ?_|refine Z27 ?_|refine Z28 ?_
          |refine Z29 ?_|refine Z30 ?_|refine Z31 ?_|refine Z32 ?_|refine Z49 ?_|refine Z50 ?_|refine Z51 ?_|refine Z52 ?_|refine Z53 ?_|refine Z65 ?_|refine Z67 ?_
          |refine Z77 ?_|refine Z78 ?_|refine Z79 ?_|refine Z81 fun _ => ?_|refine Z82 fun _ => ?_)
        refine st_endc2_LV (by rfl) (by rfl) (by rfl) (by repeat (first | apply Find.here | apply Find.there)) (by rfl) (by rfl) (by first | with_reducible assumption | (simp [*]; done)) fun _ hw => post_of hw SubW.nil ⟨?_, rfl⟩
        rfl
      | true =>
        rw [hB] at hT
        rw [hT]
        have hE2 := E2_iff (Kf.K2.mul (Kf.K2.evn2 o) (Kf.K2.evn2 o)) x
        repeat (first
          |refine Z01 ?_|refine Z02 ?_|refine Z03 ?_|refine Z04 ?_|refine Z05 ?_|refine Z06 ?_|refine Z07 ?_|refine Z08 ?_|refine Z09 ?_|refine Z10 ?_|refine Z11 ?_
          |refine Z12 ?_|refine Z13 ?_|refine Z14 ?_|refine Z17 ?_|refine Z18 ?_|refine Z19 ?_|refine Z24 ?_|refine Z25 ?_|refine Z26 ?_|refine Z27 ?_|refine Z28 ?_
          |refine Z29 ?_|refine Z30 ?_|refine Z31 ?_|refine Z32 ?_|refine Z49 ?_|refine Z50 ?_|refine Z51 ?_|refine Z52 ?_|refine Z53 ?_|refine Z65 ?_|refine Z67 ?_
          |refine Z77 ?_|refine Z78 ?_|refine Z79 ?_|refine Z81 fun _ => ?_|refine Z82 fun _ => ?_)
        refine st_draw1 (by rfl) ?_
        repeat (first
          |refine Zqf (by intro _ _ _;(first
            
            |(refine st_fld (by rfl) (by first | exact (show _ = some (0, 6) from rfl) | exact (show _ = some (6, 6) from rfl) | exact (show _ = some (0, 12) from rfl) | exact (show _ = some (12, 12) from rfl) | exact (show _ = some (24, 1) from rfl)) (by rfl) (by rfl) ?_)
            |(refine st_build2 (by rfl) (by rfl) (by rfl) (by rfl) (by first | exact D_len _ _ | (simp; done)) (by first | exact D_len _ _ | (simp; done)) (by rfl) ?_)
            |(refine st_build2a (by rfl) (by rfl) (by rfl) (by rfl) (by first | exact D_len _ _ | (simp; done)) (by rfl) ?_)
            |(refine st_build2b (by rfl) (by rfl) (by rfl) (by rfl) (by first | exact D_len _ _ | (simp; done)) (by rfl) ?_)
            |(refine st_build20 (by rfl) (by rfl) (by rfl) (by rfl) ?_)
            |(refine st_eq2 (by rfl) (by rfl) (by rfl) (by kernel_rfl) (by rfl) (by rfl) (by rfl) (by rfl) (by rfl) (by rfl) (by rfl) (by rfl) (by rfl) (by rfl) (by kernel_rfl) (by first | exact D_len _ _ | (simp; done)) (by first | exact D_len _ _ | (simp; done)) (by first | exact D_len _ _ | (simp; done)) (by first | exact D_len _ _ | (simp; done)) (by rfl) ?_)
            |(refine st_ne2 (by rfl) (by rfl) (by rfl) (by kernel_rfl) (by rfl) (by rfl) (by rfl) (by rfl) (by rfl) (by rfl) (by rfl) (by rfl) (by rfl) (by rfl) (by kernel_rfl) (by first | exact D_len _ _ | (simp; done)) (by first | exact D_len _ _ | (simp; done)) (by first | exact D_len _ _ | (simp; done)) (by first | exact D_len _ _ | (simp; done)) (by rfl) ?_)
            |(refine st_fieldLV (by rfl) (by first | exact (show _ = some (0, 6) from rfl) | exact (show _ = some (6, 6) from rfl) | exact (show _ = some (0, 12) from rfl) | exact (show _ = some (12, 12) from rfl) | exact (show _ = some (24, 1) from rfl)) (by first | (refine PartAt.l ?_; (first | exact D_len _ _ | (simp; done))) | (refine PartAt.r ?_ ?_ <;> (first | exact D_len _ _ | (simp; done))) | (refine PartAt.all ?_; (first | exact D_len _ _ | (simp; done)))) (by rfl) (by rfl) ?_)
            |((refine st_ldo (by rfl) ((h1).shift (by assumption)) (by rfl) (by rfl) (by first | (refine PartAt.l ?_; (first | exact D_len _ _ | (simp; done))) | (refine PartAt.r ?_ ?_ <;> (first | exact D_len _ _ | (simp; done))) | (refine PartAt.all ?_; (first | exact D_len _ _ | (simp; done)))) (by rfl) ?_))
            |refine Z01 ?_|refine Z02 ?_|refine Z17 ?_|refine Z18 ?_|refine Z19 ?_|refine Z49 ?_|refine Z50 ?_|refine Z65 ?_|refine Z77 ?_|refine Z78 ?_|refine Z79 ?_);exact Zq) ?_
          |refine Zqp (by intro _ _ _;(refine st_ldp (by rfl) (by repeat (first | apply Find.here | apply Find.there)) (by rfl) (by rfl) (by first | (refine PartAt.l ?_; (first | exact D_len _ _ | (simp; done))) | (refine PartAt.r ?_ ?_ <;> (first | exact D_len _ _ | (simp; done))) | (refine PartAt.all ?_; (first | exact D_len _ _ | (simp; done)))) (by rfl) ?_);exact Zq) ?_
          |refine Zqp (by intro _ _ _;refine st_callV (by rfl) (by rfl) (by rfl) (smulE (Kf.K2.evn2 o) (Kf.K2.evn2 o)) (fun _ _ => trivial) (by rfl) ?_;exact Zq) ?_
          |refine Zqp (by intro _ _ _;(first
            |refine Z24 ?_|refine Z25 ?_|refine Z26 ?_|refine Z27 ?_|refine Z28 ?_|refine Z67 ?_);exact Zq) ?_
          |refine Zqe (by intro _ _ _;(first
            |refine Z29 ?_|refine Z30 ?_|refine Z31 ?_|refine Z32 ?_);exact Zqq) ?_
          |refine Zqn ?_)
        refine Zq0 ?_ (by kernel_rfl)
        rw [hE2]
        repeat (first
          |refine Z01 ?_|refine Z02 ?_|refine Z03 ?_|refine Z04 ?_|refine Z05 ?_|refine Z06 ?_|refine Z07 ?_|refine Z08 ?_|refine Z09 ?_|refine Z10 ?_|refine Z11 ?_
          |refine Z12 ?_|refine Z13 ?_|refine Z14 ?_|refine Z17 ?_|refine Z18 ?_|refine Z19 ?_|refine Z24 ?_|refine Z25 ?_|refine Z26 ?_|refine Z27 ?_|refine Z28 ?_
          |refine Z29 ?_|refine Z30 ?_|refine Z31 ?_|refine Z32 ?_|refine Z49 ?_|refine Z50 ?_|refine Z51 ?_|refine Z52 ?_|refine Z53 ?_|refine Z65 ?_|refine Z67 ?_
          |refine Z77 ?_|refine Z78 ?_|refine Z79 ?_|refine Z81 fun _ => ?_|refine Z82 fun _ => ?_)
        refine st_endc2_LV (by rfl) (by rfl) (by rfl) (by repeat (first | apply Find.here | apply Find.there)) (by rfl) (by rfl) (by first | with_reducible assumption | (simp [*]; done)) fun _ hw => post_of hw SubW.nil ⟨?_, rfl⟩
        rfl
    · have he := (Kf.K2.evn2_0 hg hc).symm
      repeat (first
        |refine Z01 ?_|refine Z02 ?_|refine Z03 ?_|refine Z04 ?_|refine Z05 ?_|refine Z06 ?_|refine Z07 ?_|refine Z08 ?_|refine Z09 ?_|refine Z10 ?_|refine Z11 ?_
        |refine Z12 ?_|refine Z13 ?_|refine Z14 ?_|refine Z17 ?_|refine Z18 ?_|refine Z19 ?_|refine Z24 ?_|refine Z25 ?_|refine Z26 ?_|refine Z27 ?_|refine Z28 ?_
        |refine Z29 ?_|refine Z30 ?_|refine Z31 ?_|refine Z32 ?_|refine Z49 ?_|refine Z50 ?_|refine Z51 ?_|refine Z52 ?_|refine Z53 ?_|refine Z65 ?_|refine Z67 ?_
        |refine Z77 ?_|refine Z78 ?_|refine Z79 ?_|refine Z81 fun _ => ?_|refine Z82 fun _ => ?_)
      have hE0 := E2_congr he
      rw [hE0]
      cases hB : s.2 with
      | false =>
        rw [hB] at hT
        rw [hT]
        repeat (first
          |refine Z01 ?_|refine Z02 ?_|refine Z03 ?_|refine Z04 ?_|refine Z05 ?_|refine Z06 ?_|refine Z07 ?_|refine Z08 ?_|refine Z09 ?_|refine Z10 ?_|refine Z11 ?_
          |refine Z12 ?_|refine Z13 ?_|refine Z14 ?_|refine Z17 ?_|refine Z18 ?_|refine Z19 ?_|refine Z24 ?_|refine Z25 ?_|refine Z26 ?_|refine Z27 ?_|refine Z28 ?_
          |refine Z29 ?_|refine Z30 ?_|refine Z31 ?_|refine Z32 ?_|refine Z49 ?_|refine Z50 ?_|refine Z51 ?_|refine Z52 ?_|refine Z53 ?_|refine Z65 ?_|refine Z67 ?_
          |refine Z77 ?_|refine Z78 ?_|refine Z79 ?_|refine Z81 fun _ => ?_|refine Z82 fun _ => ?_)
        refine st_draw1 (by rfl) ?_
        repeat (first
          |refine Zqf (by intro _ _ _;(first
            
            |(refine st_fld (by rfl) (by first | exact (show _ = some (0, 6) from rfl) | exact (show _ = some (6, 6) from rfl) | exact (show _ = some (0, 12) from rfl) | exact (show _ = some (12, 12) from rfl) | exact (show _ = some (24, 1) from rfl)) (by rfl) (by rfl) ?_)
            |(refine st_build2 (by rfl) (by rfl) (by rfl) (by rfl) (by first | exact D_len _ _ | (simp; done)) (by first | exact D_len _ _ | (simp; done)) (by rfl) ?_)
            |(refine st_build2a (by rfl) (by rfl) (by rfl) (by rfl) (by first | exact D_len _ _ | (simp; done)) (by rfl) ?_)
            |(refine st_build2b (by rfl) (by rfl) (by rfl) (by rfl) (by first | exact D_len _ _ | (simp; done)) (by rfl) ?_)
            |(refine st_build20 (by rfl) (by rfl) (by rfl) (by rfl) ?_)
            |(refine st_eq2 (by rfl) (by rfl) (by rfl) (by kernel_rfl) (by rfl) (by rfl) (by rfl) (by rfl) (by rfl) (by rfl) (by rfl) (by rfl) (by rfl) (by rfl) (by kernel_rfl) (by first | exact D_len _ _ | (simp; done)) (by first | exact D_len _ _ | (simp; done)) (by first | exact D_len _ _ | (simp; done)) (by first | exact D_len _ _ | (simp; done)) (by rfl) ?_)
            |(refine st_ne2 (by rfl) (by rfl) (by rfl) (by kernel_rfl) (by rfl) (by rfl) (by rfl) (by rfl) (by rfl) (by rfl) (by rfl) (by rfl) (by rfl) (by rfl) (by kernel_rfl) (by first | exact D_len _ _ | (simp; done)) (by first | exact D_len _ _ | (simp; done)) (by first | exact D_len _ _ | (simp; done)) (by first | exact D_len _ _ | (simp; done)) (by rfl) ?_)
            |(refine st_fieldLV (by rfl) (by first | exact (show _ = some (0, 6) from rfl) | exact (show _ = some (6, 6) from rfl) | exact (show _ = some (0, 12) from rfl) | exact (show _ = some (12, 12) from rfl) | exact (show _ = some (24, 1) from rfl)) (by first | (refine PartAt.l ?_; (first | exact D_len _ _ | (simp; done))) | (refine PartAt.r ?_ ?_ <;> (first | exact D_len _ _ | (simp; done))) | (refine PartAt.all ?_; (first | exact D_len _ _ | (simp; done)))) (by rfl) (by rfl) ?_)
            |refine Z01 ?_|refine Z02 ?_|refine Z17 ?_|refine Z18 ?_|refine Z19 ?_|refine Z49 ?_|refine Z50 ?_|refine Z65 ?_|refine Z77 ?_|refine Z78 ?_|refine Z79 ?_);exact Zq) ?_
          |refine Zqp (by intro _ _ _;(refine st_ldp (by rfl) (by repeat (first | apply Find.here | apply Find.there)) (by rfl) (by rfl) (by first | (refine PartAt.l ?_; (first | exact D_len _ _ | (simp; done))) | (refine PartAt.r ?_ ?_ <;> (first | exact D_len _ _ | (simp; done))) | (refine PartAt.all ?_; (first | exact D_len _ _ | (simp; done)))) (by rfl) ?_);exact Zq) ?_
          |refine Zqp (by intro _ _ _;(first
            |refine Z24 ?_|refine Z25 ?_|refine Z26 ?_|refine Z27 ?_|refine Z28 ?_|refine Z67 ?_);exact Zq) ?_
          |refine Zqe (by intro _ _ _;(first
            |refine Z29 ?_|refine Z30 ?_|refine Z31 ?_|refine Z32 ?_);exact Zqq) ?_
          |refine Zqn ?_)
        refine Zq0 ?_ (by kernel_rfl)
        repeat (first
          |refine Z01 ?_|refine Z02 ?_|refine Z03 ?_|refine Z04 ?_|refine Z05 ?_|refine Z06 ?_|refine Z07 ?_|refine Z08 ?_|refine Z09 ?_|refine Z10 ?_|refine Z11 ?_
          |refine Z12 ?_|refine Z13 ?_|refine Z14 ?_|refine Z17 ?_|refine Z18 ?_|refine Z19 ?_|refine Z24 ?_|refine Z25 ?_|refine Z26 ?_|refine Z27 ?_|refine Z28 ?_
          |refine Z29 ?_|refine Z30 ?_|refine Z31 ?_|refine Z32 ?_|refine Z49 ?_|refine Z50 ?_|refine Z51 ?_|refine Z52 ?_|refine Z53 ?_|refine Z65 ?_|refine Z67 ?_
          |refine Z77 ?_|refine Z78 ?_|refine Z79 ?_|refine Z81 fun _ => ?_|refine Z82 fun _ => ?_)
        refine st_endc2_LV (by rfl) (by rfl) (by rfl) (by repeat (first | apply Find.here | apply Find.there)) (by rfl) (by rfl) (by first | with_reducible assumption | (simp [*]; done)) fun _ hw => post_of hw SubW.nil ⟨?_, rfl⟩
        rfl
      | true =>
        rw [hB] at hT
        rw [hT]
        have hE2 := E2_iff (Kf.K2.mul (Kf.K2.evn2 o) (Kf.K2.evn2 o)) x
        repeat (first
          |refine Z01 ?_|refine Z02 ?_|refine Z03 ?_|refine Z04 ?_|refine Z05 ?_|refine Z06 ?_|refine Z07 ?_|refine Z08 ?_|refine Z09 ?_|refine Z10 ?_|refine Z11 ?_
          |refine Z12 ?_|refine Z13 ?_|refine Z14 ?_|refine Z17 ?_|refine Z18 ?_|refine Z19 ?_|refine Z24 ?_|refine Z25 ?_|refine Z26 ?_|refine Z27 ?_|refine Z28 ?_
          |refine Z29 ?_|refine Z30 ?_|refine Z31 ?_|refine Z32 ?_|refine Z49 ?_|refine Z50 ?_|refine Z51 ?_|refine Z52 ?_|refine Z53 ?_|refine Z65 ?_|refine Z67 ?_
          |refine Z77 ?_|refine Z78 ?_|refine Z79 ?_|refine Z81 fun _ => ?_|refine Z82 fun _ => ?_)
        refine st_draw1 (by rfl) ?_
        repeat (first
          |refine Zqf (by intro _ _ _;(first
            
            |(refine st_fld (by rfl) (by first | exact (show _ = some (0, 6) from rfl) | exact (show _ = some (6, 6) from rfl) | exact (show _ = some (0, 12) from rfl) | exact (show _ = some (12, 12) from rfl) | exact (show _ = some (24, 1) from rfl)) (by rfl) (by rfl) ?_)
            |(refine st_build2 (by rfl) (by rfl) (by rfl) (by rfl) (by first | exact D_len _ _ | (simp; done)) (by first | exact D_len _ _ | (simp; done)) (by rfl) ?_)
            |(refine st_build2a (by rfl) (by rfl) (by rfl) (by rfl) (by first | exact D_len _ _ | (simp; done)) (by rfl) ?_)
            |(refine st_build2b (by rfl) (by rfl) (by rfl) (by rfl) (by first | exact D_len _ _ | (simp; done)) (by rfl) ?_)
            |(refine st_build20 (by rfl) (by rfl) (by rfl) (by rfl) ?_)
            |(refine st_eq2 (by rfl) (by rfl) (by rfl) (by kernel_rfl) (by rfl) (by rfl) (by rfl) (by rfl) (by rfl) (by rfl) (by rfl) (by rfl) (by rfl) (by rfl) (by kernel_rfl) (by first | exact D_len _ _ | (simp; done)) (by first | exact D_len _ _ | (simp; done)) (by first | exact D_len _ _ | (simp; done)) (by first | exact D_len _ _ | (simp; done)) (by rfl) ?_)
            |(refine st_ne2 (by rfl) (by rfl) (by rfl) (by kernel_rfl) (by rfl) (by rfl) (by rfl) (by rfl) (by rfl) (by rfl) (by rfl) (by rfl) (by rfl) (by rfl) (by kernel_rfl) (by first | exact D_len _ _ | (simp; done)) (by first | exact D_len _ _ | (simp; done)) (by first | exact D_len _ _ | (simp; done)) (by first | exact D_len _ _ | (simp; done)) (by rfl) ?_)
            |(refine st_fieldLV (by rfl) (by first | exact (show _ = some (0, 6) from rfl) | exact (show _ = some (6, 6) from rfl) | exact (show _ = some (0, 12) from rfl) | exact (show _ = some (12, 12) from rfl) | exact (show _ = some (24, 1) from rfl)) (by first | (refine PartAt.l ?_; (first | exact D_len _ _ | (simp; done))) | (refine PartAt.r ?_ ?_ <;> (first | exact D_len _ _ | (simp; done))) | (refine PartAt.all ?_; (first | exact D_len _ _ | (simp; done)))) (by rfl) (by rfl) ?_)
            |((refine st_ldo (by rfl) ((h1).shift (by assumption)) (by rfl) (by rfl) (by first | (refine PartAt.l ?_; (first | exact D_len _ _ | (simp; done))) | (refine PartAt.r ?_ ?_ <;> (first | exact D_len _ _ | (simp; done))) | (refine PartAt.all ?_; (first | exact D_len _ _ | (simp; done)))) (by rfl) ?_))
            |refine Z01 ?_|refine Z02 ?_|refine Z17 ?_|refine Z18 ?_|refine Z19 ?_|refine Z49 ?_|refine Z50 ?_|refine Z65 ?_|refine Z77 ?_|refine Z78 ?_|refine Z79 ?_);exact Zq) ?_
          |refine Zqp (by intro _ _ _;(refine st_ldp (by rfl) (by repeat (first | apply Find.here | apply Find.there)) (by rfl) (by rfl) (by first | (refine PartAt.l ?_; (first | exact D_len _ _ | (simp; done))) | (refine PartAt.r ?_ ?_ <;> (first | exact D_len _ _ | (simp; done))) | (refine PartAt.all ?_; (first | exact D_len _ _ | (simp; done)))) (by rfl) ?_);exact Zq) ?_
          |refine Zqp (by intro _ _ _;refine st_callV (by rfl) (by rfl) (by rfl) (smulE (Kf.K2.evn2 o) (Kf.K2.evn2 o)) (fun _ _ => trivial) (by rfl) ?_;exact Zq) ?_
          |refine Zqp (by intro _ _ _;(first
            |refine Z24 ?_|refine Z25 ?_|refine Z26 ?_|refine Z27 ?_|refine Z28 ?_|refine Z67 ?_);exact Zq) ?_
          |refine Zqe (by intro _ _ _;(first
            |refine Z29 ?_|refine Z30 ?_|refine Z31 ?_|refine Z32 ?_);exact Zqq) ?_
          |refine Zqn ?_)
        refine Zq0 ?_ (by kernel_rfl)
        rw [hE2]
        repeat (first
          |refine Z01 ?_|refine Z02 ?_|refine Z03 ?_|refine Z04 ?_|refine Z05 ?_|refine Z06 ?_|refine Z07 ?_|refine Z08 ?_|refine Z09 ?_|refine Z10 ?_|refine Z11 ?_
          |refine Z12 ?_|refine Z13 ?_|refine Z14 ?_|refine Z17 ?_|refine Z18 ?_|refine Z19 ?_|refine Z24 ?_|refine Z25 ?_|refine Z26 ?_|refine Z27 ?_|refine Z28 ?_
          |refine Z29 ?_|refine Z30 ?_|refine Z31 ?_|refine Z32 ?_|refine Z49 ?_|refine Z50 ?_|refine Z51 ?_|refine Z52 ?_|refine Z53 ?_|refine Z65 ?_|refine Z67 ?_
          |refine Z77 ?_|refine Z78 ?_|refine Z79 ?_|refine Z81 fun _ => ?_|refine Z82 fun _ => ?_)
        refine st_endc2_LV (by rfl) (by rfl) (by rfl) (by repeat (first | apply Find.here | apply Find.there)) (by rfl) (by rfl) (by first | with_reducible assumption | (simp [*]; done)) fun _ hw => post_of hw SubW.nil ⟨?_, rfl⟩
        rfl
end Go.Proofs.Ytfhempgkdnecnaa.L
