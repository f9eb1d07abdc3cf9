/- Roots of numbers with u: the program's walks. Conditions: as each statement says. -/
import Derived.Test.YtfhempgkdnecnaaAuto
import Derived.Test.YtfhempgkdnecnaaPerm
import Derived.Test.YtfhempgkdnecnaaMore
import Derived.Test.YtfhempgkdnecnaaProg
import Derived.Test.YtfhempgkdnecnaaNum
import Derived.Test.YtfhempgkdnecnaaLmb
import Derived.Test.YtfhempgkdnecnaaLmd
import Derived.Test.YtfhempgkdnecnaaLmk
import Derived.Test.YtfhempgkdnecnaaScope
import Derived.Test.YtfhempgkdnecnaaJoin
import Derived.Test.YtfhempgkdnecnaaLma
import Derived.Test.YtfhempgkdnecnaaLmz
import Derived.Test.YtfhempgkdnecnaaWin
import Derived.Test.YtfhempgkdnecnaaGho
import Derived.Test.YtfhempgkdnecnaaOrd
import Derived.Test.YtfhempgkdnecnaaBld
import Derived.Test.YtfhempgkdnecnaaFld
import Derived.Test.YtfhempgkdnecnaaOld
import Derived.Test.YtfhempgkdnecnaaArr
import Derived.Test.YtfhempgkdnecnaaClr
import Derived.Test.YtfhempgkdnecnaaPq
import Derived.Test.YtfhempgkdnecnaaKf
import Derived.Test.YtfhempgkdnecnaaKs
import Derived.Test.YtfhempgkdnecnaaKt
import Derived.Test.YtfhempgkdnecnaaKu
import Derived.Test.YtfhempgkdnecnaaFpa
import Derived.Test.YtfhempgkdnecnaaFpb
import Derived.Test.YtfhempgkdnecnaaFpc
import Derived.Test.YtfhempgkdnecnaaFpd
import Derived.Test.YtfhempgkdnecnaaFpe
import Derived.Test.YtfhempgkdnecnaaFpi
import Derived.Test.YtfhempgkdnecnaaFpj
import Derived.Test.YtfhempgkdnecnaaFpk
import Derived.Test.YtfhempgkdnecnaaFpl
import Derived.Test.YtfhempgkdnecnaaFpo
namespace Go.Proofs.Ytfhempgkdnecnaa.L
open Go Go.Proofs
set_option maxRecDepth 100000
attribute [local irreducible] Code.wp wpList Af bodyPost L.Go
open Num
attribute [local simp] D_len

theorem zero12 : (List.replicate 12 0 : List Nat) = E2 (Kf.K2.zero : F2) := by decide +kernel
set_option maxHeartbeats 4000000 in
theorem sqrt_spec {a b : Nat} (ha : a < W ^ 6) (hb : b < W ^ 6) : Spec Try.prog 19 [LV .u64 (D 6 a ++ D 6 b)] NoPre [] (IsV (.tuple [LV .u64 (E2 (Kf.K2.sqrtP (k2 a b)).1), .bool (Kf.K2.sqrtP (k2 a b)).2].toArray)) := by
  refine mk_spec Try.func19 rfl rfl rfl fun w _ => ?_
  have hl0 := fun x => D_len 6 x
  have hlz := E2_len (Kf.K2.zero : F2)
  have hred := sred_spec ha hb
  obtain ⟨x, hx⟩ : ∃ x : F2, x = k2 a b := ⟨_, rfl⟩
  rw [← hx] at hred ⊢
  clear hx
  have hlx := E2_len x
  have hadd : Spec Try.prog 24 [LV .u64 (D 6 (x.re * x.re).val), LV .u64 (D 6 (x.im * x.im).val)] NoPre [] (IsV (LV .u64 (D 6 (Kf.K2.norm x).val))) := fadd_spec' (x.re * x.re) (x.im * x.im)
  have hfs := fsqrtF (Kf.K2.norm x)
  obtain ⟨s, hs⟩ : ∃ s, s = Kf.K2.fsq (Kf.K2.norm x) := ⟨_, rfl⟩
  rw [← hs] at hfs
  obtain ⟨t, ht⟩ : ∃ t, t = Kf.K2.tryP x s.1 := ⟨_, rfl⟩
  have htry := fun u => try_spec u x s.1
  rw [← ht] at htry
  obtain ⟨v, hv⟩ : ∃ v, v = Kf.K2.tryP x (-s.1) := ⟨_, rfl⟩
  have htry2 := fun u => try_spec u x (-s.1)
  rw [← hv] at htry2
  have hneg := fneg_spec' s.1
  have hP0 := Kf.K2.sqrtP_0 hs
  have hP1 := Kf.K2.sqrtP_1 hs (t := t)
  have hP2 := Kf.K2.sqrtP_2 hs (t := t) (v := v)
  have hP3 := Kf.K2.sqrtP_3 hs (t := t) (v := v)
  obtain ⟨s1, s2⟩ := s
  obtain ⟨t1, t2⟩ := t
  obtain ⟨v1, v2⟩ := v
  have hlt := E2_len t1
  have hlv := E2_len v1
  simp only at *
  repeat (first
    |(refine st_alloc (v := LV .u64 (List.replicate 12 0)) (by rfl) (by rfl) fun _ => ?_)
    |(refine st_callV (by rfl) (by rfl) (by rfl) (hred) (fun _ _ => trivial) (by rfl) ?_)
    |(refine st_alloc (v := LV .u64 (List.replicate 6 0)) (by rfl) (by rfl) fun _ => ?_)|refine Z01 ?_|refine Z02 ?_|refine Z03 ?_|refine Z04 ?_|refine Z05 ?_
    |refine Z06 ?_|refine Z07 ?_|refine Z08 ?_|refine Z09 ?_|refine Z10 ?_|refine Z11 ?_|refine Z12 ?_|refine Z13 ?_|refine Z14 ?_|refine Z19 ?_|refine Z24 ?_
    |refine Z25 ?_|refine Z26 ?_|refine Z27 ?_|refine Z28 ?_|refine Z29 ?_|refine Z30 ?_|refine Z31 ?_|refine Z32 ?_|refine Z48 ?_|refine Z54 ?_|refine Z65 ?_
    |refine Z67 ?_|refine Z81 fun _ => ?_|refine Z82 fun _ => ?_)
  refine R.st_perm [0, 1, 2, 3, 4, 5, 6, 7, 8, 9, 10, 11, 12, 13, 14, 15, 16, 17] (by rfl) ?_
  repeat (first
    |refine R.Zpf (by rfl)
      (by intro _ _ _;(first
      
      |(refine st_fld (by rfl) (by first | exact (show _ = some (0, 6) from rfl) | exact (show _ = some (6, 6) from rfl) | exact (show _ = some (0, 12) from rfl) | exact (show _ = some (12, 12) from rfl) | exact (show _ = some (24, 1) from rfl)) (by rfl) (by rfl) ?_)
      |(refine st_build2 (by rfl) (by rfl) (by rfl) (by rfl) (by first | exact D_len _ _ | (simp; done)) (by first | exact D_len _ _ | (simp; done)) (by rfl) ?_)
      |(refine st_build2a (by rfl) (by rfl) (by rfl) (by rfl) (by first | exact D_len _ _ | (simp; done)) (by rfl) ?_)
      |(refine st_build2b (by rfl) (by rfl) (by rfl) (by rfl) (by first | exact D_len _ _ | (simp; done)) (by rfl) ?_)
      |(refine st_build20 (by rfl) (by rfl) (by rfl) (by rfl) ?_)
      |(refine st_eq2 (by rfl) (by rfl) (by rfl) (by kernel_rfl) (by rfl) (by rfl) (by rfl) (by rfl) (by rfl) (by rfl) (by rfl) (by rfl) (by rfl) (by rfl) (by kernel_rfl) (by first | exact D_len _ _ | (simp; done)) (by first | exact D_len _ _ | (simp; done)) (by first | exact D_len _ _ | (simp; done)) (by first | exact D_len _ _ | (simp; done)) (by rfl) ?_)
      |(refine st_ne2 (by rfl) (by rfl) (by rfl) (by kernel_rfl) (by rfl) (by rfl) (by rfl) (by rfl) (by rfl) (by rfl) (by rfl) (by rfl) (by rfl) (by rfl) (by kernel_rfl) (by first | exact D_len _ _ | (simp; done)) (by first | exact D_len _ _ | (simp; done)) (by first | exact D_len _ _ | (simp; done)) (by first | exact D_len _ _ | (simp; done)) (by rfl) ?_)
      |(refine st_fieldLV (by rfl) (by first | exact (show _ = some (0, 6) from rfl) | exact (show _ = some (6, 6) from rfl) | exact (show _ = some (0, 12) from rfl) | exact (show _ = some (12, 12) from rfl) | exact (show _ = some (24, 1) from rfl)) (by first | (refine PartAt.l ?_; (first | exact D_len _ _ | (simp; done))) | (refine PartAt.r ?_ ?_ <;> (first | exact D_len _ _ | (simp; done))) | (refine PartAt.all ?_; (first | exact D_len _ _ | (simp; done)))) (by rfl) (by rfl) ?_)
      |refine Z01 ?_|refine Z02 ?_|refine Z19 ?_|refine Z48 ?_|refine Z54 ?_|refine Z65 ?_);exact Zq) ?_
    |refine R.Zpp (by rfl)
      (by intro _ _ _;(first
      |refine Z24 ?_|refine Z25 ?_|refine Z26 ?_|refine Z27 ?_|refine Z28 ?_|refine Z67 ?_);exact Zq) ?_
    |refine R.Zpp (by rfl)
      (by intro _ _ _;(refine st_ldp (by rfl) (by repeat (first | apply Find.here | apply Find.there)) (by rfl) (by rfl) (by first | (refine PartAt.l ?_; (first | exact D_len _ _ | (simp; done))) | (refine PartAt.r ?_ ?_ <;> (first | exact D_len _ _ | (simp; done))) | (refine PartAt.all ?_; (first | exact D_len _ _ | (simp; done)))) (by rfl) ?_);exact Zq) ?_
    |refine R.Zpp (by rfl)
      (by intro _ _ _;refine st_callV (by rfl) (by rfl) (by rfl) (fmul_spec' x.re x.re) (fun _ _ => trivial) (by rfl) ?_;exact Zq) ?_
    |refine R.Zpp (by rfl)
      (by intro _ _ _;refine st_callV (by rfl) (by rfl) (by rfl) (fmul_spec' x.im x.im) (fun _ _ => trivial) (by rfl) ?_;exact Zq) ?_
    |refine R.Zpp (by rfl)
      (by intro _ _ _;refine st_callV (by rfl) (by rfl) (by rfl) (hadd) (fun _ _ => trivial) (by rfl) ?_;exact Zq) ?_
    |refine R.Zpp (by rfl)
      (by intro _ _ _;refine st_callV (by rfl) (by rfl) (by rfl) (hfs) (fun _ _ => trivial) (by rfl) ?_;exact Zq) ?_
    |refine R.Zps (by rfl)
      (by intro _ _ _;(first
      |refine Z29 ?_|refine Z30 ?_|refine Z31 ?_|refine Z32 ?_);exact Zqq) ?_
    |refine R.Zpb (by rfl)
      (by intro _ _ _;refine st_alloc (v := LV .u64 (List.replicate 6 0)) (by rfl) (by rfl) fun _ => ?_;exact R.Zpbx) fun _ => ?_
    |refine R.Zpn (by rfl)
      (by intro _ _ _;(first
      |refine Z81 fun _ => ?_|refine Z82 fun _ => ?_);exact R.Zpx) fun _ => ?_
    |refine R.Zpo (by rfl) ?_)
  refine R.Zp0 ?_
  clear hfs hadd hred
  cases s2 with
  | false =>
    rw [hP0 rfl]
    repeat (first
      |((refine st_build20 (k := .u64) (z := List.replicate 12 0) (by rfl) (by rfl) (by rfl) (by rfl) ?_; rw [zero12]))|refine Z01 ?_|refine Z02 ?_|refine Z03 ?_
      |refine Z04 ?_|refine Z05 ?_|refine Z06 ?_|refine Z07 ?_|refine Z08 ?_|refine Z09 ?_|refine Z10 ?_|refine Z11 ?_|refine Z12 ?_|refine Z13 ?_|refine Z14 ?_
      |refine Z19 ?_|refine Z24 ?_|refine Z25 ?_|refine Z26 ?_|refine Z27 ?_|refine Z28 ?_|refine Z29 ?_|refine Z30 ?_|refine Z31 ?_|refine Z32 ?_|refine Z48 ?_
      |refine Z54 ?_|refine Z65 ?_|refine Z67 ?_|refine Z81 fun _ => ?_|refine Z82 fun _ => ?_)
    refine st_endc2_LV (by rfl) (by rfl) (by rfl) (by repeat (first | apply Find.here | apply Find.there)) (by rfl) (by rfl) (by first | with_reducible assumption | (simp [*]; done)) fun _ hw => post_of hw SubW.nil ⟨?_, rfl⟩
    rfl
  | true =>
    cases t2 with
    | true =>
      rw [hP1 rfl ht rfl]
      clear hP0 hP1 hP2 hP3 hs ht hv
      repeat (first
        |(refine st_alloc (v := LV .u64 (List.replicate 12 0)) (by rfl) (by rfl) fun _ => ?_)
        |(refine st_callV (by rfl) (by rfl) (by rfl) (htry _) (HasB.own (by repeat (first | apply Find.here | apply Find.there))) (by rfl) ?_)|refine Z01 ?_|refine Z02 ?_
        |refine Z03 ?_|refine Z04 ?_|refine Z05 ?_|refine Z06 ?_|refine Z07 ?_|refine Z08 ?_|refine Z09 ?_|refine Z10 ?_|refine Z11 ?_|refine Z12 ?_|refine Z13 ?_
        |refine Z14 ?_|refine Z19 ?_|refine Z24 ?_|refine Z25 ?_|refine Z26 ?_|refine Z27 ?_|refine Z28 ?_|refine Z29 ?_|refine Z30 ?_|refine Z31 ?_|refine Z32 ?_
        |refine Z48 ?_|refine Z54 ?_|refine Z65 ?_|refine Z67 ?_|refine Z81 fun _ => ?_|refine Z82 fun _ => ?_)
      refine st_endc2_LV (by rfl) (by rfl) (by rfl) (by repeat (first | apply Find.here | apply Find.there)) (by rfl) (by rfl) (by first | with_reducible assumption | (simp [*]; done)) fun _ hw => post_of hw SubW.nil ⟨?_, rfl⟩
      rfl
    | false =>
      cases v2 with
      | true =>
        rw [hP2 rfl ht rfl hv rfl]
        clear hP0 hP1 hP2 hP3 hs ht hv
        repeat (first
          |(refine st_alloc (v := LV .u64 (List.replicate 12 0)) (by rfl) (by rfl) fun _ => ?_)
          |(refine st_callV (by rfl) (by rfl) (by rfl) (htry _) (HasB.own (by repeat (first | apply Find.here | apply Find.there))) (by rfl) ?_)
          |(refine st_callV (by rfl) (by rfl) (by rfl) (hneg) (fun _ _ => trivial) (by rfl) ?_)
          |(refine st_callV (by rfl) (by rfl) (by rfl) (htry2 _) (HasB.own (by repeat (first | apply Find.here | apply Find.there))) (by rfl) ?_)|refine Z01 ?_
          |refine Z02 ?_|refine Z03 ?_|refine Z04 ?_|refine Z05 ?_|refine Z06 ?_|refine Z07 ?_|refine Z08 ?_|refine Z09 ?_|refine Z10 ?_|refine Z11 ?_|refine Z12 ?_
          |refine Z13 ?_|refine Z14 ?_|refine Z19 ?_|refine Z24 ?_|refine Z25 ?_|refine Z26 ?_|refine Z27 ?_|refine Z28 ?_|refine Z29 ?_|refine Z30 ?_|refine Z31 ?_
          |refine Z32 ?_|refine Z48 ?_|refine Z54 ?_|refine Z65 ?_|refine Z67 ?_|refine Z81 fun _ => ?_|refine Z82 fun _ => ?_)
        refine st_endc2_LV (by rfl) (by rfl) (by rfl) (by repeat (first | apply Find.here | apply Find.there)) (by rfl) (by rfl) (by first | with_reducible assumption | (simp [*]; done)) fun _ hw => post_of hw SubW.nil ⟨?_, rfl⟩
        rfl
      | false =>
        rw [hP3 rfl ht rfl hv rfl]
        clear hP0 hP1 hP2 hP3 hs ht hv
        repeat (first
          |(refine st_alloc (v := LV .u64 (List.replicate 12 0)) (by rfl) (by rfl) fun _ => ?_)
          |(refine st_callV (by rfl) (by rfl) (by rfl) (htry _) (HasB.own (by repeat (first | apply Find.here | apply Find.there))) (by rfl) ?_)
          |(refine st_callV (by rfl) (by rfl) (by rfl) (hneg) (fun _ _ => trivial) (by rfl) ?_)
          |(refine st_callV (by rfl) (by rfl) (by rfl) (htry2 _) (HasB.own (by repeat (first | apply Find.here | apply Find.there))) (by rfl) ?_)
          |((refine st_build20 (k := .u64) (z := List.replicate 12 0) (by rfl) (by rfl) (by rfl) (by rfl) ?_; rw [zero12]))|refine Z01 ?_|refine Z02 ?_|refine Z03 ?_
          |refine Z04 ?_|refine Z05 ?_|refine Z06 ?_|refine Z07 ?_|refine Z08 ?_|refine Z09 ?_|refine Z10 ?_|refine Z11 ?_|refine Z12 ?_|refine Z13 ?_|refine Z14 ?_
          |refine Z19 ?_|refine Z24 ?_|refine Z25 ?_|refine Z26 ?_|refine Z27 ?_|refine Z28 ?_|refine Z29 ?_|refine Z30 ?_|refine Z31 ?_|refine Z32 ?_|refine Z48 ?_
          |refine Z54 ?_|refine Z65 ?_|refine Z67 ?_|refine Z81 fun _ => ?_|refine Z82 fun _ => ?_)
        refine st_endc2_LV (by rfl) (by rfl) (by rfl) (by repeat (first | apply Find.here | apply Find.there)) (by rfl) (by rfl) (by first | with_reducible assumption | (simp [*]; done)) fun _ hw => post_of hw SubW.nil ⟨?_, rfl⟩
        rfl
theorem sqrtE (x : F2) : Spec Try.prog 19 [LV .u64 (E2 x)] NoPre [] (IsV (.tuple [LV .u64 (E2 (Kf.K2.sqrtP x).1), .bool (Kf.K2.sqrtP x).2].toArray)) := by
  have := sqrt_spec (val_lt x.re) (val_lt x.im); rwa [k2_val] at this
theorem is_spec {a b : Nat} (ha : a < W ^ 6) (hb : b < W ^ 6) : Spec Try.prog 21 [LV .u64 (D 6 a ++ D 6 b)] NoPre [] (IsV (.bool (Kf.K2.isq2 (k2 a b)))) := by
  refine mk_spec Try.func21 rfl rfl rfl fun w _ => ?_
  have hl0 := fun x => D_len 6 x
  have hs := sqrt_spec ha hb
  have hi : Kf.K2.isq2 (k2 a b) = (Kf.K2.sqrtP (k2 a b)).2 := Kf.K2.isq2_def _
  rw [hi]
  generalize Kf.K2.sqrtP (k2 a b) = r at hs
  clear hi
  obtain ⟨r1, r2⟩ := r
  have hlr := E2_len r1
  simp only at *
  repeat (first
    |(refine st_alloc (v := LV .u64 (List.replicate 12 0)) (by rfl) (by rfl) fun _ => ?_)
    |(refine st_callV (by rfl) (by rfl) (by rfl) (hs) (fun _ _ => trivial) (by rfl) ?_)|refine Z01 ?_|refine Z02 ?_|refine Z03 ?_|refine Z04 ?_|refine Z05 ?_
    |refine Z06 ?_|refine Z07 ?_|refine Z08 ?_|refine Z09 ?_|refine Z10 ?_|refine Z11 ?_|refine Z12 ?_|refine Z13 ?_|refine Z14 ?_|refine Z19 ?_|refine Z24 ?_
    |refine Z25 ?_|refine Z26 ?_|refine Z27 ?_|refine Z28 ?_|refine Z29 ?_|refine Z30 ?_|refine Z31 ?_|refine Z32 ?_|refine Z67 ?_|refine Z81 fun _ => ?_
    |refine Z82 fun _ => ?_)
  refine Ze1 fun _ hw => post_of hw SubW.nil ⟨?_, rfl⟩
  rfl
theorem isE (x : F2) : Spec Try.prog 21 [LV .u64 (E2 x)] NoPre [] (IsV (.bool (Kf.K2.isq2 x))) := by
  have := is_spec (val_lt x.re) (val_lt x.im); rwa [k2_val] at this
theorem fis_spec {a : Nat} (ha : a < W ^ 6) : Spec Try.prog 26 [LV .u64 (D 6 a)] NoPre [] (IsV (.bool (Kf.isq (kp a)))) := by
  refine mk_spec Try.func26 rfl rfl rfl fun w _ => ?_
  have hl0 := fun x => D_len 6 x
  have hs := fsqrt_spec ha
  rw [← Kf.K2.fsq_2]
  generalize Kf.K2.fsq (kp a) = r at hs
  obtain ⟨r1, r2⟩ := r
  simp only at *
  repeat (first
    |(refine st_alloc (v := LV .u64 (List.replicate 6 0)) (by rfl) (by rfl) fun _ => ?_)
    |(refine st_callV (by rfl) (by rfl) (by rfl) (hs) (fun _ _ => trivial) (by rfl) ?_)|refine Z01 ?_|refine Z02 ?_|refine Z03 ?_|refine Z04 ?_|refine Z05 ?_
    |refine Z06 ?_|refine Z07 ?_|refine Z08 ?_|refine Z09 ?_|refine Z10 ?_|refine Z11 ?_|refine Z12 ?_|refine Z13 ?_|refine Z14 ?_|refine Z19 ?_|refine Z24 ?_
    |refine Z25 ?_|refine Z26 ?_|refine Z27 ?_|refine Z28 ?_|refine Z29 ?_|refine Z30 ?_|refine Z31 ?_|refine Z32 ?_|refine Z67 ?_|refine Z81 fun _ => ?_
    |refine Z82 fun _ => ?_)
  refine Ze1 fun _ hw => post_of hw SubW.nil ⟨?_, rfl⟩
  rfl
theorem bigE (x : F2) : Spec Try.prog 28 [LV .u64 (E2 x)] NoPre [] (IsV (.bool (big2 x))) := by
  have := sbig_spec (val_lt x.re) (val_lt x.im); rwa [k2_val] at this
end Go.Proofs.Ytfhempgkdnecnaa.L
