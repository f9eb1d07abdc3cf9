/- What the proof of the statement about H2cParts stands on, part F. Conditions: as each statement says. -/
import Derived.Test.YtbpmbdlgmmabcaaH2cPartsE
import Derived.Below
import Derived.KernelRfl
import Derived.Laws.Externs
import Derived.Laws.Strings
import Derived.Laws.StructEq
import Derived.Orders
import Derived.ProofKit
import Derived.Scope
import Derived.Tactics
import Derived.Test.YtbpmbdlgmmabcaaProg
import Derived.WalkKit
namespace Go.Proofs.Ytbpmbdlgmmabcaa.L
open Go Go.Proofs
set_option maxRecDepth 100000
attribute [local irreducible] Code.wp wpList Af bodyPost L.Go
open Num
attribute [local simp] D_len
set_option maxHeartbeats 8000000 in
theorem gadd_spec {a b e f a' b' e' f' : Nat} (ha : a < W ^ 6) (hb : b < W ^ 6) (he : e < W ^ 6) (hf : f < W ^ 6) (i : Bool) (ha' : a' < W ^ 6) (hb' : b' < W ^ 6) (he' : e' < W ^ 6) (hf' : f' < W ^ 6) (j : Bool) :
    Spec Try.prog 41 [G4 a b e f i, G4 a' b' e' f' j] NoPre [] (IsV (GV (Kf.K2.pa (ptv (k2 a b) (k2 e f) i) (ptv (k2 a' b') (k2 e' f') j)))) := by
  refine mk_spec Try.func41 rfl rfl rfl fun w _ => ?_
  have hl0 := fun x => D_len 6 x
  have hle := fun x : F2 => E2_len x
  have h1 := gred_spec ha hb he hf i
  have h2 := gred_spec ha' hb' he' hf' j
  generalize ptv (k2 a b) (k2 e f) i = P at h1 ⊢
  generalize ptv (k2 a' b') (k2 e' f') j = Q at h2 ⊢
  obtain ⟨x1, y1, i1, ex1, ey1, ei1⟩ : ∃ x y i, x = gx P ∧ y = gy P ∧ i = gi P := ⟨_, _, _, rfl, rfl, rfl⟩
  obtain ⟨x2, y2, i2, ex2, ey2, ei2⟩ : ∃ x y i, x = gx Q ∧ y = gy Q ∧ i = gi Q := ⟨_, _, _, rfl, rfl, rfl⟩
  have g1 : GV P = GE x1 y1 i1 := by rw [ex1, ey1, ei1]
  have g2 : GV Q = GE x2 y2 i2 := by rw [ex2, ey2, ei2]
  rw [g1] at h1
  rw [g2] at h2
  repeat (first|(refine st_alloc (E := 38) (v := GL (List.replicate 24 0) false) (by kernel_rfl) (by rfl) fun _ => ?_)|refine Z01 ?_|refine Z02 ?_|refine Z03 ?_|refine Z04 ?_|refine Z05 ?_|refine Z06 ?_|refine Z07 ?_|refine Z08 ?_|refine Z09 ?_|refine Z10 ?_|refine Z11 ?_|refine Z12 ?_|refine Z13 ?_|refine Z14 ?_|refine Z24 ?_|refine Z25 ?_|refine Z26 ?_|refine Z27 ?_|refine Z28 ?_|refine Z29 ?_|refine Z30 ?_|refine Z31 ?_|refine Z32 ?_|refine Z49 ?_|refine Z50 ?_|refine Z51 ?_|refine Z52 ?_|refine Z53 ?_|refine Z65 ?_|refine Z67 ?_|refine Z77 ?_|refine Z78 ?_|refine Z79 ?_|refine Z81 fun _ => ?_|refine Z82 fun _ => ?_)
  refine R.st_perm [0, 1, 2, 3, 4, 5] (by rfl) ?_
  repeat (first|refine R.Zpf (by rfl)
      (by intro _ _ _;(first|refine Z01 ?_|refine Z02 ?_|refine Z49 ?_|refine Z50 ?_|refine Z65 ?_|refine Z77 ?_|refine Z78 ?_|refine Z79 ?_);exact Zq) ?_|refine R.Zpp (by rfl)
      (by intro _ _ _;(first|refine Z24 ?_|refine Z25 ?_|refine Z26 ?_|refine Z27 ?_|refine Z28 ?_|refine Z67 ?_);exact Zq) ?_|refine R.Zpp (by rfl)
      (by intro _ _ _;refine st_load_GL (m := 24) (by rfl) (by repeat first|apply Find.here|apply Find.there) (by rfl) (by rfl) (by first|with_reducible assumption|simp) (by rfl) ?_;exact Zq) ?_|refine R.Zpp (by rfl)
      (by intro _ _ _;refine st_callV (by rfl) (by rfl) (by rfl) (h1) (fun _ _ => trivial) (by rfl) ?_;exact Zq) ?_|refine R.Zpp (by rfl)
      (by intro _ _ _;refine st_callV (by rfl) (by rfl) (by rfl) (h2) (fun _ _ => trivial) (by rfl) ?_;exact Zq) ?_|refine R.Zps (by rfl)
      (by intro _ _ _;(first|refine Z29 ?_|refine Z30 ?_|refine Z31 ?_|refine Z32 ?_);exact Zqq) ?_|refine R.Zps (by rfl)
      (by intro _ _ _;refine st_store_GL (m := 24) (by rfl) (by rfl) (by repeat first|apply Find.here|apply Find.there) (by rfl) (by first|with_reducible assumption|simp) (by first|with_reducible assumption|simp) ?_;exact Zqq) ?_|refine R.Zpn (by rfl)
      (by intro _ _ _;(first|refine Z81 fun _ => ?_|refine Z82 fun _ => ?_);exact R.Zpx) fun _ => ?_|refine R.Zpo (by rfl) ?_)
  refine R.Zp0 ?_
  clear h1 h2 g1
  cases P with
  | none =>
    cases (show i1 = true from ei1)
    rw [show Kf.K2.pa none Q = Q from rfl, g2]
    repeat (first|(refine st_alloc (v := LV .u64 (List.replicate 12 0)) (by rfl) (by rfl) fun _ => ?_)|(refine st_ldbG (by rfl) (by repeat first|apply Find.here|apply Find.there) (by rfl) (by first|with_reducible assumption|simp) (by rfl) ?_)|(refine st_fld (by rfl) (by first | exact (show _ = some (0, 6) from rfl) | exact (show _ = some (6, 6) from rfl) | exact (show _ = some (0, 12) from rfl) | exact (show _ = some (12, 12) from rfl) | exact (show _ = some (24, 1) from rfl)) (by rfl) (by rfl) ?_)|((refine st_ldp (by rfl) (by repeat first|apply Find.here|apply Find.there) (by rfl) (by rfl) (by first | (refine PartAt.l ?_; (simp; done)) | (refine PartAt.r ?_ ?_ <;> (simp; done)) | (refine PartAt.all ?_; (simp; done))) (by rfl) ?_))|(refine st_build2 (by rfl) (by rfl) (by rfl) (by rfl) (by simp; done) (by simp; done) (by rfl) ?_)|(refine st_eq2 (by rfl) (by rfl) (by rfl) (by kernel_rfl) (by rfl) (by rfl) (by rfl) (by rfl) (by rfl) (by rfl) (by rfl) (by rfl) (by rfl) (by rfl) (by kernel_rfl) (by simp; done) (by simp; done) (by simp; done) (by simp; done) (by rfl) ?_)|(refine st_ne2 (by rfl) (by rfl) (by rfl) (by kernel_rfl) (by rfl) (by rfl) (by rfl) (by rfl) (by rfl) (by rfl) (by rfl) (by rfl) (by rfl) (by rfl) (by kernel_rfl) (by simp; done) (by simp; done) (by simp; done) (by simp; done) (by rfl) ?_)|(refine st_load_GL (m := 24) (by rfl) (by repeat first|apply Find.here|apply Find.there) (by rfl) (by rfl) (by first|with_reducible assumption|simp) (by rfl) ?_)|(refine st_store_GL (m := 24) (by rfl) (by rfl) (by repeat first|apply Find.here|apply Find.there) (by rfl) (by first|with_reducible assumption|simp) (by first|with_reducible assumption|simp) ?_)|refine Z01 ?_|refine Z02 ?_|refine Z03 ?_|refine Z04 ?_|refine Z05 ?_|refine Z06 ?_|refine Z07 ?_|refine Z08 ?_|refine Z09 ?_|refine Z10 ?_|refine Z11 ?_|refine Z12 ?_|refine Z13 ?_|refine Z14 ?_|refine Z24 ?_|refine Z25 ?_|refine Z26 ?_|refine Z27 ?_|refine Z28 ?_|refine Z29 ?_|refine Z30 ?_|refine Z31 ?_|refine Z32 ?_|refine Z49 ?_|refine Z50 ?_|refine Z51 ?_|refine Z52 ?_|refine Z53 ?_|refine Z65 ?_|refine Z67 ?_|refine Z77 ?_|refine Z78 ?_|refine Z79 ?_|refine Z81 fun _ => ?_|refine Z82 fun _ => ?_)
    refine st_endc_GL (m := 24) (by rfl) (by rfl) (by repeat first|apply Find.here|apply Find.there) (by rfl) (by rfl) (by first|with_reducible assumption|simp) fun _ hw => post_of hw SubW.nil ⟨?_, rfl⟩
    rfl
  | some q1 =>
    obtain ⟨a1, b1⟩ := q1
    cases (show x1 = a1 from ex1)
    cases (show y1 = b1 from ey1)
    cases (show i1 = false from ei1)
    clear ex1 ey1 ei1 g2
    cases Q with
    | none =>
      cases (show i2 = true from ei2)
      rw [Kf.K2.pa_none_right, GV_some]
      repeat (first|(refine st_alloc (v := LV .u64 (List.replicate 12 0)) (by rfl) (by rfl) fun _ => ?_)|(refine st_ldbG (by rfl) (by repeat first|apply Find.here|apply Find.there) (by rfl) (by first|with_reducible assumption|simp) (by rfl) ?_)|(refine st_fld (by rfl) (by first | exact (show _ = some (0, 6) from rfl) | exact (show _ = some (6, 6) from rfl) | exact (show _ = some (0, 12) from rfl) | exact (show _ = some (12, 12) from rfl) | exact (show _ = some (24, 1) from rfl)) (by rfl) (by rfl) ?_)|((refine st_ldp (by rfl) (by repeat first|apply Find.here|apply Find.there) (by rfl) (by rfl) (by first | (refine PartAt.l ?_; (simp; done)) | (refine PartAt.r ?_ ?_ <;> (simp; done)) | (refine PartAt.all ?_; (simp; done))) (by rfl) ?_))|(refine st_build2 (by rfl) (by rfl) (by rfl) (by rfl) (by simp; done) (by simp; done) (by rfl) ?_)|(refine st_eq2 (by rfl) (by rfl) (by rfl) (by kernel_rfl) (by rfl) (by rfl) (by rfl) (by rfl) (by rfl) (by rfl) (by rfl) (by rfl) (by rfl) (by rfl) (by kernel_rfl) (by simp; done) (by simp; done) (by simp; done) (by simp; done) (by rfl) ?_)|(refine st_ne2 (by rfl) (by rfl) (by rfl) (by kernel_rfl) (by rfl) (by rfl) (by rfl) (by rfl) (by rfl) (by rfl) (by rfl) (by rfl) (by rfl) (by rfl) (by kernel_rfl) (by simp; done) (by simp; done) (by simp; done) (by simp; done) (by rfl) ?_)|(refine st_load_GL (m := 24) (by rfl) (by repeat first|apply Find.here|apply Find.there) (by rfl) (by rfl) (by first|with_reducible assumption|simp) (by rfl) ?_)|(refine st_store_GL (m := 24) (by rfl) (by rfl) (by repeat first|apply Find.here|apply Find.there) (by rfl) (by first|with_reducible assumption|simp) (by first|with_reducible assumption|simp) ?_)|refine Z01 ?_|refine Z02 ?_|refine Z03 ?_|refine Z04 ?_|refine Z05 ?_|refine Z06 ?_|refine Z07 ?_|refine Z08 ?_|refine Z09 ?_|refine Z10 ?_|refine Z11 ?_|refine Z12 ?_|refine Z13 ?_|refine Z14 ?_|refine Z24 ?_|refine Z25 ?_|refine Z26 ?_|refine Z27 ?_|refine Z28 ?_|refine Z29 ?_|refine Z30 ?_|refine Z31 ?_|refine Z32 ?_|refine Z49 ?_|refine Z50 ?_|refine Z51 ?_|refine Z52 ?_|refine Z53 ?_|refine Z65 ?_|refine Z67 ?_|refine Z77 ?_|refine Z78 ?_|refine Z79 ?_|refine Z81 fun _ => ?_|refine Z82 fun _ => ?_)
      refine st_endc_GL (m := 24) (by rfl) (by rfl) (by repeat first|apply Find.here|apply Find.there) (by rfl) (by rfl) (by first|with_reducible assumption|simp) fun _ hw => post_of hw SubW.nil ⟨?_, rfl⟩
      rfl
    | some q2 =>
      obtain ⟨a2, b2⟩ := q2
      cases (show x2 = a2 from ex2)
      cases (show y2 = b2 from ey2)
      cases (show i2 = false from ei2)
      clear ex2 ey2 ei2
      by_cases hx : x1 = x2
      · by_cases hy : y1 = y2 ∧ y1 ≠ Kf.K2.zero
        · have hpa : Kf.K2.pa (some (x1, y1)) (some (x2, y2)) = some (Kf.K2.cx (Kf.K2.tang x1 y1) x1 x2, Kf.K2.cy (Kf.K2.tang x1 y1) x1 y1 x2) := by
            show (if x1 = x2 then if y1 = y2 ∧ y1 ≠ Kf.K2.zero then _ else _ else _) = _
            rw [if_pos hx, if_pos hy]
          rw [hpa, GV_some]
          obtain ⟨hy1, hy2⟩ := hy
          subst hx
          subst hy1
          have m1 := smulE x1 x1
          have m2 := saddE (Kf.K2.mul x1 x1) (Kf.K2.mul x1 x1)
          have m3 := saddE (Kf.K2.add (Kf.K2.mul x1 x1) (Kf.K2.mul x1 x1)) (Kf.K2.mul x1 x1)
          have m4 := saddE y1 y1
          rw [Kf.K2.tang, Kf.K2.q3]
          clear hpa
          generalize Kf.K2.add (Kf.K2.add (Kf.K2.mul x1 x1) (Kf.K2.mul x1 x1)) (Kf.K2.mul x1 x1) = u at m3 ⊢
          generalize Kf.K2.add (Kf.K2.mul x1 x1) (Kf.K2.mul x1 x1) = u1 at m2 m3
          generalize Kf.K2.mul x1 x1 = u2 at m1 m2 m3
          generalize Kf.K2.add y1 y1 = v at m4 ⊢
          repeat (first|((refine st_ne2v (hr := E2_same _) (by rfl) (by rfl) (by rfl) (by kernel_rfl) (by rfl) (by rfl) (by rfl) (by rfl) (by rfl) (by rfl) (by rfl) (by rfl) (by rfl) (by rfl) (by kernel_rfl) (by simp; done) (by simp; done) (by simp; done) (by simp; done) (by rfl) ?_))|((refine st_eq2v (hr := E2_diff hy2) (by rfl) (by rfl) (by rfl) (by kernel_rfl) (by rfl) (by rfl) (by rfl) (by rfl) (by rfl) (by rfl) (by rfl) (by rfl) (by rfl) (by rfl) (by kernel_rfl) (by simp; done) (by simp; done) (by simp; done) (by simp; done) (by rfl) ?_))|((refine st_build20 (k := .u64) (z := List.replicate 12 0) (by rfl) (by rfl) (by rfl) (by rfl) ?_; rw [zero12]))|(refine st_alloc (v := LV .u64 (List.replicate 12 0)) (by rfl) (by rfl) fun _ => ?_)|(refine st_ldbG (by rfl) (by repeat first|apply Find.here|apply Find.there) (by rfl) (by first|with_reducible assumption|simp) (by rfl) ?_)|(refine st_fld (by rfl) (by first | exact (show _ = some (0, 6) from rfl) | exact (show _ = some (6, 6) from rfl) | exact (show _ = some (0, 12) from rfl) | exact (show _ = some (12, 12) from rfl) | exact (show _ = some (24, 1) from rfl)) (by rfl) (by rfl) ?_)|((refine st_ldp (by rfl) (by repeat first|apply Find.here|apply Find.there) (by rfl) (by rfl) (by first | (refine PartAt.l ?_; (simp; done)) | (refine PartAt.r ?_ ?_ <;> (simp; done)) | (refine PartAt.all ?_; (simp; done))) (by rfl) ?_))|(refine st_build2 (by rfl) (by rfl) (by rfl) (by rfl) (by simp; done) (by simp; done) (by rfl) ?_)|(refine st_eq2 (by rfl) (by rfl) (by rfl) (by kernel_rfl) (by rfl) (by rfl) (by rfl) (by rfl) (by rfl) (by rfl) (by rfl) (by rfl) (by rfl) (by rfl) (by kernel_rfl) (by simp; done) (by simp; done) (by simp; done) (by simp; done) (by rfl) ?_)|(refine st_ne2 (by rfl) (by rfl) (by rfl) (by kernel_rfl) (by rfl) (by rfl) (by rfl) (by rfl) (by rfl) (by rfl) (by rfl) (by rfl) (by rfl) (by rfl) (by kernel_rfl) (by simp; done) (by simp; done) (by simp; done) (by simp; done) (by rfl) ?_)|(refine st_load_GL (m := 24) (by rfl) (by repeat first|apply Find.here|apply Find.there) (by rfl) (by rfl) (by first|with_reducible assumption|simp) (by rfl) ?_)|((refine st_ldpG (by rfl) (by repeat first|apply Find.here|apply Find.there) (by rfl) (by rfl) (by first | (refine PartAt.l ?_; (simp; done)) | (refine PartAt.r ?_ ?_ <;> (simp; done)) | (refine PartAt.all ?_; (simp; done))) (by rfl) ?_))|(refine st_store_GL (m := 24) (by rfl) (by rfl) (by repeat first|apply Find.here|apply Find.there) (by rfl) (by first|with_reducible assumption|simp) (by first|with_reducible assumption|simp) ?_)|(refine st_callV (by rfl) (by rfl) (by rfl) (m1) (fun _ _ => trivial) (by rfl) ?_)|refine Z01 ?_|refine Z02 ?_|refine Z03 ?_|refine Z04 ?_|refine Z05 ?_|refine Z06 ?_|refine Z07 ?_|refine Z08 ?_|refine Z09 ?_|refine Z10 ?_|refine Z11 ?_|refine Z12 ?_|refine Z13 ?_|refine Z14 ?_|refine Z24 ?_|refine Z25 ?_|refine Z26 ?_|refine Z27 ?_|refine Z28 ?_|refine Z29 ?_|refine Z30 ?_|refine Z31 ?_|refine Z32 ?_|refine Z49 ?_|refine Z50 ?_|refine Z51 ?_|refine Z52 ?_|refine Z53 ?_|refine Z65 ?_|refine Z67 ?_|refine Z77 ?_|refine Z78 ?_|refine Z79 ?_|refine Z81 fun _ => ?_|refine Z82 fun _ => ?_)
          refine R.st_perm [0, 1, 2, 3, 4, 5, 6, 7, 8, 9, 10, 11] (by rfl) ?_
          repeat (first|refine R.Zpf (by rfl)
              (by intro _ _ _;(first|(refine st_fld (by rfl) (by first | exact (show _ = some (0, 6) from rfl) | exact (show _ = some (6, 6) from rfl) | exact (show _ = some (0, 12) from rfl) | exact (show _ = some (12, 12) from rfl) | exact (show _ = some (24, 1) from rfl)) (by rfl) (by rfl) ?_)|(refine st_build2 (by rfl) (by rfl) (by rfl) (by rfl) (by simp; done) (by simp; done) (by rfl) ?_)|(refine st_eq2 (by rfl) (by rfl) (by rfl) (by kernel_rfl) (by rfl) (by rfl) (by rfl) (by rfl) (by rfl) (by rfl) (by rfl) (by rfl) (by rfl) (by rfl) (by kernel_rfl) (by simp; done) (by simp; done) (by simp; done) (by simp; done) (by rfl) ?_)|(refine st_ne2 (by rfl) (by rfl) (by rfl) (by kernel_rfl) (by rfl) (by rfl) (by rfl) (by rfl) (by rfl) (by rfl) (by rfl) (by rfl) (by rfl) (by rfl) (by kernel_rfl) (by simp; done) (by simp; done) (by simp; done) (by simp; done) (by rfl) ?_)|refine Z01 ?_|refine Z02 ?_|refine Z49 ?_|refine Z50 ?_|refine Z65 ?_|refine Z77 ?_|refine Z78 ?_|refine Z79 ?_);exact Zq) ?_|refine R.Zpp (by rfl)
              (by intro _ _ _;(first|refine Z24 ?_|refine Z25 ?_|refine Z26 ?_|refine Z27 ?_|refine Z28 ?_|refine Z67 ?_);exact Zq) ?_|refine R.Zpp (by rfl)
              (by intro _ _ _;(refine st_ldp (by rfl) (by repeat first|apply Find.here|apply Find.there) (by rfl) (by rfl) (by first | (refine PartAt.l ?_; (simp; done)) | (refine PartAt.r ?_ ?_ <;> (simp; done)) | (refine PartAt.all ?_; (simp; done))) (by rfl) ?_);exact Zq) ?_|refine R.Zpp (by rfl)
              (by intro _ _ _;(refine st_ldpG (by rfl) (by repeat first|apply Find.here|apply Find.there) (by rfl) (by rfl) (by first | (refine PartAt.l ?_; (simp; done)) | (refine PartAt.r ?_ ?_ <;> (simp; done)) | (refine PartAt.all ?_; (simp; done))) (by rfl) ?_);exact Zq) ?_|refine R.Zpp (by rfl)
              (by intro _ _ _;refine st_callV (by rfl) (by rfl) (by rfl) (m2) (fun _ _ => trivial) (by rfl) ?_;exact Zq) ?_|refine R.Zpp (by rfl)
              (by intro _ _ _;refine st_callV (by rfl) (by rfl) (by rfl) (m3) (fun _ _ => trivial) (by rfl) ?_;exact Zq) ?_|refine R.Zpp (by rfl)
              (by intro _ _ _;refine st_callV (by rfl) (by rfl) (by rfl) (m4) (fun _ _ => trivial) (by rfl) ?_;exact Zq) ?_|refine R.Zps (by rfl)
              (by intro _ _ _;(first|refine Z29 ?_|refine Z30 ?_|refine Z31 ?_|refine Z32 ?_);exact Zqq) ?_|refine R.Zpn (by rfl)
              (by intro _ _ _;(first|refine Z81 fun _ => ?_|refine Z82 fun _ => ?_);exact R.Zpx) fun _ => ?_|refine R.Zpo (by rfl) ?_)
          refine R.Zp0 ?_
          repeat (first|refine Z01 ?_|refine Z02 ?_|refine Z03 ?_|refine Z04 ?_|refine Z05 ?_|refine Z06 ?_|refine Z07 ?_|refine Z08 ?_|refine Z09 ?_|refine Z10 ?_|refine Z11 ?_|refine Z12 ?_|refine Z13 ?_|refine Z14 ?_|refine Z24 ?_|refine Z25 ?_|refine Z26 ?_|refine Z27 ?_|refine Z28 ?_|refine Z29 ?_|refine Z30 ?_|refine Z31 ?_|refine Z32 ?_|refine Z49 ?_|refine Z50 ?_|refine Z51 ?_|refine Z52 ?_|refine Z53 ?_|refine Z65 ?_|refine Z67 ?_|refine Z77 ?_|refine Z78 ?_|refine Z79 ?_|refine Z81 fun _ => ?_|refine Z82 fun _ => ?_)
          obtain ⟨l, hl⟩ : ∃ l : F2, l = Kf.K2.mul u (Kf.K2.inv v) := ⟨_, rfl⟩
          have k1 := sinvE v
          have k2 := smulE u (Kf.K2.inv v)
          rw [← hl] at k2 ⊢
          generalize Kf.K2.inv v = vi at k1 k2
          clear hl
          have k3 := smulE l l
          have k4 := ssubE (Kf.K2.mul l l) x1
          have k5 := ssubE (Kf.K2.sub (Kf.K2.mul l l) x1) x1
          have k6 := ssubE x1 (Kf.K2.cx l x1 x1)
          have k7 := smulE l (Kf.K2.sub x1 (Kf.K2.cx l x1 x1))
          have k8 := ssubE (Kf.K2.mul l (Kf.K2.sub x1 (Kf.K2.cx l x1 x1))) y1
          rw [show Kf.K2.sub (Kf.K2.sub (Kf.K2.mul l l) x1) x1 = Kf.K2.cx l x1 x1 from rfl] at k5
          rw [show Kf.K2.sub (Kf.K2.mul l (Kf.K2.sub x1 (Kf.K2.cx l x1 x1))) y1 = Kf.K2.cy l x1 y1 x1 from rfl] at k8
          generalize Kf.K2.cy l x1 y1 x1 = yy at k8 ⊢
          generalize Kf.K2.mul l (Kf.K2.sub x1 (Kf.K2.cx l x1 x1)) = g1 at k7 k8
          generalize Kf.K2.sub x1 (Kf.K2.cx l x1 x1) = g2 at k6 k7
          generalize Kf.K2.cx l x1 x1 = xx at k5 k6 ⊢
          generalize Kf.K2.sub (Kf.K2.mul l l) x1 = g3 at k4 k5
          generalize Kf.K2.mul l l = g4 at k3 k4
          refine R.st_perm [0, 1, 2, 3, 4, 5] (by rfl) ?_
          repeat (first|refine R.Zpf (by rfl)
              (by intro _ _ _;(first|(refine st_fld (by rfl) (by first | exact (show _ = some (0, 6) from rfl) | exact (show _ = some (6, 6) from rfl) | exact (show _ = some (0, 12) from rfl) | exact (show _ = some (12, 12) from rfl) | exact (show _ = some (24, 1) from rfl)) (by rfl) (by rfl) ?_)|(refine st_build2 (by rfl) (by rfl) (by rfl) (by rfl) (by simp; done) (by simp; done) (by rfl) ?_)|(refine st_eq2 (by rfl) (by rfl) (by rfl) (by kernel_rfl) (by rfl) (by rfl) (by rfl) (by rfl) (by rfl) (by rfl) (by rfl) (by rfl) (by rfl) (by rfl) (by kernel_rfl) (by simp; done) (by simp; done) (by simp; done) (by simp; done) (by rfl) ?_)|(refine st_ne2 (by rfl) (by rfl) (by rfl) (by kernel_rfl) (by rfl) (by rfl) (by rfl) (by rfl) (by rfl) (by rfl) (by rfl) (by rfl) (by rfl) (by rfl) (by kernel_rfl) (by simp; done) (by simp; done) (by simp; done) (by simp; done) (by rfl) ?_)|refine Z01 ?_|refine Z02 ?_|refine Z49 ?_|refine Z50 ?_|refine Z65 ?_|refine Z77 ?_|refine Z78 ?_|refine Z79 ?_);exact Zq) ?_|refine R.Zpp (by rfl)
              (by intro _ _ _;(first|refine Z24 ?_|refine Z25 ?_|refine Z26 ?_|refine Z27 ?_|refine Z28 ?_|refine Z67 ?_);exact Zq) ?_|refine R.Zpp (by rfl)
              (by intro _ _ _;(refine st_ldp (by rfl) (by repeat first|apply Find.here|apply Find.there) (by rfl) (by rfl) (by first | (refine PartAt.l ?_; (simp; done)) | (refine PartAt.r ?_ ?_ <;> (simp; done)) | (refine PartAt.all ?_; (simp; done))) (by rfl) ?_);exact Zq) ?_|refine R.Zpp (by rfl)
              (by intro _ _ _;refine st_callV (by rfl) (by rfl) (by rfl) (k1) (fun _ _ => trivial) (by rfl) ?_;exact Zq) ?_|refine R.Zpp (by rfl)
              (by intro _ _ _;refine st_callV (by rfl) (by rfl) (by rfl) (k2) (fun _ _ => trivial) (by rfl) ?_;exact Zq) ?_|refine R.Zps (by rfl)
              (by intro _ _ _;(first|refine Z29 ?_|refine Z30 ?_|refine Z31 ?_|refine Z32 ?_);exact Zqq) ?_|refine R.Zpb (by rfl)
              (by intro _ _ _;refine st_alloc (v := LV .u64 (List.replicate 12 0)) (by rfl) (by rfl) fun _ => ?_;exact R.Zpbx) fun _ => ?_|refine R.Zpn (by rfl)
              (by intro _ _ _;(first|refine Z81 fun _ => ?_|refine Z82 fun _ => ?_);exact R.Zpx) fun _ => ?_|refine R.Zpo (by rfl) ?_)
          refine R.Zp0 ?_
          repeat (first|refine Z01 ?_|refine Z02 ?_|refine Z03 ?_|refine Z04 ?_|refine Z05 ?_|refine Z06 ?_|refine Z07 ?_|refine Z08 ?_|refine Z09 ?_|refine Z10 ?_|refine Z11 ?_|refine Z12 ?_|refine Z13 ?_|refine Z14 ?_|refine Z24 ?_|refine Z25 ?_|refine Z26 ?_|refine Z27 ?_|refine Z28 ?_|refine Z29 ?_|refine Z30 ?_|refine Z31 ?_|refine Z32 ?_|refine Z49 ?_|refine Z50 ?_|refine Z51 ?_|refine Z52 ?_|refine Z53 ?_|refine Z65 ?_|refine Z67 ?_|refine Z77 ?_|refine Z78 ?_|refine Z79 ?_|refine Z81 fun _ => ?_|refine Z82 fun _ => ?_)
          refine R.st_perm [0, 1, 2, 3, 4, 5, 6, 7, 8, 9, 10] (by rfl) ?_
          repeat (first|refine R.Zpf (by rfl)
              (by intro _ _ _;(first|(refine st_fld (by rfl) (by first | exact (show _ = some (0, 6) from rfl) | exact (show _ = some (6, 6) from rfl) | exact (show _ = some (0, 12) from rfl) | exact (show _ = some (12, 12) from rfl) | exact (show _ = some (24, 1) from rfl)) (by rfl) (by rfl) ?_)|(refine st_build2 (by rfl) (by rfl) (by rfl) (by rfl) (by simp; done) (by simp; done) (by rfl) ?_)|(refine st_eq2 (by rfl) (by rfl) (by rfl) (by kernel_rfl) (by rfl) (by rfl) (by rfl) (by rfl) (by rfl) (by rfl) (by rfl) (by rfl) (by rfl) (by rfl) (by kernel_rfl) (by simp; done) (by simp; done) (by simp; done) (by simp; done) (by rfl) ?_)|(refine st_ne2 (by rfl) (by rfl) (by rfl) (by kernel_rfl) (by rfl) (by rfl) (by rfl) (by rfl) (by rfl) (by rfl) (by rfl) (by rfl) (by rfl) (by rfl) (by kernel_rfl) (by simp; done) (by simp; done) (by simp; done) (by simp; done) (by rfl) ?_)|refine Z01 ?_|refine Z02 ?_|refine Z49 ?_|refine Z50 ?_|refine Z65 ?_|refine Z77 ?_|refine Z78 ?_|refine Z79 ?_);exact Zq) ?_|refine R.Zpp (by rfl)
              (by intro _ _ _;(first|refine Z24 ?_|refine Z25 ?_|refine Z26 ?_|refine Z27 ?_|refine Z28 ?_|refine Z67 ?_);exact Zq) ?_|refine R.Zpp (by rfl)
              (by intro _ _ _;(refine st_ldp (by rfl) (by repeat first|apply Find.here|apply Find.there) (by rfl) (by rfl) (by first | (refine PartAt.l ?_; (simp; done)) | (refine PartAt.r ?_ ?_ <;> (simp; done)) | (refine PartAt.all ?_; (simp; done))) (by rfl) ?_);exact Zq) ?_|refine R.Zpp (by rfl)
              (by intro _ _ _;(refine st_ldpG (by rfl) (by repeat first|apply Find.here|apply Find.there) (by rfl) (by rfl) (by first | (refine PartAt.l ?_; (simp; done)) | (refine PartAt.r ?_ ?_ <;> (simp; done)) | (refine PartAt.all ?_; (simp; done))) (by rfl) ?_);exact Zq) ?_|refine R.Zpp (by rfl)
              (by intro _ _ _;refine st_callV (by rfl) (by rfl) (by rfl) (k3) (fun _ _ => trivial) (by rfl) ?_;exact Zq) ?_|refine R.Zpp (by rfl)
              (by intro _ _ _;refine st_callV (by rfl) (by rfl) (by rfl) (k4) (fun _ _ => trivial) (by rfl) ?_;exact Zq) ?_|refine R.Zpp (by rfl)
              (by intro _ _ _;refine st_callV (by rfl) (by rfl) (by rfl) (k5) (fun _ _ => trivial) (by rfl) ?_;exact Zq) ?_|refine R.Zps (by rfl)
              (by intro _ _ _;(first|refine Z29 ?_|refine Z30 ?_|refine Z31 ?_|refine Z32 ?_);exact Zqq) ?_|refine R.Zpb (by rfl)
              (by intro _ _ _;refine st_alloc (v := LV .u64 (List.replicate 12 0)) (by rfl) (by rfl) fun _ => ?_;exact R.Zpbx) fun _ => ?_|refine R.Zpn (by rfl)
              (by intro _ _ _;(first|refine Z81 fun _ => ?_|refine Z82 fun _ => ?_);exact R.Zpx) fun _ => ?_|refine R.Zpo (by rfl) ?_)
          refine R.Zp0 ?_
          repeat (first|refine Z01 ?_|refine Z02 ?_|refine Z03 ?_|refine Z04 ?_|refine Z05 ?_|refine Z06 ?_|refine Z07 ?_|refine Z08 ?_|refine Z09 ?_|refine Z10 ?_|refine Z11 ?_|refine Z12 ?_|refine Z13 ?_|refine Z14 ?_|refine Z24 ?_|refine Z25 ?_|refine Z26 ?_|refine Z27 ?_|refine Z28 ?_|refine Z29 ?_|refine Z30 ?_|refine Z31 ?_|refine Z32 ?_|refine Z49 ?_|refine Z50 ?_|refine Z51 ?_|refine Z52 ?_|refine Z53 ?_|refine Z65 ?_|refine Z67 ?_|refine Z77 ?_|refine Z78 ?_|refine Z79 ?_|refine Z81 fun _ => ?_|refine Z82 fun _ => ?_)
          refine R.st_perm [0, 1, 2, 3, 4, 5, 6, 7, 8, 9, 10, 11] (by rfl) ?_
          repeat (first|refine R.Zpf (by rfl)
              (by intro _ _ _;(first|(refine st_fld (by rfl) (by first | exact (show _ = some (0, 6) from rfl) | exact (show _ = some (6, 6) from rfl) | exact (show _ = some (0, 12) from rfl) | exact (show _ = some (12, 12) from rfl) | exact (show _ = some (24, 1) from rfl)) (by rfl) (by rfl) ?_)|(refine st_build2 (by rfl) (by rfl) (by rfl) (by rfl) (by simp; done) (by simp; done) (by rfl) ?_)|(refine st_eq2 (by rfl) (by rfl) (by rfl) (by kernel_rfl) (by rfl) (by rfl) (by rfl) (by rfl) (by rfl) (by rfl) (by rfl) (by rfl) (by rfl) (by rfl) (by kernel_rfl) (by simp; done) (by simp; done) (by simp; done) (by simp; done) (by rfl) ?_)|(refine st_ne2 (by rfl) (by rfl) (by rfl) (by kernel_rfl) (by rfl) (by rfl) (by rfl) (by rfl) (by rfl) (by rfl) (by rfl) (by rfl) (by rfl) (by rfl) (by kernel_rfl) (by simp; done) (by simp; done) (by simp; done) (by simp; done) (by rfl) ?_)|(refine st_buildG (m := 12) (by rfl) (by rfl) (by kernel_rfl) (by rfl) (by simp; done) (by simp; done) (by rfl) ?_)|refine Z01 ?_|refine Z02 ?_|refine Z49 ?_|refine Z50 ?_|refine Z65 ?_|refine Z77 ?_|refine Z78 ?_|refine Z79 ?_);exact Zq) ?_|refine R.Zpp (by rfl)
              (by intro _ _ _;(first|refine Z24 ?_|refine Z25 ?_|refine Z26 ?_|refine Z27 ?_|refine Z28 ?_|refine Z67 ?_);exact Zq) ?_|refine R.Zpp (by rfl)
              (by intro _ _ _;(refine st_ldp (by rfl) (by repeat first|apply Find.here|apply Find.there) (by rfl) (by rfl) (by first | (refine PartAt.l ?_; (simp; done)) | (refine PartAt.r ?_ ?_ <;> (simp; done)) | (refine PartAt.all ?_; (simp; done))) (by rfl) ?_);exact Zq) ?_|refine R.Zpp (by rfl)
              (by intro _ _ _;(refine st_ldpG (by rfl) (by repeat first|apply Find.here|apply Find.there) (by rfl) (by rfl) (by first | (refine PartAt.l ?_; (simp; done)) | (refine PartAt.r ?_ ?_ <;> (simp; done)) | (refine PartAt.all ?_; (simp; done))) (by rfl) ?_);exact Zq) ?_|refine R.Zpp (by rfl)
              (by intro _ _ _;refine st_callV (by rfl) (by rfl) (by rfl) (k6) (fun _ _ => trivial) (by rfl) ?_;exact Zq) ?_|refine R.Zpp (by rfl)
              (by intro _ _ _;refine st_callV (by rfl) (by rfl) (by rfl) (k7) (fun _ _ => trivial) (by rfl) ?_;exact Zq) ?_|refine R.Zpp (by rfl)
              (by intro _ _ _;refine st_callV (by rfl) (by rfl) (by rfl) (k8) (fun _ _ => trivial) (by rfl) ?_;exact Zq) ?_|refine R.Zps (by rfl)
              (by intro _ _ _;(first|refine Z29 ?_|refine Z30 ?_|refine Z31 ?_|refine Z32 ?_);exact Zqq) ?_|refine R.Zps (by rfl)
              (by intro _ _ _;refine st_store_GL (m := 24) (by rfl) (by rfl) (by repeat first|apply Find.here|apply Find.there) (by rfl) (by first|with_reducible assumption|simp) (by first|with_reducible assumption|simp) ?_;exact Zqq) ?_|refine R.Zpn (by rfl)
              (by intro _ _ _;(first|refine Z81 fun _ => ?_|refine Z82 fun _ => ?_);exact R.Zpx) fun _ => ?_|refine R.Zpo (by rfl) ?_)
          refine R.Zp0 ?_
          repeat (first|refine Z01 ?_|refine Z02 ?_|refine Z03 ?_|refine Z04 ?_|refine Z05 ?_|refine Z06 ?_|refine Z07 ?_|refine Z08 ?_|refine Z09 ?_|refine Z10 ?_|refine Z11 ?_|refine Z12 ?_|refine Z13 ?_|refine Z14 ?_|refine Z24 ?_|refine Z25 ?_|refine Z26 ?_|refine Z27 ?_|refine Z28 ?_|refine Z29 ?_|refine Z30 ?_|refine Z31 ?_|refine Z32 ?_|refine Z49 ?_|refine Z50 ?_|refine Z51 ?_|refine Z52 ?_|refine Z53 ?_|refine Z65 ?_|refine Z67 ?_|refine Z77 ?_|refine Z78 ?_|refine Z79 ?_|refine Z81 fun _ => ?_|refine Z82 fun _ => ?_)
          refine st_endc_GL (m := 24) (by rfl) (by rfl) (by repeat first|apply Find.here|apply Find.there) (by rfl) (by rfl) (by first|with_reducible assumption|simp) fun _ hw => post_of hw SubW.nil ⟨?_, rfl⟩
          rfl
        · have hpa : Kf.K2.pa (some (x1, y1)) (some (x2, y2)) = none := by
            show (if x1 = x2 then if y1 = y2 ∧ y1 ≠ Kf.K2.zero then _ else _ else _) = _
            rw [if_pos hx, if_neg hy]
          rw [hpa, GV_none]
          subst hx
          by_cases hy1 : y1 = y2
          · subst hy1
            have hy2 : y1 = Kf.K2.zero := Classical.not_not.1 fun h => hy ⟨rfl, h⟩
            have hz2 : (decide (D 6 y1.re.val = D 6 (Kf.K2.zero : F2).re.val) && decide (D 6 y1.im.val = D 6 (Kf.K2.zero : F2).im.val)) = true := by rw [hy2]; exact E2_same _
            repeat (first|((refine st_ne2v (hr := E2_same _) (by rfl) (by rfl) (by rfl) (by kernel_rfl) (by rfl) (by rfl) (by rfl) (by rfl) (by rfl) (by rfl) (by rfl) (by rfl) (by rfl) (by rfl) (by kernel_rfl) (by simp; done) (by simp; done) (by simp; done) (by simp; done) (by rfl) ?_))|((refine st_eq2v (hr := hz2) (by rfl) (by rfl) (by rfl) (by kernel_rfl) (by rfl) (by rfl) (by rfl) (by rfl) (by rfl) (by rfl) (by rfl) (by rfl) (by rfl) (by rfl) (by kernel_rfl) (by simp; done) (by simp; done) (by simp; done) (by simp; done) (by rfl) ?_))|((refine st_build20 (k := .u64) (z := List.replicate 12 0) (by rfl) (by rfl) (by rfl) (by rfl) ?_; rw [zero12]))|(refine st_alloc (v := LV .u64 (List.replicate 12 0)) (by rfl) (by rfl) fun _ => ?_)|(refine st_ldbG (by rfl) (by repeat first|apply Find.here|apply Find.there) (by rfl) (by first|with_reducible assumption|simp) (by rfl) ?_)|(refine st_fld (by rfl) (by first | exact (show _ = some (0, 6) from rfl) | exact (show _ = some (6, 6) from rfl) | exact (show _ = some (0, 12) from rfl) | exact (show _ = some (12, 12) from rfl) | exact (show _ = some (24, 1) from rfl)) (by rfl) (by rfl) ?_)|((refine st_ldp (by rfl) (by repeat first|apply Find.here|apply Find.there) (by rfl) (by rfl) (by first | (refine PartAt.l ?_; (simp; done)) | (refine PartAt.r ?_ ?_ <;> (simp; done)) | (refine PartAt.all ?_; (simp; done))) (by rfl) ?_))|(refine st_build2 (by rfl) (by rfl) (by rfl) (by rfl) (by simp; done) (by simp; done) (by rfl) ?_)|(refine st_eq2 (by rfl) (by rfl) (by rfl) (by kernel_rfl) (by rfl) (by rfl) (by rfl) (by rfl) (by rfl) (by rfl) (by rfl) (by rfl) (by rfl) (by rfl) (by kernel_rfl) (by simp; done) (by simp; done) (by simp; done) (by simp; done) (by rfl) ?_)|(refine st_ne2 (by rfl) (by rfl) (by rfl) (by kernel_rfl) (by rfl) (by rfl) (by rfl) (by rfl) (by rfl) (by rfl) (by rfl) (by rfl) (by rfl) (by rfl) (by kernel_rfl) (by simp; done) (by simp; done) (by simp; done) (by simp; done) (by rfl) ?_)|(refine st_load_GL (m := 24) (by rfl) (by repeat first|apply Find.here|apply Find.there) (by rfl) (by rfl) (by first|with_reducible assumption|simp) (by rfl) ?_)|((refine st_ldpG (by rfl) (by repeat first|apply Find.here|apply Find.there) (by rfl) (by rfl) (by first | (refine PartAt.l ?_; (simp; done)) | (refine PartAt.r ?_ ?_ <;> (simp; done)) | (refine PartAt.all ?_; (simp; done))) (by rfl) ?_))|((refine st_buildGi (m := 12) (by rfl) (by rfl) (by kernel_rfl) (by rfl) (by rfl) ?_; rw [zero24']))|(refine st_store_GL (m := 24) (by rfl) (by rfl) (by repeat first|apply Find.here|apply Find.there) (by rfl) (by first|with_reducible assumption|simp) (by first|with_reducible assumption|simp) ?_)|refine Z01 ?_|refine Z02 ?_|refine Z03 ?_|refine Z04 ?_|refine Z05 ?_|refine Z06 ?_|refine Z07 ?_|refine Z08 ?_|refine Z09 ?_|refine Z10 ?_|refine Z11 ?_|refine Z12 ?_|refine Z13 ?_|refine Z14 ?_|refine Z24 ?_|refine Z25 ?_|refine Z26 ?_|refine Z27 ?_|refine Z28 ?_|refine Z29 ?_|refine Z30 ?_|refine Z31 ?_|refine Z32 ?_|refine Z49 ?_|refine Z50 ?_|refine Z51 ?_|refine Z52 ?_|refine Z53 ?_|refine Z65 ?_|refine Z67 ?_|refine Z77 ?_|refine Z78 ?_|refine Z79 ?_|refine Z81 fun _ => ?_|refine Z82 fun _ => ?_)
            refine st_endc_GL (m := 24) (by rfl) (by rfl) (by repeat first|apply Find.here|apply Find.there) (by rfl) (by rfl) (by first|with_reducible assumption|simp) fun _ hw => post_of hw SubW.nil ⟨?_, rfl⟩
            rfl
          · repeat (first|((refine st_ne2v (hr := E2_same _) (by rfl) (by rfl) (by rfl) (by kernel_rfl) (by rfl) (by rfl) (by rfl) (by rfl) (by rfl) (by rfl) (by rfl) (by rfl) (by rfl) (by rfl) (by kernel_rfl) (by simp; done) (by simp; done) (by simp; done) (by simp; done) (by rfl) ?_))|((refine st_ne2v (hr := E2_diff hy1) (by rfl) (by rfl) (by rfl) (by kernel_rfl) (by rfl) (by rfl) (by rfl) (by rfl) (by rfl) (by rfl) (by rfl) (by rfl) (by rfl) (by rfl) (by kernel_rfl) (by simp; done) (by simp; done) (by simp; done) (by simp; done) (by rfl) ?_))|(refine st_alloc (v := LV .u64 (List.replicate 12 0)) (by rfl) (by rfl) fun _ => ?_)|(refine st_ldbG (by rfl) (by repeat first|apply Find.here|apply Find.there) (by rfl) (by first|with_reducible assumption|simp) (by rfl) ?_)|(refine st_fld (by rfl) (by first | exact (show _ = some (0, 6) from rfl) | exact (show _ = some (6, 6) from rfl) | exact (show _ = some (0, 12) from rfl) | exact (show _ = some (12, 12) from rfl) | exact (show _ = some (24, 1) from rfl)) (by rfl) (by rfl) ?_)|((refine st_ldp (by rfl) (by repeat first|apply Find.here|apply Find.there) (by rfl) (by rfl) (by first | (refine PartAt.l ?_; (simp; done)) | (refine PartAt.r ?_ ?_ <;> (simp; done)) | (refine PartAt.all ?_; (simp; done))) (by rfl) ?_))|(refine st_build2 (by rfl) (by rfl) (by rfl) (by rfl) (by simp; done) (by simp; done) (by rfl) ?_)|(refine st_eq2 (by rfl) (by rfl) (by rfl) (by kernel_rfl) (by rfl) (by rfl) (by rfl) (by rfl) (by rfl) (by rfl) (by rfl) (by rfl) (by rfl) (by rfl) (by kernel_rfl) (by simp; done) (by simp; done) (by simp; done) (by simp; done) (by rfl) ?_)|(refine st_ne2 (by rfl) (by rfl) (by rfl) (by kernel_rfl) (by rfl) (by rfl) (by rfl) (by rfl) (by rfl) (by rfl) (by rfl) (by rfl) (by rfl) (by rfl) (by kernel_rfl) (by simp; done) (by simp; done) (by simp; done) (by simp; done) (by rfl) ?_)|(refine st_load_GL (m := 24) (by rfl) (by repeat first|apply Find.here|apply Find.there) (by rfl) (by rfl) (by first|with_reducible assumption|simp) (by rfl) ?_)|((refine st_ldpG (by rfl) (by repeat first|apply Find.here|apply Find.there) (by rfl) (by rfl) (by first | (refine PartAt.l ?_; (simp; done)) | (refine PartAt.r ?_ ?_ <;> (simp; done)) | (refine PartAt.all ?_; (simp; done))) (by rfl) ?_))|((refine st_buildGi (m := 12) (by rfl) (by rfl) (by kernel_rfl) (by rfl) (by rfl) ?_; rw [zero24']))|(refine st_store_GL (m := 24) (by rfl) (by rfl) (by repeat first|apply Find.here|apply Find.there) (by rfl) (by first|with_reducible assumption|simp) (by first|with_reducible assumption|simp) ?_)|refine Z01 ?_|refine Z02 ?_|refine Z03 ?_|refine Z04 ?_|refine Z05 ?_|refine Z06 ?_|refine Z07 ?_|refine Z08 ?_|refine Z09 ?_|refine Z10 ?_|refine Z11 ?_|refine Z12 ?_|refine Z13 ?_|refine Z14 ?_|refine Z24 ?_|refine Z25 ?_|refine Z26 ?_|refine Z27 ?_|refine Z28 ?_|refine Z29 ?_|refine Z30 ?_|refine Z31 ?_|refine Z32 ?_|refine Z49 ?_|refine Z50 ?_|refine Z51 ?_|refine Z52 ?_|refine Z53 ?_|refine Z65 ?_|refine Z67 ?_|refine Z77 ?_|refine Z78 ?_|refine Z79 ?_|refine Z81 fun _ => ?_|refine Z82 fun _ => ?_)
            refine st_endc_GL (m := 24) (by rfl) (by rfl) (by repeat first|apply Find.here|apply Find.there) (by rfl) (by rfl) (by first|with_reducible assumption|simp) fun _ hw => post_of hw SubW.nil ⟨?_, rfl⟩
            rfl
      · have hpa : Kf.K2.pa (some (x1, y1)) (some (x2, y2)) = some (Kf.K2.cx (Kf.K2.chor x1 y1 x2 y2) x1 x2, Kf.K2.cy (Kf.K2.chor x1 y1 x2 y2) x1 y1 x2) := by
          show (if x1 = x2 then _ else _) = _
          rw [if_neg hx]
        rw [hpa, GV_some]
        have m1 := ssubE y2 y1
        have m2 := ssubE x2 x1
        rw [Kf.K2.chor]
        generalize Kf.K2.sub y2 y1 = u at m1 ⊢
        generalize Kf.K2.sub x2 x1 = v at m2 ⊢
        repeat (first|((refine st_ne2v (hr := E2_diff hx) (by rfl) (by rfl) (by rfl) (by kernel_rfl) (by rfl) (by rfl) (by rfl) (by rfl) (by rfl) (by rfl) (by rfl) (by rfl) (by rfl) (by rfl) (by kernel_rfl) (by simp; done) (by simp; done) (by simp; done) (by simp; done) (by rfl) ?_))|(refine st_alloc (v := LV .u64 (List.replicate 12 0)) (by rfl) (by rfl) fun _ => ?_)|(refine st_ldbG (by rfl) (by repeat first|apply Find.here|apply Find.there) (by rfl) (by first|with_reducible assumption|simp) (by rfl) ?_)|(refine st_fld (by rfl) (by first | exact (show _ = some (0, 6) from rfl) | exact (show _ = some (6, 6) from rfl) | exact (show _ = some (0, 12) from rfl) | exact (show _ = some (12, 12) from rfl) | exact (show _ = some (24, 1) from rfl)) (by rfl) (by rfl) ?_)|((refine st_ldp (by rfl) (by repeat first|apply Find.here|apply Find.there) (by rfl) (by rfl) (by first | (refine PartAt.l ?_; (simp; done)) | (refine PartAt.r ?_ ?_ <;> (simp; done)) | (refine PartAt.all ?_; (simp; done))) (by rfl) ?_))|(refine st_build2 (by rfl) (by rfl) (by rfl) (by rfl) (by simp; done) (by simp; done) (by rfl) ?_)|(refine st_eq2 (by rfl) (by rfl) (by rfl) (by kernel_rfl) (by rfl) (by rfl) (by rfl) (by rfl) (by rfl) (by rfl) (by rfl) (by rfl) (by rfl) (by rfl) (by kernel_rfl) (by simp; done) (by simp; done) (by simp; done) (by simp; done) (by rfl) ?_)|(refine st_ne2 (by rfl) (by rfl) (by rfl) (by kernel_rfl) (by rfl) (by rfl) (by rfl) (by rfl) (by rfl) (by rfl) (by rfl) (by rfl) (by rfl) (by rfl) (by kernel_rfl) (by simp; done) (by simp; done) (by simp; done) (by simp; done) (by rfl) ?_)|(refine st_load_GL (m := 24) (by rfl) (by repeat first|apply Find.here|apply Find.there) (by rfl) (by rfl) (by first|with_reducible assumption|simp) (by rfl) ?_)|((refine st_ldpG (by rfl) (by repeat first|apply Find.here|apply Find.there) (by rfl) (by rfl) (by first | (refine PartAt.l ?_; (simp; done)) | (refine PartAt.r ?_ ?_ <;> (simp; done)) | (refine PartAt.all ?_; (simp; done))) (by rfl) ?_))|(refine st_store_GL (m := 24) (by rfl) (by rfl) (by repeat first|apply Find.here|apply Find.there) (by rfl) (by first|with_reducible assumption|simp) (by first|with_reducible assumption|simp) ?_)|refine Z01 ?_|refine Z02 ?_|refine Z03 ?_|refine Z04 ?_|refine Z05 ?_|refine Z06 ?_|refine Z07 ?_|refine Z08 ?_|refine Z09 ?_|refine Z10 ?_|refine Z11 ?_|refine Z12 ?_|refine Z13 ?_|refine Z14 ?_|refine Z24 ?_|refine Z25 ?_|refine Z26 ?_|refine Z27 ?_|refine Z28 ?_|refine Z29 ?_|refine Z30 ?_|refine Z31 ?_|refine Z32 ?_|refine Z49 ?_|refine Z50 ?_|refine Z51 ?_|refine Z52 ?_|refine Z53 ?_|refine Z65 ?_|refine Z67 ?_|refine Z77 ?_|refine Z78 ?_|refine Z79 ?_|refine Z81 fun _ => ?_|refine Z82 fun _ => ?_)
        refine R.st_perm [0, 1, 2, 3, 4, 5, 6, 7, 8, 9, 10, 11] (by rfl) ?_
        repeat (first|refine R.Zpf (by rfl)
            (by intro _ _ _;(first|(refine st_fld (by rfl) (by first | exact (show _ = some (0, 6) from rfl) | exact (show _ = some (6, 6) from rfl) | exact (show _ = some (0, 12) from rfl) | exact (show _ = some (12, 12) from rfl) | exact (show _ = some (24, 1) from rfl)) (by rfl) (by rfl) ?_)|(refine st_build2 (by rfl) (by rfl) (by rfl) (by rfl) (by simp; done) (by simp; done) (by rfl) ?_)|(refine st_eq2 (by rfl) (by rfl) (by rfl) (by kernel_rfl) (by rfl) (by rfl) (by rfl) (by rfl) (by rfl) (by rfl) (by rfl) (by rfl) (by rfl) (by rfl) (by kernel_rfl) (by simp; done) (by simp; done) (by simp; done) (by simp; done) (by rfl) ?_)|(refine st_ne2 (by rfl) (by rfl) (by rfl) (by kernel_rfl) (by rfl) (by rfl) (by rfl) (by rfl) (by rfl) (by rfl) (by rfl) (by rfl) (by rfl) (by rfl) (by kernel_rfl) (by simp; done) (by simp; done) (by simp; done) (by simp; done) (by rfl) ?_)|refine Z01 ?_|refine Z02 ?_|refine Z49 ?_|refine Z50 ?_|refine Z65 ?_|refine Z77 ?_|refine Z78 ?_|refine Z79 ?_);exact Zq) ?_|refine R.Zpp (by rfl)
            (by intro _ _ _;(first|refine Z24 ?_|refine Z25 ?_|refine Z26 ?_|refine Z27 ?_|refine Z28 ?_|refine Z67 ?_);exact Zq) ?_|refine R.Zpp (by rfl)
            (by intro _ _ _;(refine st_ldp (by rfl) (by repeat first|apply Find.here|apply Find.there) (by rfl) (by rfl) (by first | (refine PartAt.l ?_; (simp; done)) | (refine PartAt.r ?_ ?_ <;> (simp; done)) | (refine PartAt.all ?_; (simp; done))) (by rfl) ?_);exact Zq) ?_|refine R.Zpp (by rfl)
            (by intro _ _ _;(refine st_ldpG (by rfl) (by repeat first|apply Find.here|apply Find.there) (by rfl) (by rfl) (by first | (refine PartAt.l ?_; (simp; done)) | (refine PartAt.r ?_ ?_ <;> (simp; done)) | (refine PartAt.all ?_; (simp; done))) (by rfl) ?_);exact Zq) ?_|refine R.Zpp (by rfl)
            (by intro _ _ _;refine st_callV (by rfl) (by rfl) (by rfl) (m1) (fun _ _ => trivial) (by rfl) ?_;exact Zq) ?_|refine R.Zpp (by rfl)
            (by intro _ _ _;refine st_callV (by rfl) (by rfl) (by rfl) (m2) (fun _ _ => trivial) (by rfl) ?_;exact Zq) ?_|refine R.Zps (by rfl)
            (by intro _ _ _;(first|refine Z29 ?_|refine Z30 ?_|refine Z31 ?_|refine Z32 ?_);exact Zqq) ?_|refine R.Zpn (by rfl)
            (by intro _ _ _;(first|refine Z81 fun _ => ?_|refine Z82 fun _ => ?_);exact R.Zpx) fun _ => ?_|refine R.Zpo (by rfl) ?_)
        refine R.Zp0 ?_
        repeat (first|refine Z01 ?_|refine Z02 ?_|refine Z03 ?_|refine Z04 ?_|refine Z05 ?_|refine Z06 ?_|refine Z07 ?_|refine Z08 ?_|refine Z09 ?_|refine Z10 ?_|refine Z11 ?_|refine Z12 ?_|refine Z13 ?_|refine Z14 ?_|refine Z24 ?_|refine Z25 ?_|refine Z26 ?_|refine Z27 ?_|refine Z28 ?_|refine Z29 ?_|refine Z30 ?_|refine Z31 ?_|refine Z32 ?_|refine Z49 ?_|refine Z50 ?_|refine Z51 ?_|refine Z52 ?_|refine Z53 ?_|refine Z65 ?_|refine Z67 ?_|refine Z77 ?_|refine Z78 ?_|refine Z79 ?_|refine Z81 fun _ => ?_|refine Z82 fun _ => ?_)
        obtain ⟨l, hl⟩ : ∃ l : F2, l = Kf.K2.mul u (Kf.K2.inv v) := ⟨_, rfl⟩
        have k1 := sinvE v
        have k2 := smulE u (Kf.K2.inv v)
        rw [← hl] at k2 ⊢
        generalize Kf.K2.inv v = vi at k1 k2
        clear hl
        have k3 := smulE l l
        have k4 := ssubE (Kf.K2.mul l l) x1
        have k5 := ssubE (Kf.K2.sub (Kf.K2.mul l l) x1) x2
        have k6 := ssubE x1 (Kf.K2.cx l x1 x2)
        have k7 := smulE l (Kf.K2.sub x1 (Kf.K2.cx l x1 x2))
        have k8 := ssubE (Kf.K2.mul l (Kf.K2.sub x1 (Kf.K2.cx l x1 x2))) y1
        rw [show Kf.K2.sub (Kf.K2.sub (Kf.K2.mul l l) x1) x2 = Kf.K2.cx l x1 x2 from rfl] at k5
        rw [show Kf.K2.sub (Kf.K2.mul l (Kf.K2.sub x1 (Kf.K2.cx l x1 x2))) y1 = Kf.K2.cy l x1 y1 x2 from rfl] at k8
        generalize Kf.K2.cy l x1 y1 x2 = yy at k8 ⊢
        generalize Kf.K2.mul l (Kf.K2.sub x1 (Kf.K2.cx l x1 x2)) = g1 at k7 k8
        generalize Kf.K2.sub x1 (Kf.K2.cx l x1 x2) = g2 at k6 k7
        generalize Kf.K2.cx l x1 x2 = xx at k5 k6 ⊢
        generalize Kf.K2.sub (Kf.K2.mul l l) x1 = g3 at k4 k5
        generalize Kf.K2.mul l l = g4 at k3 k4
        refine R.st_perm [0, 1, 2, 3, 4, 5] (by rfl) ?_
        repeat (first|refine R.Zpf (by rfl)
            (by intro _ _ _;(first|(refine st_fld (by rfl) (by first | exact (show _ = some (0, 6) from rfl) | exact (show _ = some (6, 6) from rfl) | exact (show _ = some (0, 12) from rfl) | exact (show _ = some (12, 12) from rfl) | exact (show _ = some (24, 1) from rfl)) (by rfl) (by rfl) ?_)|(refine st_build2 (by rfl) (by rfl) (by rfl) (by rfl) (by simp; done) (by simp; done) (by rfl) ?_)|(refine st_eq2 (by rfl) (by rfl) (by rfl) (by kernel_rfl) (by rfl) (by rfl) (by rfl) (by rfl) (by rfl) (by rfl) (by rfl) (by rfl) (by rfl) (by rfl) (by kernel_rfl) (by simp; done) (by simp; done) (by simp; done) (by simp; done) (by rfl) ?_)|(refine st_ne2 (by rfl) (by rfl) (by rfl) (by kernel_rfl) (by rfl) (by rfl) (by rfl) (by rfl) (by rfl) (by rfl) (by rfl) (by rfl) (by rfl) (by rfl) (by kernel_rfl) (by simp; done) (by simp; done) (by simp; done) (by simp; done) (by rfl) ?_)|refine Z01 ?_|refine Z02 ?_|refine Z49 ?_|refine Z50 ?_|refine Z65 ?_|refine Z77 ?_|refine Z78 ?_|refine Z79 ?_);exact Zq) ?_|refine R.Zpp (by rfl)
            (by intro _ _ _;(first|refine Z24 ?_|refine Z25 ?_|refine Z26 ?_|refine Z27 ?_|refine Z28 ?_|refine Z67 ?_);exact Zq) ?_|refine R.Zpp (by rfl)
            (by intro _ _ _;(refine st_ldp (by rfl) (by repeat first|apply Find.here|apply Find.there) (by rfl) (by rfl) (by first | (refine PartAt.l ?_; (simp; done)) | (refine PartAt.r ?_ ?_ <;> (simp; done)) | (refine PartAt.all ?_; (simp; done))) (by rfl) ?_);exact Zq) ?_|refine R.Zpp (by rfl)
            (by intro _ _ _;refine st_callV (by rfl) (by rfl) (by rfl) (k1) (fun _ _ => trivial) (by rfl) ?_;exact Zq) ?_|refine R.Zpp (by rfl)
            (by intro _ _ _;refine st_callV (by rfl) (by rfl) (by rfl) (k2) (fun _ _ => trivial) (by rfl) ?_;exact Zq) ?_|refine R.Zps (by rfl)
            (by intro _ _ _;(first|refine Z29 ?_|refine Z30 ?_|refine Z31 ?_|refine Z32 ?_);exact Zqq) ?_|refine R.Zpb (by rfl)
            (by intro _ _ _;refine st_alloc (v := LV .u64 (List.replicate 12 0)) (by rfl) (by rfl) fun _ => ?_;exact R.Zpbx) fun _ => ?_|refine R.Zpn (by rfl)
            (by intro _ _ _;(first|refine Z81 fun _ => ?_|refine Z82 fun _ => ?_);exact R.Zpx) fun _ => ?_|refine R.Zpo (by rfl) ?_)
        refine R.Zp0 ?_
        repeat (first|refine Z01 ?_|refine Z02 ?_|refine Z03 ?_|refine Z04 ?_|refine Z05 ?_|refine Z06 ?_|refine Z07 ?_|refine Z08 ?_|refine Z09 ?_|refine Z10 ?_|refine Z11 ?_|refine Z12 ?_|refine Z13 ?_|refine Z14 ?_|refine Z24 ?_|refine Z25 ?_|refine Z26 ?_|refine Z27 ?_|refine Z28 ?_|refine Z29 ?_|refine Z30 ?_|refine Z31 ?_|refine Z32 ?_|refine Z49 ?_|refine Z50 ?_|refine Z51 ?_|refine Z52 ?_|refine Z53 ?_|refine Z65 ?_|refine Z67 ?_|refine Z77 ?_|refine Z78 ?_|refine Z79 ?_|refine Z81 fun _ => ?_|refine Z82 fun _ => ?_)
        refine R.st_perm [0, 1, 2, 3, 4, 5, 6, 7, 8, 9, 10] (by rfl) ?_
        repeat (first|refine R.Zpf (by rfl)
            (by intro _ _ _;(first|(refine st_fld (by rfl) (by first | exact (show _ = some (0, 6) from rfl) | exact (show _ = some (6, 6) from rfl) | exact (show _ = some (0, 12) from rfl) | exact (show _ = some (12, 12) from rfl) | exact (show _ = some (24, 1) from rfl)) (by rfl) (by rfl) ?_)|(refine st_build2 (by rfl) (by rfl) (by rfl) (by rfl) (by simp; done) (by simp; done) (by rfl) ?_)|(refine st_eq2 (by rfl) (by rfl) (by rfl) (by kernel_rfl) (by rfl) (by rfl) (by rfl) (by rfl) (by rfl) (by rfl) (by rfl) (by rfl) (by rfl) (by rfl) (by kernel_rfl) (by simp; done) (by simp; done) (by simp; done) (by simp; done) (by rfl) ?_)|(refine st_ne2 (by rfl) (by rfl) (by rfl) (by kernel_rfl) (by rfl) (by rfl) (by rfl) (by rfl) (by rfl) (by rfl) (by rfl) (by rfl) (by rfl) (by rfl) (by kernel_rfl) (by simp; done) (by simp; done) (by simp; done) (by simp; done) (by rfl) ?_)|refine Z01 ?_|refine Z02 ?_|refine Z49 ?_|refine Z50 ?_|refine Z65 ?_|refine Z77 ?_|refine Z78 ?_|refine Z79 ?_);exact Zq) ?_|refine R.Zpp (by rfl)
            (by intro _ _ _;(first|refine Z24 ?_|refine Z25 ?_|refine Z26 ?_|refine Z27 ?_|refine Z28 ?_|refine Z67 ?_);exact Zq) ?_|refine R.Zpp (by rfl)
            (by intro _ _ _;(refine st_ldp (by rfl) (by repeat first|apply Find.here|apply Find.there) (by rfl) (by rfl) (by first | (refine PartAt.l ?_; (simp; done)) | (refine PartAt.r ?_ ?_ <;> (simp; done)) | (refine PartAt.all ?_; (simp; done))) (by rfl) ?_);exact Zq) ?_|refine R.Zpp (by rfl)
            (by intro _ _ _;(refine st_ldpG (by rfl) (by repeat first|apply Find.here|apply Find.there) (by rfl) (by rfl) (by first | (refine PartAt.l ?_; (simp; done)) | (refine PartAt.r ?_ ?_ <;> (simp; done)) | (refine PartAt.all ?_; (simp; done))) (by rfl) ?_);exact Zq) ?_|refine R.Zpp (by rfl)
            (by intro _ _ _;refine st_callV (by rfl) (by rfl) (by rfl) (k3) (fun _ _ => trivial) (by rfl) ?_;exact Zq) ?_|refine R.Zpp (by rfl)
            (by intro _ _ _;refine st_callV (by rfl) (by rfl) (by rfl) (k4) (fun _ _ => trivial) (by rfl) ?_;exact Zq) ?_|refine R.Zpp (by rfl)
            (by intro _ _ _;refine st_callV (by rfl) (by rfl) (by rfl) (k5) (fun _ _ => trivial) (by rfl) ?_;exact Zq) ?_|refine R.Zps (by rfl)
            (by intro _ _ _;(first|refine Z29 ?_|refine Z30 ?_|refine Z31 ?_|refine Z32 ?_);exact Zqq) ?_|refine R.Zpb (by rfl)
            (by intro _ _ _;refine st_alloc (v := LV .u64 (List.replicate 12 0)) (by rfl) (by rfl) fun _ => ?_;exact R.Zpbx) fun _ => ?_|refine R.Zpn (by rfl)
            (by intro _ _ _;(first|refine Z81 fun _ => ?_|refine Z82 fun _ => ?_);exact R.Zpx) fun _ => ?_|refine R.Zpo (by rfl) ?_)
        refine R.Zp0 ?_
        repeat (first|refine Z01 ?_|refine Z02 ?_|refine Z03 ?_|refine Z04 ?_|refine Z05 ?_|refine Z06 ?_|refine Z07 ?_|refine Z08 ?_|refine Z09 ?_|refine Z10 ?_|refine Z11 ?_|refine Z12 ?_|refine Z13 ?_|refine Z14 ?_|refine Z24 ?_|refine Z25 ?_|refine Z26 ?_|refine Z27 ?_|refine Z28 ?_|refine Z29 ?_|refine Z30 ?_|refine Z31 ?_|refine Z32 ?_|refine Z49 ?_|refine Z50 ?_|refine Z51 ?_|refine Z52 ?_|refine Z53 ?_|refine Z65 ?_|refine Z67 ?_|refine Z77 ?_|refine Z78 ?_|refine Z79 ?_|refine Z81 fun _ => ?_|refine Z82 fun _ => ?_)
        refine R.st_perm [0, 1, 2, 3, 4, 5, 6, 7, 8, 9, 10, 11] (by rfl) ?_
        repeat (first|refine R.Zpf (by rfl)
            (by intro _ _ _;(first|(refine st_fld (by rfl) (by first | exact (show _ = some (0, 6) from rfl) | exact (show _ = some (6, 6) from rfl) | exact (show _ = some (0, 12) from rfl) | exact (show _ = some (12, 12) from rfl) | exact (show _ = some (24, 1) from rfl)) (by rfl) (by rfl) ?_)|(refine st_build2 (by rfl) (by rfl) (by rfl) (by rfl) (by simp; done) (by simp; done) (by rfl) ?_)|(refine st_eq2 (by rfl) (by rfl) (by rfl) (by kernel_rfl) (by rfl) (by rfl) (by rfl) (by rfl) (by rfl) (by rfl) (by rfl) (by rfl) (by rfl) (by rfl) (by kernel_rfl) (by simp; done) (by simp; done) (by simp; done) (by simp; done) (by rfl) ?_)|(refine st_ne2 (by rfl) (by rfl) (by rfl) (by kernel_rfl) (by rfl) (by rfl) (by rfl) (by rfl) (by rfl) (by rfl) (by rfl) (by rfl) (by rfl) (by rfl) (by kernel_rfl) (by simp; done) (by simp; done) (by simp; done) (by simp; done) (by rfl) ?_)|(refine st_buildG (m := 12) (by rfl) (by rfl) (by kernel_rfl) (by rfl) (by simp; done) (by simp; done) (by rfl) ?_)|refine Z01 ?_|refine Z02 ?_|refine Z49 ?_|refine Z50 ?_|refine Z65 ?_|refine Z77 ?_|refine Z78 ?_|refine Z79 ?_);exact Zq) ?_|refine R.Zpp (by rfl)
            (by intro _ _ _;(first|refine Z24 ?_|refine Z25 ?_|refine Z26 ?_|refine Z27 ?_|refine Z28 ?_|refine Z67 ?_);exact Zq) ?_|refine R.Zpp (by rfl)
            (by intro _ _ _;(refine st_ldp (by rfl) (by repeat first|apply Find.here|apply Find.there) (by rfl) (by rfl) (by first | (refine PartAt.l ?_; (simp; done)) | (refine PartAt.r ?_ ?_ <;> (simp; done)) | (refine PartAt.all ?_; (simp; done))) (by rfl) ?_);exact Zq) ?_|refine R.Zpp (by rfl)
            (by intro _ _ _;(refine st_ldpG (by rfl) (by repeat first|apply Find.here|apply Find.there) (by rfl) (by rfl) (by first | (refine PartAt.l ?_; (simp; done)) | (refine PartAt.r ?_ ?_ <;> (simp; done)) | (refine PartAt.all ?_; (simp; done))) (by rfl) ?_);exact Zq) ?_|refine R.Zpp (by rfl)
            (by intro _ _ _;refine st_callV (by rfl) (by rfl) (by rfl) (k6) (fun _ _ => trivial) (by rfl) ?_;exact Zq) ?_|refine R.Zpp (by rfl)
            (by intro _ _ _;refine st_callV (by rfl) (by rfl) (by rfl) (k7) (fun _ _ => trivial) (by rfl) ?_;exact Zq) ?_|refine R.Zpp (by rfl)
            (by intro _ _ _;refine st_callV (by rfl) (by rfl) (by rfl) (k8) (fun _ _ => trivial) (by rfl) ?_;exact Zq) ?_|refine R.Zps (by rfl)
            (by intro _ _ _;(first|refine Z29 ?_|refine Z30 ?_|refine Z31 ?_|refine Z32 ?_);exact Zqq) ?_|refine R.Zps (by rfl)
            (by intro _ _ _;refine st_store_GL (m := 24) (by rfl) (by rfl) (by repeat first|apply Find.here|apply Find.there) (by rfl) (by first|with_reducible assumption|simp) (by first|with_reducible assumption|simp) ?_;exact Zqq) ?_|refine R.Zpn (by rfl)
            (by intro _ _ _;(first|refine Z81 fun _ => ?_|refine Z82 fun _ => ?_);exact R.Zpx) fun _ => ?_|refine R.Zpo (by rfl) ?_)
        refine R.Zp0 ?_
        repeat (first|refine Z01 ?_|refine Z02 ?_|refine Z03 ?_|refine Z04 ?_|refine Z05 ?_|refine Z06 ?_|refine Z07 ?_|refine Z08 ?_|refine Z09 ?_|refine Z10 ?_|refine Z11 ?_|refine Z12 ?_|refine Z13 ?_|refine Z14 ?_|refine Z24 ?_|refine Z25 ?_|refine Z26 ?_|refine Z27 ?_|refine Z28 ?_|refine Z29 ?_|refine Z30 ?_|refine Z31 ?_|refine Z32 ?_|refine Z49 ?_|refine Z50 ?_|refine Z51 ?_|refine Z52 ?_|refine Z53 ?_|refine Z65 ?_|refine Z67 ?_|refine Z77 ?_|refine Z78 ?_|refine Z79 ?_|refine Z81 fun _ => ?_|refine Z82 fun _ => ?_)
        refine st_endc_GL (m := 24) (by rfl) (by rfl) (by repeat first|apply Find.here|apply Find.there) (by rfl) (by rfl) (by first|with_reducible assumption|simp) fun _ hw => post_of hw SubW.nil ⟨?_, rfl⟩
        rfl
end Go.Proofs.Ytbpmbdlgmmabcaa.L
namespace Go.Proofs.Ytbpmbdlgmmabcaa.L
open Go Go.Proofs
set_option maxRecDepth 100000
attribute [local irreducible] Code.wp wpList Af bodyPost L.Go
open Num
attribute [local simp] D_len
abbrev J36 (x y z : F2) : Value := LV .u64 (E2 x ++ (E2 y ++ E2 z))
theorem zero36 : (List.replicate 36 0 : List Nat) = E2 (Kf.K2.zero : F2) ++ (E2 (Kf.K2.zero : F2) ++ E2 (Kf.K2.zero : F2)) := by decide +kernel
theorem J36_len (x y z : F2) : (E2 x ++ (E2 y ++ E2 z)).length = 36 := by simp
set_option maxHeartbeats 8000000 in
theorem twice_spec (x y z : F2) : Spec Try.prog 127 [J36 x y z] NoPre [] (IsV (J36 (Kf.K2.tX x y) (Kf.K2.tY x y) (Kf.K2.tZ y z))) := by
  refine mk_spec Try.func127 rfl rfl rfl fun w _ => ?_
  have hl0 := fun x => D_len 6 x
  have hle := fun x : F2 => E2_len x
  have a1 := smulE x x
  have a2 := smulE y y
  have a3 := smulE x (Kf.K2.mul y y)
  have a4 := saddE (Kf.K2.td0 x y) (Kf.K2.td0 x y)
  have a5 := saddE (Kf.K2.td1 x y) (Kf.K2.td1 x y)
  have a6 := saddE (Kf.K2.mul x x) (Kf.K2.mul x x)
  have a7 := saddE (Kf.K2.add (Kf.K2.mul x x) (Kf.K2.mul x x)) (Kf.K2.mul x x)
  have a8 := smulE (Kf.K2.te x) (Kf.K2.te x)
  have a9 := saddE (Kf.K2.td x y) (Kf.K2.td x y)
  have b1 := ssubE (Kf.K2.mul (Kf.K2.te x) (Kf.K2.te x)) (Kf.K2.add (Kf.K2.td x y) (Kf.K2.td x y))
  have b2 := smulE (Kf.K2.mul y y) (Kf.K2.mul y y)
  have b3 := fun k => saddE (Kf.K2.tc y k) (Kf.K2.tc y k)
  have b4 := smulE y z
  have b5 := saddE (Kf.K2.mul y z) (Kf.K2.mul y z)
  have b6 := ssubE (Kf.K2.td x y) (Kf.K2.tX x y)
  have b7 := smulE (Kf.K2.te x) (Kf.K2.sub (Kf.K2.td x y) (Kf.K2.tX x y))
  have b8 := ssubE (Kf.K2.mul (Kf.K2.te x) (Kf.K2.sub (Kf.K2.td x y) (Kf.K2.tX x y))) (Kf.K2.tc y 3)
  rw [show Kf.K2.mul x (Kf.K2.mul y y) = Kf.K2.td0 x y from rfl] at a3
  rw [show Kf.K2.add (Kf.K2.td0 x y) (Kf.K2.td0 x y) = Kf.K2.td1 x y from rfl] at a4
  rw [show Kf.K2.add (Kf.K2.td1 x y) (Kf.K2.td1 x y) = Kf.K2.td x y from rfl] at a5
  rw [show Kf.K2.add (Kf.K2.add (Kf.K2.mul x x) (Kf.K2.mul x x)) (Kf.K2.mul x x) = Kf.K2.te x from rfl] at a7
  rw [show Kf.K2.sub (Kf.K2.mul (Kf.K2.te x) (Kf.K2.te x)) (Kf.K2.add (Kf.K2.td x y) (Kf.K2.td x y)) = Kf.K2.tX x y from rfl] at b1
  rw [show Kf.K2.mul (Kf.K2.mul y y) (Kf.K2.mul y y) = Kf.K2.tc y 0 from rfl] at b2
  have b3 : ∀ k, Spec Try.prog 31 [LV .u64 (E2 (Kf.K2.tc y k)), LV .u64 (E2 (Kf.K2.tc y k))] NoPre [] (IsV (LV .u64 (E2 (Kf.K2.tc y (k + 1))))) := b3
  rw [show Kf.K2.add (Kf.K2.mul y z) (Kf.K2.mul y z) = Kf.K2.tZ y z from rfl] at b5
  rw [show Kf.K2.sub (Kf.K2.mul (Kf.K2.te x) (Kf.K2.sub (Kf.K2.td x y) (Kf.K2.tX x y))) (Kf.K2.tc y 3) = Kf.K2.tY x y from rfl] at b8
  generalize Kf.K2.mul (Kf.K2.te x) (Kf.K2.sub (Kf.K2.td x y) (Kf.K2.tX x y)) = c1 at *
  generalize Kf.K2.sub (Kf.K2.td x y) (Kf.K2.tX x y) = c2 at *
  generalize Kf.K2.mul y z = c3 at *
  generalize Kf.K2.mul (Kf.K2.te x) (Kf.K2.te x) = c4 at *
  generalize Kf.K2.add (Kf.K2.td x y) (Kf.K2.td x y) = c5 at *
  generalize Kf.K2.add (Kf.K2.mul x x) (Kf.K2.mul x x) = c6 at *
  generalize Kf.K2.mul x x = c7 at *
  generalize Kf.K2.mul y y = c8 at *
  generalize Kf.K2.tX x y = d1 at *
  generalize Kf.K2.tY x y = d2 at *
  generalize Kf.K2.tZ y z = d3 at *
  generalize Kf.K2.td x y = d4 at *
  generalize Kf.K2.td1 x y = d5 at *
  generalize Kf.K2.td0 x y = d6 at *
  generalize Kf.K2.te x = d7 at *
  generalize Kf.K2.tc y = tc at *
  repeat (first|(refine st_alloc (E := 97) (v := LV .u64 (List.replicate 36 0)) (by kernel_rfl) (by rfl) fun _ => ?_)|refine Z01 ?_|refine Z03 ?_|refine Z04 ?_|refine Z05 ?_|refine Z06 ?_|refine Z07 ?_|refine Z08 ?_|refine Z09 ?_|refine Z10 ?_|refine Z11 ?_|refine Z12 ?_|refine Z13 ?_|refine Z14 ?_|refine Z15 ?_|refine Z17 ?_|refine Z18 ?_|refine Z24 ?_|refine Z25 ?_|refine Z26 ?_|refine Z27 ?_|refine Z28 ?_|refine Z29 ?_|refine Z30 ?_|refine Z31 ?_|refine Z32 ?_|refine Z65 ?_|refine Z67 ?_|refine Z70 ?_|refine Z81 fun _ => ?_|refine Z82 fun _ => ?_)
  refine R.st_perm [0, 1, 2, 3, 4, 5, 6, 7, 8, 9, 10, 11, 12, 13] (by rfl) ?_
  repeat (first|refine R.Zpf (by rfl)
      (by intro _ _ _;(first|(refine st_fld (by rfl) (by first | exact (show _ = some (0, 6) from rfl) | exact (show _ = some (6, 6) from rfl) | exact (show _ = some (0, 12) from rfl) | exact (show _ = some (12, 12) from rfl) | exact (show _ = some (24, 1) from rfl)) (by rfl) (by rfl) ?_)|((refine st_fld (by rfl) (show _ = some (24, 12) from rfl) (by rfl) (by rfl) ?_))|refine Z01 ?_|refine Z15 ?_|refine Z17 ?_|refine Z18 ?_|refine Z65 ?_|refine Z70 ?_);exact Zq) ?_|refine R.Zpp (by rfl)
      (by intro _ _ _;(first|refine Z24 ?_|refine Z25 ?_|refine Z26 ?_|refine Z27 ?_|refine Z28 ?_|refine Z67 ?_);exact Zq) ?_|refine R.Zpp (by rfl)
      (by intro _ _ _;(refine st_ldp (by rfl) (by repeat first|apply Find.here|apply Find.there) (by rfl) (by rfl) (by first | (refine PartAt.l ?_; (simp; done)) | (refine PartAt.r ?_ ?_ <;> (simp; done)) | (refine PartAt.all ?_; (simp; done))) (by rfl) ?_);exact Zq) ?_|refine R.Zpp (by rfl)
      (by intro _ _ _;(refine st_ldp (by rfl) (by repeat first|apply Find.here|apply Find.there) (by rfl) (by rfl) (PartAt.t0 (E2_len _)) (by rfl) ?_);exact Zq) ?_|refine R.Zpp (by rfl)
      (by intro _ _ _;(refine st_ldp (by rfl) (by repeat first|apply Find.here|apply Find.there) (by rfl) (by rfl) (PartAt.t1 (E2_len _) (E2_len _)) (by rfl) ?_);exact Zq) ?_|refine R.Zpp (by rfl)
      (by intro _ _ _;(refine st_ldp (by rfl) (by repeat first|apply Find.here|apply Find.there) (by rfl) (by rfl) (PartAt.t2 (E2_len _) (E2_len _) (E2_len _)) (by rfl) ?_);exact Zq) ?_|refine R.Zpp (by rfl)
      (by intro _ _ _;refine st_callV (by rfl) (by rfl) (by rfl) (a1) (fun _ _ => trivial) (by rfl) ?_;exact Zq) ?_|refine R.Zpp (by rfl)
      (by intro _ _ _;refine st_callV (by rfl) (by rfl) (by rfl) (a2) (fun _ _ => trivial) (by rfl) ?_;exact Zq) ?_|refine R.Zps (by rfl)
      (by intro _ _ _;(first|refine Z29 ?_|refine Z30 ?_|refine Z31 ?_|refine Z32 ?_);exact Zqq) ?_|refine R.Zpbb (by rfl) (by rfl)
      (by intro _ _ _;refine st_alloc (v := LV .u64 (List.replicate 12 0)) (by rfl) (by rfl) fun _ => ?_;exact R.Zpbx)
      (by intro _ _ _;refine st_alloc (v := LV .u64 (List.replicate 12 0)) (by rfl) (by rfl) fun _ => ?_;exact R.Zpbx) (fun _ => ?_) (fun _ => ?_)|refine R.Zpb (by rfl)
      (by intro _ _ _;refine st_alloc (v := LV .u64 (List.replicate 12 0)) (by rfl) (by rfl) fun _ => ?_;exact R.Zpbx) fun _ => ?_|refine R.Zpn (by rfl)
      (by intro _ _ _;(first|refine Z81 fun _ => ?_|refine Z82 fun _ => ?_);exact R.Zpx) fun _ => ?_|refine R.Zpo (by rfl) ?_)
  all_goals
    repeat (first|refine R.Zpf (by rfl)
        (by intro _ _ _;(first|(refine st_fld (by rfl) (by first | exact (show _ = some (0, 6) from rfl) | exact (show _ = some (6, 6) from rfl) | exact (show _ = some (0, 12) from rfl) | exact (show _ = some (12, 12) from rfl) | exact (show _ = some (24, 1) from rfl)) (by rfl) (by rfl) ?_)|((refine st_fld (by rfl) (show _ = some (24, 12) from rfl) (by rfl) (by rfl) ?_))|refine Z01 ?_|refine Z15 ?_|refine Z17 ?_|refine Z18 ?_|refine Z65 ?_|refine Z70 ?_);exact Zq) ?_|refine R.Zpp (by rfl)
        (by intro _ _ _;(first|refine Z24 ?_|refine Z25 ?_|refine Z26 ?_|refine Z27 ?_|refine Z28 ?_|refine Z67 ?_);exact Zq) ?_|refine R.Zpp (by rfl)
        (by intro _ _ _;(refine st_ldp (by rfl) (by repeat first|apply Find.here|apply Find.there) (by rfl) (by rfl) (by first | (refine PartAt.l ?_; (simp; done)) | (refine PartAt.r ?_ ?_ <;> (simp; done)) | (refine PartAt.all ?_; (simp; done))) (by rfl) ?_);exact Zq) ?_|refine R.Zpp (by rfl)
        (by intro _ _ _;(refine st_ldp (by rfl) (by repeat first|apply Find.here|apply Find.there) (by rfl) (by rfl) (PartAt.t0 (E2_len _)) (by rfl) ?_);exact Zq) ?_|refine R.Zpp (by rfl)
        (by intro _ _ _;(refine st_ldp (by rfl) (by repeat first|apply Find.here|apply Find.there) (by rfl) (by rfl) (PartAt.t1 (E2_len _) (E2_len _)) (by rfl) ?_);exact Zq) ?_|refine R.Zpp (by rfl)
        (by intro _ _ _;(refine st_ldp (by rfl) (by repeat first|apply Find.here|apply Find.there) (by rfl) (by rfl) (PartAt.t2 (E2_len _) (E2_len _) (E2_len _)) (by rfl) ?_);exact Zq) ?_|refine R.Zpp (by rfl)
        (by intro _ _ _;refine st_callV (by rfl) (by rfl) (by rfl) (a1) (fun _ _ => trivial) (by rfl) ?_;exact Zq) ?_|refine R.Zpp (by rfl)
        (by intro _ _ _;refine st_callV (by rfl) (by rfl) (by rfl) (a2) (fun _ _ => trivial) (by rfl) ?_;exact Zq) ?_|refine R.Zps (by rfl)
        (by intro _ _ _;(first|refine Z29 ?_|refine Z30 ?_|refine Z31 ?_|refine Z32 ?_);exact Zqq) ?_|refine R.Zpbb (by rfl) (by rfl)
        (by intro _ _ _;refine st_alloc (v := LV .u64 (List.replicate 12 0)) (by rfl) (by rfl) fun _ => ?_;exact R.Zpbx)
        (by intro _ _ _;refine st_alloc (v := LV .u64 (List.replicate 12 0)) (by rfl) (by rfl) fun _ => ?_;exact R.Zpbx) (fun _ => ?_) (fun _ => ?_)|refine R.Zpb (by rfl)
        (by intro _ _ _;refine st_alloc (v := LV .u64 (List.replicate 12 0)) (by rfl) (by rfl) fun _ => ?_;exact R.Zpbx) fun _ => ?_|refine R.Zpn (by rfl)
        (by intro _ _ _;(first|refine Z81 fun _ => ?_|refine Z82 fun _ => ?_);exact R.Zpx) fun _ => ?_|refine R.Zpo (by rfl) ?_)
  all_goals refine R.Zp0 ?_
  · repeat (first|(refine st_alloc (v := LV .u64 (List.replicate 12 0)) (by rfl) (by rfl) fun _ => ?_)|((refine st_ldp (by rfl) (by repeat first|apply Find.here|apply Find.there) (by rfl) (by rfl) (PartAt.t0 (E2_len _)) (by rfl) ?_))|((refine st_ldp (by rfl) (by repeat first|apply Find.here|apply Find.there) (by rfl) (by rfl) (PartAt.t1 (E2_len _) (E2_len _)) (by rfl) ?_))|((refine st_ldp (by rfl) (by repeat first|apply Find.here|apply Find.there) (by rfl) (by rfl) (PartAt.t2 (E2_len _) (E2_len _) (E2_len _)) (by rfl) ?_))|(refine st_fld (by rfl) (by first | exact (show _ = some (0, 6) from rfl) | exact (show _ = some (6, 6) from rfl) | exact (show _ = some (0, 12) from rfl) | exact (show _ = some (12, 12) from rfl) | exact (show _ = some (24, 1) from rfl)) (by rfl) (by rfl) ?_)|((refine st_ldp (by rfl) (by repeat first|apply Find.here|apply Find.there) (by rfl) (by rfl) (by first | (refine PartAt.l ?_; (simp; done)) | (refine PartAt.r ?_ ?_ <;> (simp; done)) | (refine PartAt.all ?_; (simp; done))) (by rfl) ?_))|((refine st_fld (by rfl) (show _ = some (24, 12) from rfl) (by rfl) (by rfl) ?_))|(refine st_callV (by rfl) (by rfl) (by rfl) (a3) (fun _ _ => trivial) (by rfl) ?_)|(refine st_callV (by rfl) (by rfl) (by rfl) (a4) (fun _ _ => trivial) (by rfl) ?_)|(refine st_callV (by rfl) (by rfl) (by rfl) (a5) (fun _ _ => trivial) (by rfl) ?_)|refine Z01 ?_|refine Z03 ?_|refine Z04 ?_|refine Z05 ?_|refine Z06 ?_|refine Z07 ?_|refine Z08 ?_|refine Z09 ?_|refine Z10 ?_|refine Z11 ?_|refine Z12 ?_|refine Z13 ?_|refine Z14 ?_|refine Z15 ?_|refine Z17 ?_|refine Z18 ?_|refine Z24 ?_|refine Z25 ?_|refine Z26 ?_|refine Z27 ?_|refine Z28 ?_|refine Z29 ?_|refine Z30 ?_|refine Z31 ?_|refine Z32 ?_|refine Z65 ?_|refine Z67 ?_|refine Z70 ?_|refine Z81 fun _ => ?_|refine Z82 fun _ => ?_)
    refine R.st_perm [0, 1, 2, 3, 4, 5, 6] (by rfl) ?_
    repeat (first|refine R.Zpf (by rfl)
        (by intro _ _ _;(first|(refine st_fld (by rfl) (by first | exact (show _ = some (0, 6) from rfl) | exact (show _ = some (6, 6) from rfl) | exact (show _ = some (0, 12) from rfl) | exact (show _ = some (12, 12) from rfl) | exact (show _ = some (24, 1) from rfl)) (by rfl) (by rfl) ?_)|refine Z01 ?_|refine Z15 ?_|refine Z17 ?_|refine Z18 ?_|refine Z65 ?_|refine Z70 ?_);exact Zq) ?_|refine R.Zpp (by rfl)
        (by intro _ _ _;(first|refine Z24 ?_|refine Z25 ?_|refine Z26 ?_|refine Z27 ?_|refine Z28 ?_|refine Z67 ?_);exact Zq) ?_|refine R.Zpp (by rfl)
        (by intro _ _ _;(refine st_ldp (by rfl) (by repeat first|apply Find.here|apply Find.there) (by rfl) (by rfl) (by first | (refine PartAt.l ?_; (simp; done)) | (refine PartAt.r ?_ ?_ <;> (simp; done)) | (refine PartAt.all ?_; (simp; done))) (by rfl) ?_);exact Zq) ?_|refine R.Zpp (by rfl)
        (by intro _ _ _;refine st_callV (by rfl) (by rfl) (by rfl) (a6) (fun _ _ => trivial) (by rfl) ?_;exact Zq) ?_|refine R.Zpp (by rfl)
        (by intro _ _ _;refine st_callV (by rfl) (by rfl) (by rfl) (a7) (fun _ _ => trivial) (by rfl) ?_;exact Zq) ?_|refine R.Zps (by rfl)
        (by intro _ _ _;(first|refine Z29 ?_|refine Z30 ?_|refine Z31 ?_|refine Z32 ?_);exact Zqq) ?_|refine R.Zpb (by rfl)
        (by intro _ _ _;refine st_alloc (v := LV .u64 (List.replicate 12 0)) (by rfl) (by rfl) fun _ => ?_;exact R.Zpbx) fun _ => ?_|refine R.Zpn (by rfl)
        (by intro _ _ _;(first|refine Z81 fun _ => ?_|refine Z82 fun _ => ?_);exact R.Zpx) fun _ => ?_|refine R.Zpo (by rfl) ?_)
    refine R.Zp0 ?_
    repeat (first|refine Z01 ?_|refine Z03 ?_|refine Z04 ?_|refine Z05 ?_|refine Z06 ?_|refine Z07 ?_|refine Z08 ?_|refine Z09 ?_|refine Z10 ?_|refine Z11 ?_|refine Z12 ?_|refine Z13 ?_|refine Z14 ?_|refine Z15 ?_|refine Z17 ?_|refine Z18 ?_|refine Z24 ?_|refine Z25 ?_|refine Z26 ?_|refine Z27 ?_|refine Z28 ?_|refine Z29 ?_|refine Z30 ?_|refine Z31 ?_|refine Z32 ?_|refine Z65 ?_|refine Z67 ?_|refine Z70 ?_|refine Z81 fun _ => ?_|refine Z82 fun _ => ?_)
    refine R.st_perm [0, 1, 2, 3, 4, 5, 6, 7, 8] (by rfl) ?_
    repeat (first|refine R.Zpf (by rfl)
        (by intro _ _ _;(first|(refine st_fld (by rfl) (by first | exact (show _ = some (0, 6) from rfl) | exact (show _ = some (6, 6) from rfl) | exact (show _ = some (0, 12) from rfl) | exact (show _ = some (12, 12) from rfl) | exact (show _ = some (24, 1) from rfl)) (by rfl) (by rfl) ?_)|refine Z01 ?_|refine Z15 ?_|refine Z17 ?_|refine Z18 ?_|refine Z65 ?_|refine Z70 ?_);exact Zq) ?_|refine R.Zpp (by rfl)
        (by intro _ _ _;(first|refine Z24 ?_|refine Z25 ?_|refine Z26 ?_|refine Z27 ?_|refine Z28 ?_|refine Z67 ?_);exact Zq) ?_|refine R.Zpp (by rfl)
        (by intro _ _ _;(refine st_ldp (by rfl) (by repeat first|apply Find.here|apply Find.there) (by rfl) (by rfl) (by first | (refine PartAt.l ?_; (simp; done)) | (refine PartAt.r ?_ ?_ <;> (simp; done)) | (refine PartAt.all ?_; (simp; done))) (by rfl) ?_);exact Zq) ?_|refine R.Zpp (by rfl)
        (by intro _ _ _;refine st_callV (by rfl) (by rfl) (by rfl) (a8) (fun _ _ => trivial) (by rfl) ?_;exact Zq) ?_|refine R.Zpp (by rfl)
        (by intro _ _ _;refine st_callV (by rfl) (by rfl) (by rfl) (a9) (fun _ _ => trivial) (by rfl) ?_;exact Zq) ?_|refine R.Zpp (by rfl)
        (by intro _ _ _;refine st_callV (by rfl) (by rfl) (by rfl) (b1) (fun _ _ => trivial) (by rfl) ?_;exact Zq) ?_|refine R.Zps (by rfl)
        (by intro _ _ _;(first|refine Z29 ?_|refine Z30 ?_|refine Z31 ?_|refine Z32 ?_);exact Zqq) ?_|refine R.Zpb (by rfl)
        (by intro _ _ _;refine st_alloc (v := LV .u64 (List.replicate 12 0)) (by rfl) (by rfl) fun _ => ?_;exact R.Zpbx) fun _ => ?_|refine R.Zpn (by rfl)
        (by intro _ _ _;(first|refine Z81 fun _ => ?_|refine Z82 fun _ => ?_);exact R.Zpx) fun _ => ?_|refine R.Zpo (by rfl) ?_)
    refine R.Zp0 ?_
    repeat (first|(refine st_callV (by rfl) (by rfl) (by rfl) (b2) (fun _ _ => trivial) (by rfl) ?_)|refine Z01 ?_|refine Z03 ?_|refine Z04 ?_|refine Z05 ?_|refine Z06 ?_|refine Z07 ?_|refine Z08 ?_|refine Z09 ?_|refine Z10 ?_|refine Z11 ?_|refine Z12 ?_|refine Z13 ?_|refine Z14 ?_|refine Z15 ?_|refine Z17 ?_|refine Z18 ?_|refine Z24 ?_|refine Z25 ?_|refine Z26 ?_|refine Z27 ?_|refine Z28 ?_|refine Z29 ?_|refine Z30 ?_|refine Z31 ?_|refine Z32 ?_|refine Z65 ?_|refine Z67 ?_|refine Z70 ?_|refine Z81 fun _ => ?_|refine Z82 fun _ => ?_)
    rename_i p1 p2 p3 p4 p5 p6 p7
    refine st_loop (ι := Nat) (fun j => j ≤ 3) (fun j => [(44, N .i64 j), (1, pt p1 0), (2, pt p2 0), (4, pt p4 0), (5, pt p5 0), (6, pt p6 0), (7, pt p7 0)])
      (fun j => [.blk p4 (LV .u64 (E2 (tc j))) 26, .blk p7 (LV .u64 (E2 d1)) 26, .blk p6 (LV .u64 (E2 d7)) 26, .blk p5 (LV .u64 (E2 d4)) 26, .blk p2 (LV .u64 (List.replicate 36 0)) 97, .blk p1 (J36 x y z) 97]) (fun j => 3 - j) 0 (by omega) (by repeat (first | apply subL.nil | refine subL.cons (by rfl) ?_)) (by repeat (first | apply SubW.nil | refine SubW.cons (by repeat first|apply Find.here|apply Find.there) ?_)) ?_
    intro j hj
    repeat (first|refine Z01 ?_|refine Z03 ?_|refine Z04 ?_|refine Z05 ?_|refine Z06 ?_|refine Z07 ?_|refine Z08 ?_|refine Z09 ?_|refine Z10 ?_|refine Z11 ?_|refine Z12 ?_|refine Z13 ?_|refine Z14 ?_|refine Z15 ?_|refine Z17 ?_|refine Z18 ?_|refine Z24 ?_|refine Z25 ?_|refine Z26 ?_|refine Z27 ?_|refine Z28 ?_|refine Z29 ?_|refine Z30 ?_|refine Z31 ?_|refine Z32 ?_|refine Z65 ?_|refine Z67 ?_|refine Z70 ?_|refine Z81 fun _ => ?_|refine Z82 fun _ => ?_)
    refine st_cond (by rfl) (fun h => ?_) (fun h => ?_)
    · repeat (first|(refine st_callV (by rfl) (by rfl) (by rfl) (b3 j) (fun _ _ => trivial) (by rfl) ?_)|refine Z01 ?_|refine Z03 ?_|refine Z04 ?_|refine Z05 ?_|refine Z06 ?_|refine Z07 ?_|refine Z08 ?_|refine Z09 ?_|refine Z10 ?_|refine Z11 ?_|refine Z12 ?_|refine Z13 ?_|refine Z14 ?_|refine Z15 ?_|refine Z17 ?_|refine Z18 ?_|refine Z24 ?_|refine Z25 ?_|refine Z26 ?_|refine Z27 ?_|refine Z28 ?_|refine Z29 ?_|refine Z30 ?_|refine Z31 ?_|refine Z32 ?_|refine Z65 ?_|refine Z67 ?_|refine Z70 ?_|refine Z81 fun _ => ?_|refine Z82 fun _ => ?_)
      exact st_round (j + 1) (by omega) (by omega) (by repeat (first | apply subL.nil | refine subL.cons (by rfl) ?_)) (by repeat (first | apply SubW.nil | refine SubW.cons (by repeat first|apply Find.here|apply Find.there) ?_))
    · have hj3 : j = 3 := by omega
      subst hj3
      repeat (first|(refine st_alloc (v := LV .u64 (List.replicate 12 0)) (by rfl) (by rfl) fun _ => ?_)|((refine st_ldp (by rfl) (by repeat first|apply Find.here|apply Find.there) (by rfl) (by rfl) (PartAt.t0 (E2_len _)) (by rfl) ?_))|((refine st_ldp (by rfl) (by repeat first|apply Find.here|apply Find.there) (by rfl) (by rfl) (PartAt.t1 (E2_len _) (E2_len _)) (by rfl) ?_))|((refine st_ldp (by rfl) (by repeat first|apply Find.here|apply Find.there) (by rfl) (by rfl) (PartAt.t2 (E2_len _) (E2_len _) (E2_len _)) (by rfl) ?_))|(refine st_fld (by rfl) (by first | exact (show _ = some (0, 6) from rfl) | exact (show _ = some (6, 6) from rfl) | exact (show _ = some (0, 12) from rfl) | exact (show _ = some (12, 12) from rfl) | exact (show _ = some (24, 1) from rfl)) (by rfl) (by rfl) ?_)|((refine st_ldp (by rfl) (by repeat first|apply Find.here|apply Find.there) (by rfl) (by rfl) (by first | (refine PartAt.l ?_; (simp; done)) | (refine PartAt.r ?_ ?_ <;> (simp; done)) | (refine PartAt.all ?_; (simp; done))) (by rfl) ?_))|((refine st_fld (by rfl) (show _ = some (24, 12) from rfl) (by rfl) (by rfl) ?_))|(refine st_callV (by rfl) (by rfl) (by rfl) (b4) (fun _ _ => trivial) (by rfl) ?_)|refine Z01 ?_|refine Z03 ?_|refine Z04 ?_|refine Z05 ?_|refine Z06 ?_|refine Z07 ?_|refine Z08 ?_|refine Z09 ?_|refine Z10 ?_|refine Z11 ?_|refine Z12 ?_|refine Z13 ?_|refine Z14 ?_|refine Z15 ?_|refine Z17 ?_|refine Z18 ?_|refine Z24 ?_|refine Z25 ?_|refine Z26 ?_|refine Z27 ?_|refine Z28 ?_|refine Z29 ?_|refine Z30 ?_|refine Z31 ?_|refine Z32 ?_|refine Z65 ?_|refine Z67 ?_|refine Z70 ?_|refine Z81 fun _ => ?_|refine Z82 fun _ => ?_)
      refine R.st_perm [0, 1, 2, 3, 4, 5, 6, 7, 8, 9, 10, 11, 12] (by rfl) ?_
      repeat (first|refine R.Zpf (by rfl)
          (by intro _ _ _;(first|(refine st_fld (by rfl) (by first | exact (show _ = some (0, 6) from rfl) | exact (show _ = some (6, 6) from rfl) | exact (show _ = some (0, 12) from rfl) | exact (show _ = some (12, 12) from rfl) | exact (show _ = some (24, 1) from rfl)) (by rfl) (by rfl) ?_)|(refine st_build3 (m := 12) (by rfl) (by rfl) (by kernel_rfl) (by rfl) (E2_len _) (E2_len _) (E2_len _) (by rfl) ?_)|refine Z01 ?_|refine Z15 ?_|refine Z17 ?_|refine Z18 ?_|refine Z65 ?_|refine Z70 ?_);exact Zq) ?_|refine R.Zpp (by rfl)
          (by intro _ _ _;(first|refine Z24 ?_|refine Z25 ?_|refine Z26 ?_|refine Z27 ?_|refine Z28 ?_|refine Z67 ?_);exact Zq) ?_|refine R.Zpp (by rfl)
          (by intro _ _ _;(refine st_ldp (by rfl) (by repeat first|apply Find.here|apply Find.there) (by rfl) (by rfl) (by first | (refine PartAt.l ?_; (simp; done)) | (refine PartAt.r ?_ ?_ <;> (simp; done)) | (refine PartAt.all ?_; (simp; done))) (by rfl) ?_);exact Zq) ?_|refine R.Zpp (by rfl)
          (by intro _ _ _;refine st_callV (by rfl) (by rfl) (by rfl) (b6) (fun _ _ => trivial) (by rfl) ?_;exact Zq) ?_|refine R.Zpp (by rfl)
          (by intro _ _ _;refine st_callV (by rfl) (by rfl) (by rfl) (b7) (fun _ _ => trivial) (by rfl) ?_;exact Zq) ?_|refine R.Zpp (by rfl)
          (by intro _ _ _;refine st_callV (by rfl) (by rfl) (by rfl) (b8) (fun _ _ => trivial) (by rfl) ?_;exact Zq) ?_|refine R.Zpp (by rfl)
          (by intro _ _ _;refine st_callV (by rfl) (by rfl) (by rfl) (b5) (fun _ _ => trivial) (by rfl) ?_;exact Zq) ?_|refine R.Zps (by rfl)
          (by intro _ _ _;(first|refine Z29 ?_|refine Z30 ?_|refine Z31 ?_|refine Z32 ?_);exact Zqq) ?_|refine R.Zps (by rfl)
          (by intro _ _ _;(refine st_store_LV (m := 36) (by rfl) (by rfl) (by repeat first|apply Find.here|apply Find.there) (by rfl) (by simp) (J36_len _ _ _) ?_);exact Zqq) ?_|refine R.Zpn (by rfl)
          (by intro _ _ _;(first|refine Z81 fun _ => ?_|refine Z82 fun _ => ?_);exact R.Zpx) fun _ => ?_|refine R.Zpo (by rfl) ?_)
      refine R.Zp0 ?_
      repeat (first|refine Z01 ?_|refine Z03 ?_|refine Z04 ?_|refine Z05 ?_|refine Z06 ?_|refine Z07 ?_|refine Z08 ?_|refine Z09 ?_|refine Z10 ?_|refine Z11 ?_|refine Z12 ?_|refine Z13 ?_|refine Z14 ?_|refine Z15 ?_|refine Z17 ?_|refine Z18 ?_|refine Z24 ?_|refine Z25 ?_|refine Z26 ?_|refine Z27 ?_|refine Z28 ?_|refine Z29 ?_|refine Z30 ?_|refine Z31 ?_|refine Z32 ?_|refine Z65 ?_|refine Z67 ?_|refine Z70 ?_|refine Z81 fun _ => ?_|refine Z82 fun _ => ?_)
      refine Zec fun _ hw => post_of hw SubW.nil ⟨?_, rfl⟩
      rfl
  · repeat (first|(refine st_alloc (v := LV .u64 (List.replicate 12 0)) (by rfl) (by rfl) fun _ => ?_)|((refine st_ldp (by rfl) (by repeat first|apply Find.here|apply Find.there) (by rfl) (by rfl) (PartAt.t0 (E2_len _)) (by rfl) ?_))|((refine st_ldp (by rfl) (by repeat first|apply Find.here|apply Find.there) (by rfl) (by rfl) (PartAt.t1 (E2_len _) (E2_len _)) (by rfl) ?_))|((refine st_ldp (by rfl) (by repeat first|apply Find.here|apply Find.there) (by rfl) (by rfl) (PartAt.t2 (E2_len _) (E2_len _) (E2_len _)) (by rfl) ?_))|(refine st_fld (by rfl) (by first | exact (show _ = some (0, 6) from rfl) | exact (show _ = some (6, 6) from rfl) | exact (show _ = some (0, 12) from rfl) | exact (show _ = some (12, 12) from rfl) | exact (show _ = some (24, 1) from rfl)) (by rfl) (by rfl) ?_)|((refine st_ldp (by rfl) (by repeat first|apply Find.here|apply Find.there) (by rfl) (by rfl) (by first | (refine PartAt.l ?_; (simp; done)) | (refine PartAt.r ?_ ?_ <;> (simp; done)) | (refine PartAt.all ?_; (simp; done))) (by rfl) ?_))|((refine st_fld (by rfl) (show _ = some (24, 12) from rfl) (by rfl) (by rfl) ?_))|(refine st_callV (by rfl) (by rfl) (by rfl) (a3) (fun _ _ => trivial) (by rfl) ?_)|(refine st_callV (by rfl) (by rfl) (by rfl) (a4) (fun _ _ => trivial) (by rfl) ?_)|(refine st_callV (by rfl) (by rfl) (by rfl) (a5) (fun _ _ => trivial) (by rfl) ?_)|refine Z01 ?_|refine Z03 ?_|refine Z04 ?_|refine Z05 ?_|refine Z06 ?_|refine Z07 ?_|refine Z08 ?_|refine Z09 ?_|refine Z10 ?_|refine Z11 ?_|refine Z12 ?_|refine Z13 ?_|refine Z14 ?_|refine Z15 ?_|refine Z17 ?_|refine Z18 ?_|refine Z24 ?_|refine Z25 ?_|refine Z26 ?_|refine Z27 ?_|refine Z28 ?_|refine Z29 ?_|refine Z30 ?_|refine Z31 ?_|refine Z32 ?_|refine Z65 ?_|refine Z67 ?_|refine Z70 ?_|refine Z81 fun _ => ?_|refine Z82 fun _ => ?_)
    refine R.st_perm [0, 1, 2, 3, 4, 5, 6] (by rfl) ?_
    repeat (first|refine R.Zpf (by rfl)
        (by intro _ _ _;(first|(refine st_fld (by rfl) (by first | exact (show _ = some (0, 6) from rfl) | exact (show _ = some (6, 6) from rfl) | exact (show _ = some (0, 12) from rfl) | exact (show _ = some (12, 12) from rfl) | exact (show _ = some (24, 1) from rfl)) (by rfl) (by rfl) ?_)|refine Z01 ?_|refine Z15 ?_|refine Z17 ?_|refine Z18 ?_|refine Z65 ?_|refine Z70 ?_);exact Zq) ?_|refine R.Zpp (by rfl)
        (by intro _ _ _;(first|refine Z24 ?_|refine Z25 ?_|refine Z26 ?_|refine Z27 ?_|refine Z28 ?_|refine Z67 ?_);exact Zq) ?_|refine R.Zpp (by rfl)
        (by intro _ _ _;(refine st_ldp (by rfl) (by repeat first|apply Find.here|apply Find.there) (by rfl) (by rfl) (by first | (refine PartAt.l ?_; (simp; done)) | (refine PartAt.r ?_ ?_ <;> (simp; done)) | (refine PartAt.all ?_; (simp; done))) (by rfl) ?_);exact Zq) ?_|refine R.Zpp (by rfl)
        (by intro _ _ _;refine st_callV (by rfl) (by rfl) (by rfl) (a6) (fun _ _ => trivial) (by rfl) ?_;exact Zq) ?_|refine R.Zpp (by rfl)
        (by intro _ _ _;refine st_callV (by rfl) (by rfl) (by rfl) (a7) (fun _ _ => trivial) (by rfl) ?_;exact Zq) ?_|refine R.Zps (by rfl)
        (by intro _ _ _;(first|refine Z29 ?_|refine Z30 ?_|refine Z31 ?_|refine Z32 ?_);exact Zqq) ?_|refine R.Zpb (by rfl)
        (by intro _ _ _;refine st_alloc (v := LV .u64 (List.replicate 12 0)) (by rfl) (by rfl) fun _ => ?_;exact R.Zpbx) fun _ => ?_|refine R.Zpn (by rfl)
        (by intro _ _ _;(first|refine Z81 fun _ => ?_|refine Z82 fun _ => ?_);exact R.Zpx) fun _ => ?_|refine R.Zpo (by rfl) ?_)
    refine R.Zp0 ?_
    repeat (first|refine Z01 ?_|refine Z03 ?_|refine Z04 ?_|refine Z05 ?_|refine Z06 ?_|refine Z07 ?_|refine Z08 ?_|refine Z09 ?_|refine Z10 ?_|refine Z11 ?_|refine Z12 ?_|refine Z13 ?_|refine Z14 ?_|refine Z15 ?_|refine Z17 ?_|refine Z18 ?_|refine Z24 ?_|refine Z25 ?_|refine Z26 ?_|refine Z27 ?_|refine Z28 ?_|refine Z29 ?_|refine Z30 ?_|refine Z31 ?_|refine Z32 ?_|refine Z65 ?_|refine Z67 ?_|refine Z70 ?_|refine Z81 fun _ => ?_|refine Z82 fun _ => ?_)
    refine R.st_perm [0, 1, 2, 3, 4, 5, 6, 7, 8] (by rfl) ?_
    repeat (first|refine R.Zpf (by rfl)
        (by intro _ _ _;(first|(refine st_fld (by rfl) (by first | exact (show _ = some (0, 6) from rfl) | exact (show _ = some (6, 6) from rfl) | exact (show _ = some (0, 12) from rfl) | exact (show _ = some (12, 12) from rfl) | exact (show _ = some (24, 1) from rfl)) (by rfl) (by rfl) ?_)|refine Z01 ?_|refine Z15 ?_|refine Z17 ?_|refine Z18 ?_|refine Z65 ?_|refine Z70 ?_);exact Zq) ?_|refine R.Zpp (by rfl)
        (by intro _ _ _;(first|refine Z24 ?_|refine Z25 ?_|refine Z26 ?_|refine Z27 ?_|refine Z28 ?_|refine Z67 ?_);exact Zq) ?_|refine R.Zpp (by rfl)
        (by intro _ _ _;(refine st_ldp (by rfl) (by repeat first|apply Find.here|apply Find.there) (by rfl) (by rfl) (by first | (refine PartAt.l ?_; (simp; done)) | (refine PartAt.r ?_ ?_ <;> (simp; done)) | (refine PartAt.all ?_; (simp; done))) (by rfl) ?_);exact Zq) ?_|refine R.Zpp (by rfl)
        (by intro _ _ _;refine st_callV (by rfl) (by rfl) (by rfl) (a8) (fun _ _ => trivial) (by rfl) ?_;exact Zq) ?_|refine R.Zpp (by rfl)
        (by intro _ _ _;refine st_callV (by rfl) (by rfl) (by rfl) (a9) (fun _ _ => trivial) (by rfl) ?_;exact Zq) ?_|refine R.Zpp (by rfl)
        (by intro _ _ _;refine st_callV (by rfl) (by rfl) (by rfl) (b1) (fun _ _ => trivial) (by rfl) ?_;exact Zq) ?_|refine R.Zps (by rfl)
        (by intro _ _ _;(first|refine Z29 ?_|refine Z30 ?_|refine Z31 ?_|refine Z32 ?_);exact Zqq) ?_|refine R.Zpb (by rfl)
        (by intro _ _ _;refine st_alloc (v := LV .u64 (List.replicate 12 0)) (by rfl) (by rfl) fun _ => ?_;exact R.Zpbx) fun _ => ?_|refine R.Zpn (by rfl)
        (by intro _ _ _;(first|refine Z81 fun _ => ?_|refine Z82 fun _ => ?_);exact R.Zpx) fun _ => ?_|refine R.Zpo (by rfl) ?_)
    refine R.Zp0 ?_
    repeat (first|(refine st_callV (by rfl) (by rfl) (by rfl) (b2) (fun _ _ => trivial) (by rfl) ?_)|refine Z01 ?_|refine Z03 ?_|refine Z04 ?_|refine Z05 ?_|refine Z06 ?_|refine Z07 ?_|refine Z08 ?_|refine Z09 ?_|refine Z10 ?_|refine Z11 ?_|refine Z12 ?_|refine Z13 ?_|refine Z14 ?_|refine Z15 ?_|refine Z17 ?_|refine Z18 ?_|refine Z24 ?_|refine Z25 ?_|refine Z26 ?_|refine Z27 ?_|refine Z28 ?_|refine Z29 ?_|refine Z30 ?_|refine Z31 ?_|refine Z32 ?_|refine Z65 ?_|refine Z67 ?_|refine Z70 ?_|refine Z81 fun _ => ?_|refine Z82 fun _ => ?_)
    rename_i p1 p2 p4 p3 p5 p6 p7
    refine st_loop (ι := Nat) (fun j => j ≤ 3) (fun j => [(44, N .i64 j), (1, pt p1 0), (2, pt p2 0), (4, pt p4 0), (5, pt p5 0), (6, pt p6 0), (7, pt p7 0)])
      (fun j => [.blk p4 (LV .u64 (E2 (tc j))) 26, .blk p7 (LV .u64 (E2 d1)) 26, .blk p6 (LV .u64 (E2 d7)) 26, .blk p5 (LV .u64 (E2 d4)) 26, .blk p2 (LV .u64 (List.replicate 36 0)) 97, .blk p1 (J36 x y z) 97]) (fun j => 3 - j) 0 (by omega) (by repeat (first | apply subL.nil | refine subL.cons (by rfl) ?_)) (by repeat (first | apply SubW.nil | refine SubW.cons (by repeat first|apply Find.here|apply Find.there) ?_)) ?_
    intro j hj
    repeat (first|refine Z01 ?_|refine Z03 ?_|refine Z04 ?_|refine Z05 ?_|refine Z06 ?_|refine Z07 ?_|refine Z08 ?_|refine Z09 ?_|refine Z10 ?_|refine Z11 ?_|refine Z12 ?_|refine Z13 ?_|refine Z14 ?_|refine Z15 ?_|refine Z17 ?_|refine Z18 ?_|refine Z24 ?_|refine Z25 ?_|refine Z26 ?_|refine Z27 ?_|refine Z28 ?_|refine Z29 ?_|refine Z30 ?_|refine Z31 ?_|refine Z32 ?_|refine Z65 ?_|refine Z67 ?_|refine Z70 ?_|refine Z81 fun _ => ?_|refine Z82 fun _ => ?_)
    refine st_cond (by rfl) (fun h => ?_) (fun h => ?_)
    · repeat (first|(refine st_callV (by rfl) (by rfl) (by rfl) (b3 j) (fun _ _ => trivial) (by rfl) ?_)|refine Z01 ?_|refine Z03 ?_|refine Z04 ?_|refine Z05 ?_|refine Z06 ?_|refine Z07 ?_|refine Z08 ?_|refine Z09 ?_|refine Z10 ?_|refine Z11 ?_|refine Z12 ?_|refine Z13 ?_|refine Z14 ?_|refine Z15 ?_|refine Z17 ?_|refine Z18 ?_|refine Z24 ?_|refine Z25 ?_|refine Z26 ?_|refine Z27 ?_|refine Z28 ?_|refine Z29 ?_|refine Z30 ?_|refine Z31 ?_|refine Z32 ?_|refine Z65 ?_|refine Z67 ?_|refine Z70 ?_|refine Z81 fun _ => ?_|refine Z82 fun _ => ?_)
      exact st_round (j + 1) (by omega) (by omega) (by repeat (first | apply subL.nil | refine subL.cons (by rfl) ?_)) (by repeat (first | apply SubW.nil | refine SubW.cons (by repeat first|apply Find.here|apply Find.there) ?_))
    · have hj3 : j = 3 := by omega
      subst hj3
      repeat (first|(refine st_alloc (v := LV .u64 (List.replicate 12 0)) (by rfl) (by rfl) fun _ => ?_)|((refine st_ldp (by rfl) (by repeat first|apply Find.here|apply Find.there) (by rfl) (by rfl) (PartAt.t0 (E2_len _)) (by rfl) ?_))|((refine st_ldp (by rfl) (by repeat first|apply Find.here|apply Find.there) (by rfl) (by rfl) (PartAt.t1 (E2_len _) (E2_len _)) (by rfl) ?_))|((refine st_ldp (by rfl) (by repeat first|apply Find.here|apply Find.there) (by rfl) (by rfl) (PartAt.t2 (E2_len _) (E2_len _) (E2_len _)) (by rfl) ?_))|(refine st_fld (by rfl) (by first | exact (show _ = some (0, 6) from rfl) | exact (show _ = some (6, 6) from rfl) | exact (show _ = some (0, 12) from rfl) | exact (show _ = some (12, 12) from rfl) | exact (show _ = some (24, 1) from rfl)) (by rfl) (by rfl) ?_)|((refine st_ldp (by rfl) (by repeat first|apply Find.here|apply Find.there) (by rfl) (by rfl) (by first | (refine PartAt.l ?_; (simp; done)) | (refine PartAt.r ?_ ?_ <;> (simp; done)) | (refine PartAt.all ?_; (simp; done))) (by rfl) ?_))|((refine st_fld (by rfl) (show _ = some (24, 12) from rfl) (by rfl) (by rfl) ?_))|(refine st_callV (by rfl) (by rfl) (by rfl) (b4) (fun _ _ => trivial) (by rfl) ?_)|refine Z01 ?_|refine Z03 ?_|refine Z04 ?_|refine Z05 ?_|refine Z06 ?_|refine Z07 ?_|refine Z08 ?_|refine Z09 ?_|refine Z10 ?_|refine Z11 ?_|refine Z12 ?_|refine Z13 ?_|refine Z14 ?_|refine Z15 ?_|refine Z17 ?_|refine Z18 ?_|refine Z24 ?_|refine Z25 ?_|refine Z26 ?_|refine Z27 ?_|refine Z28 ?_|refine Z29 ?_|refine Z30 ?_|refine Z31 ?_|refine Z32 ?_|refine Z65 ?_|refine Z67 ?_|refine Z70 ?_|refine Z81 fun _ => ?_|refine Z82 fun _ => ?_)
      refine R.st_perm [0, 1, 2, 3, 4, 5, 6, 7, 8, 9, 10, 11, 12] (by rfl) ?_
      repeat (first|refine R.Zpf (by rfl)
          (by intro _ _ _;(first|(refine st_fld (by rfl) (by first | exact (show _ = some (0, 6) from rfl) | exact (show _ = some (6, 6) from rfl) | exact (show _ = some (0, 12) from rfl) | exact (show _ = some (12, 12) from rfl) | exact (show _ = some (24, 1) from rfl)) (by rfl) (by rfl) ?_)|(refine st_build3 (m := 12) (by rfl) (by rfl) (by kernel_rfl) (by rfl) (E2_len _) (E2_len _) (E2_len _) (by rfl) ?_)|refine Z01 ?_|refine Z15 ?_|refine Z17 ?_|refine Z18 ?_|refine Z65 ?_|refine Z70 ?_);exact Zq) ?_|refine R.Zpp (by rfl)
          (by intro _ _ _;(first|refine Z24 ?_|refine Z25 ?_|refine Z26 ?_|refine Z27 ?_|refine Z28 ?_|refine Z67 ?_);exact Zq) ?_|refine R.Zpp (by rfl)
          (by intro _ _ _;(refine st_ldp (by rfl) (by repeat first|apply Find.here|apply Find.there) (by rfl) (by rfl) (by first | (refine PartAt.l ?_; (simp; done)) | (refine PartAt.r ?_ ?_ <;> (simp; done)) | (refine PartAt.all ?_; (simp; done))) (by rfl) ?_);exact Zq) ?_|refine R.Zpp (by rfl)
          (by intro _ _ _;refine st_callV (by rfl) (by rfl) (by rfl) (b6) (fun _ _ => trivial) (by rfl) ?_;exact Zq) ?_|refine R.Zpp (by rfl)
          (by intro _ _ _;refine st_callV (by rfl) (by rfl) (by rfl) (b7) (fun _ _ => trivial) (by rfl) ?_;exact Zq) ?_|refine R.Zpp (by rfl)
          (by intro _ _ _;refine st_callV (by rfl) (by rfl) (by rfl) (b8) (fun _ _ => trivial) (by rfl) ?_;exact Zq) ?_|refine R.Zpp (by rfl)
          (by intro _ _ _;refine st_callV (by rfl) (by rfl) (by rfl) (b5) (fun _ _ => trivial) (by rfl) ?_;exact Zq) ?_|refine R.Zps (by rfl)
          (by intro _ _ _;(first|refine Z29 ?_|refine Z30 ?_|refine Z31 ?_|refine Z32 ?_);exact Zqq) ?_|refine R.Zps (by rfl)
          (by intro _ _ _;(refine st_store_LV (m := 36) (by rfl) (by rfl) (by repeat first|apply Find.here|apply Find.there) (by rfl) (by simp) (J36_len _ _ _) ?_);exact Zqq) ?_|refine R.Zpn (by rfl)
          (by intro _ _ _;(first|refine Z81 fun _ => ?_|refine Z82 fun _ => ?_);exact R.Zpx) fun _ => ?_|refine R.Zpo (by rfl) ?_)
      refine R.Zp0 ?_
      repeat (first|refine Z01 ?_|refine Z03 ?_|refine Z04 ?_|refine Z05 ?_|refine Z06 ?_|refine Z07 ?_|refine Z08 ?_|refine Z09 ?_|refine Z10 ?_|refine Z11 ?_|refine Z12 ?_|refine Z13 ?_|refine Z14 ?_|refine Z15 ?_|refine Z17 ?_|refine Z18 ?_|refine Z24 ?_|refine Z25 ?_|refine Z26 ?_|refine Z27 ?_|refine Z28 ?_|refine Z29 ?_|refine Z30 ?_|refine Z31 ?_|refine Z32 ?_|refine Z65 ?_|refine Z67 ?_|refine Z70 ?_|refine Z81 fun _ => ?_|refine Z82 fun _ => ?_)
      refine Zec fun _ hw => post_of hw SubW.nil ⟨?_, rfl⟩
      rfl
end Go.Proofs.Ytbpmbdlgmmabcaa.L
namespace Go.Proofs.Ytbpmbdlgmmabcaa.L
open Go Go.Proofs
set_option maxRecDepth 100000
attribute [local irreducible] Code.wp wpList Af bodyPost L.Go
open Num
attribute [local simp] D_len
set_option maxHeartbeats 8000000 in
theorem plus_ex (x y z qx qy : F2) (ho : Kf.K2.Onc b2c (Kf.K2.jp x y z)) :
    ∃ X Y Z, Kf.K2.jp X Y Z = Kf.K2.pa (Kf.K2.jp x y z) (some (qx, qy)) ∧ Spec Try.prog 128 [J36 x y z, GE qx qy false] NoPre [] (IsV (J36 X Y Z)) := by
  by_cases hz : z = Kf.K2.zero
  · refine ⟨qx, qy, Kf.K2.one, ?_, ?_⟩
    · rw [Kf.K2.one_sq p_3, Kf.K2.jp_z hz]; rfl
    · have hz2 : (decide (D 6 z.re.val = D 6 (Kf.K2.zero : F2).re.val) && decide (D 6 z.im.val = D 6 (Kf.K2.zero : F2).im.val)) = true := by rw [hz]; exact E2_same _
      refine mk_spec Try.func128 rfl rfl rfl fun w _ => ?_
      have hl0 := fun x => D_len 6 x
      have hle := fun x : F2 => E2_len x
      repeat (first|((refine st_eq2v (hr := hz2) (by rfl) (by rfl) (by rfl) (by kernel_rfl) (by rfl) (by rfl) (by rfl) (by rfl) (by rfl) (by rfl) (by rfl) (by rfl) (by rfl) (by rfl) (by kernel_rfl) (by simp; done) (by simp; done) (by simp; done) (by simp; done) (by rfl) ?_))|(refine st_alloc (v := LV .u64 (List.replicate 12 0)) (by rfl) (by rfl) fun _ => ?_)|(refine st_alloc (E := 97) (v := LV .u64 (List.replicate 36 0)) (by kernel_rfl) (by rfl) fun _ => ?_)|((refine st_build20 (k := .u64) (z := List.replicate 12 0) (by rfl) (by rfl) (by rfl) (by rfl) ?_; rw [zero12]))|((refine st_buildP (kk := .u64) (vs := [1]) (by rfl) (by rfl) (by rfl) (by rfl) (by rfl) (by rfl) (by rfl) (by rfl) ?_; rw [one6]))|((refine st_build2a (by rfl) (by rfl) (by rfl) (by rfl) (by simp; done) (by rfl) ?_; rw [oneE]))|(refine st_fld (by rfl) (by first | exact (show _ = some (0, 6) from rfl) | exact (show _ = some (6, 6) from rfl) | exact (show _ = some (0, 12) from rfl) | exact (show _ = some (12, 12) from rfl) | exact (show _ = some (24, 1) from rfl)) (by rfl) (by rfl) ?_)|((refine st_ldp (by rfl) (by repeat first|apply Find.here|apply Find.there) (by rfl) (by rfl) (by first | (refine PartAt.l ?_; (simp; done)) | (refine PartAt.r ?_ ?_ <;> (simp; done)) | (refine PartAt.all ?_; (simp; done))) (by rfl) ?_))|(refine st_build2a (by rfl) (by rfl) (by rfl) (by rfl) (by simp; done) (by rfl) ?_)|(refine st_build20 (by rfl) (by rfl) (by rfl) (by rfl) ?_)|(refine st_eq2 (by rfl) (by rfl) (by rfl) (by kernel_rfl) (by rfl) (by rfl) (by rfl) (by rfl) (by rfl) (by rfl) (by rfl) (by rfl) (by rfl) (by rfl) (by kernel_rfl) (by simp; done) (by simp; done) (by simp; done) (by simp; done) (by rfl) ?_)|((refine st_fld (by rfl) (show _ = some (24, 12) from rfl) (by rfl) (by rfl) ?_))|((refine st_ldp (by rfl) (by repeat first|apply Find.here|apply Find.there) (by rfl) (by rfl) (PartAt.t0 (E2_len _)) (by rfl) ?_))|((refine st_ldp (by rfl) (by repeat first|apply Find.here|apply Find.there) (by rfl) (by rfl) (PartAt.t1 (E2_len _) (E2_len _)) (by rfl) ?_))|((refine st_ldp (by rfl) (by repeat first|apply Find.here|apply Find.there) (by rfl) (by rfl) (PartAt.t2 (E2_len _) (E2_len _) (E2_len _)) (by rfl) ?_))|((refine st_ldpG (by rfl) (by repeat first|apply Find.here|apply Find.there) (by rfl) (by rfl) (by first | (refine PartAt.l ?_; (simp; done)) | (refine PartAt.r ?_ ?_ <;> (simp; done)) | (refine PartAt.all ?_; (simp; done))) (by rfl) ?_))|(refine st_build3 (m := 12) (by rfl) (by rfl) (by kernel_rfl) (by rfl) (E2_len _) (E2_len _) (E2_len _) (by rfl) ?_)|((refine st_store_LV (m := 36) (by rfl) (by rfl) (by repeat first|apply Find.here|apply Find.there) (by rfl) (by simp) (J36_len _ _ _) ?_))|refine Z01 ?_|refine Z02 ?_|refine Z03 ?_|refine Z04 ?_|refine Z05 ?_|refine Z06 ?_|refine Z07 ?_|refine Z08 ?_|refine Z09 ?_|refine Z10 ?_|refine Z11 ?_|refine Z12 ?_|refine Z13 ?_|refine Z14 ?_|refine Z24 ?_|refine Z25 ?_|refine Z26 ?_|refine Z27 ?_|refine Z28 ?_|refine Z29 ?_|refine Z30 ?_|refine Z31 ?_|refine Z32 ?_|refine Z49 ?_|refine Z50 ?_|refine Z51 ?_|refine Z52 ?_|refine Z53 ?_|refine Z65 ?_|refine Z67 ?_|refine Z77 ?_|refine Z78 ?_|refine Z79 ?_|refine Z81 fun _ => ?_|refine Z82 fun _ => ?_)
      refine Zec fun _ hw => post_of hw SubW.nil ⟨?_, rfl⟩
      rfl
  · by_cases hh : Kf.K2.pH x z qx = Kf.K2.zero
    · by_cases hr : Kf.K2.pR y z qy = Kf.K2.zero
      · refine ⟨Kf.K2.tX x y, Kf.K2.tY x y, Kf.K2.tZ y z, ?_, ?_⟩
        · rw [Kf.K2.jp_plus_2 p_3 hz hh hr]
          exact Kf.K2.jp_twice p_3 no2 ho
        · have ht := twice_spec x y z
          generalize Kf.K2.tX x y = X at ht ⊢
          generalize Kf.K2.tY x y = Y at ht ⊢
          generalize Kf.K2.tZ y z = Z at ht ⊢
          have a1 := smulE z z
          have a2 := smulE qx (Kf.K2.mul z z)
          have a3 := ssubE (Kf.K2.mul qx (Kf.K2.mul z z)) x
          have a4 := smulE (Kf.K2.mul z z) z
          have a5 := smulE qy (Kf.K2.mul (Kf.K2.mul z z) z)
          have a6 := ssubE (Kf.K2.mul qy (Kf.K2.mul (Kf.K2.mul z z) z)) y
          rw [show Kf.K2.sub (Kf.K2.mul qx (Kf.K2.mul z z)) x = Kf.K2.pH x z qx from rfl] at a3
          rw [show Kf.K2.sub (Kf.K2.mul qy (Kf.K2.mul (Kf.K2.mul z z) z)) y = Kf.K2.pR y z qy from rfl] at a6
          generalize Kf.K2.mul qx (Kf.K2.mul z z) = c1 at a2 a3
          generalize Kf.K2.mul qy (Kf.K2.mul (Kf.K2.mul z z) z) = c2 at a5 a6
          generalize Kf.K2.mul (Kf.K2.mul z z) z = c3 at a4 a5
          generalize Kf.K2.mul z z = c4 at a1 a2 a4
          generalize Kf.K2.pH x z qx = h at *
          generalize Kf.K2.pR y z qy = r at *
          refine mk_spec Try.func128 rfl rfl rfl fun w _ => ?_
          have hl0 := fun x => D_len 6 x
          have hle := fun x : F2 => E2_len x
          repeat (first|((refine st_eq2v (hr := E2_diff hz) (by rfl) (by rfl) (by rfl) (by kernel_rfl) (by rfl) (by rfl) (by rfl) (by rfl) (by rfl) (by rfl) (by rfl) (by rfl) (by rfl) (by rfl) (by kernel_rfl) (by simp; done) (by simp; done) (by simp; done) (by simp; done) (by rfl) ?_))|(refine st_alloc (v := LV .u64 (List.replicate 12 0)) (by rfl) (by rfl) fun _ => ?_)|(refine st_alloc (E := 97) (v := LV .u64 (List.replicate 36 0)) (by kernel_rfl) (by rfl) fun _ => ?_)|((refine st_build20 (k := .u64) (z := List.replicate 12 0) (by rfl) (by rfl) (by rfl) (by rfl) ?_; rw [zero12]))|(refine st_fld (by rfl) (by first | exact (show _ = some (0, 6) from rfl) | exact (show _ = some (6, 6) from rfl) | exact (show _ = some (0, 12) from rfl) | exact (show _ = some (12, 12) from rfl) | exact (show _ = some (24, 1) from rfl)) (by rfl) (by rfl) ?_)|((refine st_ldp (by rfl) (by repeat first|apply Find.here|apply Find.there) (by rfl) (by rfl) (by first | (refine PartAt.l ?_; (simp; done)) | (refine PartAt.r ?_ ?_ <;> (simp; done)) | (refine PartAt.all ?_; (simp; done))) (by rfl) ?_))|(refine st_build2a (by rfl) (by rfl) (by rfl) (by rfl) (by simp; done) (by rfl) ?_)|(refine st_build20 (by rfl) (by rfl) (by rfl) (by rfl) ?_)|(refine st_eq2 (by rfl) (by rfl) (by rfl) (by kernel_rfl) (by rfl) (by rfl) (by rfl) (by rfl) (by rfl) (by rfl) (by rfl) (by rfl) (by rfl) (by rfl) (by kernel_rfl) (by simp; done) (by simp; done) (by simp; done) (by simp; done) (by rfl) ?_)|((refine st_fld (by rfl) (show _ = some (24, 12) from rfl) (by rfl) (by rfl) ?_))|((refine st_ldp (by rfl) (by repeat first|apply Find.here|apply Find.there) (by rfl) (by rfl) (PartAt.t0 (E2_len _)) (by rfl) ?_))|((refine st_ldp (by rfl) (by repeat first|apply Find.here|apply Find.there) (by rfl) (by rfl) (PartAt.t1 (E2_len _) (E2_len _)) (by rfl) ?_))|((refine st_ldp (by rfl) (by repeat first|apply Find.here|apply Find.there) (by rfl) (by rfl) (PartAt.t2 (E2_len _) (E2_len _) (E2_len _)) (by rfl) ?_))|((refine st_ldpG (by rfl) (by repeat first|apply Find.here|apply Find.there) (by rfl) (by rfl) (by first | (refine PartAt.l ?_; (simp; done)) | (refine PartAt.r ?_ ?_ <;> (simp; done)) | (refine PartAt.all ?_; (simp; done))) (by rfl) ?_))|(refine st_callV (by rfl) (by rfl) (by rfl) (a1) (fun _ _ => trivial) (by rfl) ?_)|refine Z01 ?_|refine Z02 ?_|refine Z03 ?_|refine Z04 ?_|refine Z05 ?_|refine Z06 ?_|refine Z07 ?_|refine Z08 ?_|refine Z09 ?_|refine Z10 ?_|refine Z11 ?_|refine Z12 ?_|refine Z13 ?_|refine Z14 ?_|refine Z24 ?_|refine Z25 ?_|refine Z26 ?_|refine Z27 ?_|refine Z28 ?_|refine Z29 ?_|refine Z30 ?_|refine Z31 ?_|refine Z32 ?_|refine Z49 ?_|refine Z50 ?_|refine Z51 ?_|refine Z52 ?_|refine Z53 ?_|refine Z65 ?_|refine Z67 ?_|refine Z77 ?_|refine Z78 ?_|refine Z79 ?_|refine Z81 fun _ => ?_|refine Z82 fun _ => ?_)
          refine R.st_perm [0, 1, 2, 3, 4, 5, 6, 7, 8] (by rfl) ?_
          repeat (first|refine R.Zpf (by rfl)
              (by intro _ _ _;(first|(refine st_fld (by rfl) (by first | exact (show _ = some (0, 6) from rfl) | exact (show _ = some (6, 6) from rfl) | exact (show _ = some (0, 12) from rfl) | exact (show _ = some (12, 12) from rfl) | exact (show _ = some (24, 1) from rfl)) (by rfl) (by rfl) ?_)|(refine st_build2a (by rfl) (by rfl) (by rfl) (by rfl) (by simp; done) (by rfl) ?_)|(refine st_build20 (by rfl) (by rfl) (by rfl) (by rfl) ?_)|(refine st_eq2 (by rfl) (by rfl) (by rfl) (by kernel_rfl) (by rfl) (by rfl) (by rfl) (by rfl) (by rfl) (by rfl) (by rfl) (by rfl) (by rfl) (by rfl) (by kernel_rfl) (by simp; done) (by simp; done) (by simp; done) (by simp; done) (by rfl) ?_)|refine Z01 ?_|refine Z02 ?_|refine Z49 ?_|refine Z50 ?_|refine Z65 ?_|refine Z77 ?_|refine Z78 ?_|refine Z79 ?_);exact Zq) ?_|refine R.Zpp (by rfl)
              (by intro _ _ _;(first|refine Z24 ?_|refine Z25 ?_|refine Z26 ?_|refine Z27 ?_|refine Z28 ?_|refine Z67 ?_);exact Zq) ?_|refine R.Zpp (by rfl)
              (by intro _ _ _;(refine st_ldp (by rfl) (by repeat first|apply Find.here|apply Find.there) (by rfl) (by rfl) (by first | (refine PartAt.l ?_; (simp; done)) | (refine PartAt.r ?_ ?_ <;> (simp; done)) | (refine PartAt.all ?_; (simp; done))) (by rfl) ?_);exact Zq) ?_|refine R.Zpp (by rfl)
              (by intro _ _ _;(refine st_ldp (by rfl) (by repeat first|apply Find.here|apply Find.there) (by rfl) (by rfl) (PartAt.t0 (E2_len _)) (by rfl) ?_);exact Zq) ?_|refine R.Zpp (by rfl)
              (by intro _ _ _;(refine st_ldp (by rfl) (by repeat first|apply Find.here|apply Find.there) (by rfl) (by rfl) (PartAt.t1 (E2_len _) (E2_len _)) (by rfl) ?_);exact Zq) ?_|refine R.Zpp (by rfl)
              (by intro _ _ _;(refine st_ldp (by rfl) (by repeat first|apply Find.here|apply Find.there) (by rfl) (by rfl) (PartAt.t2 (E2_len _) (E2_len _) (E2_len _)) (by rfl) ?_);exact Zq) ?_|refine R.Zpp (by rfl)
              (by intro _ _ _;(refine st_ldpG (by rfl) (by repeat first|apply Find.here|apply Find.there) (by rfl) (by rfl) (by first | (refine PartAt.l ?_; (simp; done)) | (refine PartAt.r ?_ ?_ <;> (simp; done)) | (refine PartAt.all ?_; (simp; done))) (by rfl) ?_);exact Zq) ?_|refine R.Zpp (by rfl)
              (by intro _ _ _;refine st_callV (by rfl) (by rfl) (by rfl) (a2) (fun _ _ => trivial) (by rfl) ?_;exact Zq) ?_|refine R.Zpp (by rfl)
              (by intro _ _ _;refine st_callV (by rfl) (by rfl) (by rfl) (a3) (fun _ _ => trivial) (by rfl) ?_;exact Zq) ?_|refine R.Zps (by rfl)
              (by intro _ _ _;(first|refine Z29 ?_|refine Z30 ?_|refine Z31 ?_|refine Z32 ?_);exact Zqq) ?_|refine R.Zpb (by rfl)
              (by intro _ _ _;refine st_alloc (v := LV .u64 (List.replicate 12 0)) (by rfl) (by rfl) fun _ => ?_;exact R.Zpbx) fun _ => ?_|refine R.Zpn (by rfl)
              (by intro _ _ _;(first|refine Z81 fun _ => ?_|refine Z82 fun _ => ?_);exact R.Zpx) fun _ => ?_|refine R.Zpo (by rfl) ?_)
          refine R.Zp0 ?_
          repeat (first|refine Z01 ?_|refine Z02 ?_|refine Z03 ?_|refine Z04 ?_|refine Z05 ?_|refine Z06 ?_|refine Z07 ?_|refine Z08 ?_|refine Z09 ?_|refine Z10 ?_|refine Z11 ?_|refine Z12 ?_|refine Z13 ?_|refine Z14 ?_|refine Z24 ?_|refine Z25 ?_|refine Z26 ?_|refine Z27 ?_|refine Z28 ?_|refine Z29 ?_|refine Z30 ?_|refine Z31 ?_|refine Z32 ?_|refine Z49 ?_|refine Z50 ?_|refine Z51 ?_|refine Z52 ?_|refine Z53 ?_|refine Z65 ?_|refine Z67 ?_|refine Z77 ?_|refine Z78 ?_|refine Z79 ?_|refine Z81 fun _ => ?_|refine Z82 fun _ => ?_)
          refine R.st_perm [0, 1, 2, 3, 4, 5, 6, 7, 8, 9, 10, 11] (by rfl) ?_
          repeat (first|refine R.Zpf (by rfl)
              (by intro _ _ _;(first|(refine st_fld (by rfl) (by first | exact (show _ = some (0, 6) from rfl) | exact (show _ = some (6, 6) from rfl) | exact (show _ = some (0, 12) from rfl) | exact (show _ = some (12, 12) from rfl) | exact (show _ = some (24, 1) from rfl)) (by rfl) (by rfl) ?_)|(refine st_build2a (by rfl) (by rfl) (by rfl) (by rfl) (by simp; done) (by rfl) ?_)|(refine st_build20 (by rfl) (by rfl) (by rfl) (by rfl) ?_)|(refine st_eq2 (by rfl) (by rfl) (by rfl) (by kernel_rfl) (by rfl) (by rfl) (by rfl) (by rfl) (by rfl) (by rfl) (by rfl) (by rfl) (by rfl) (by rfl) (by kernel_rfl) (by simp; done) (by simp; done) (by simp; done) (by simp; done) (by rfl) ?_)|((refine st_fld (by rfl) (show _ = some (24, 12) from rfl) (by rfl) (by rfl) ?_))|refine Z01 ?_|refine Z02 ?_|refine Z49 ?_|refine Z50 ?_|refine Z65 ?_|refine Z77 ?_|refine Z78 ?_|refine Z79 ?_);exact Zq) ?_|refine R.Zpp (by rfl)
              (by intro _ _ _;(first|refine Z24 ?_|refine Z25 ?_|refine Z26 ?_|refine Z27 ?_|refine Z28 ?_|refine Z67 ?_);exact Zq) ?_|refine R.Zpp (by rfl)
              (by intro _ _ _;(refine st_ldp (by rfl) (by repeat first|apply Find.here|apply Find.there) (by rfl) (by rfl) (by first | (refine PartAt.l ?_; (simp; done)) | (refine PartAt.r ?_ ?_ <;> (simp; done)) | (refine PartAt.all ?_; (simp; done))) (by rfl) ?_);exact Zq) ?_|refine R.Zpp (by rfl)
              (by intro _ _ _;(refine st_ldp (by rfl) (by repeat first|apply Find.here|apply Find.there) (by rfl) (by rfl) (PartAt.t0 (E2_len _)) (by rfl) ?_);exact Zq) ?_|refine R.Zpp (by rfl)
              (by intro _ _ _;(refine st_ldp (by rfl) (by repeat first|apply Find.here|apply Find.there) (by rfl) (by rfl) (PartAt.t1 (E2_len _) (E2_len _)) (by rfl) ?_);exact Zq) ?_|refine R.Zpp (by rfl)
              (by intro _ _ _;(refine st_ldp (by rfl) (by repeat first|apply Find.here|apply Find.there) (by rfl) (by rfl) (PartAt.t2 (E2_len _) (E2_len _) (E2_len _)) (by rfl) ?_);exact Zq) ?_|refine R.Zpp (by rfl)
              (by intro _ _ _;(refine st_ldpG (by rfl) (by repeat first|apply Find.here|apply Find.there) (by rfl) (by rfl) (by first | (refine PartAt.l ?_; (simp; done)) | (refine PartAt.r ?_ ?_ <;> (simp; done)) | (refine PartAt.all ?_; (simp; done))) (by rfl) ?_);exact Zq) ?_|refine R.Zpp (by rfl)
              (by intro _ _ _;refine st_callV (by rfl) (by rfl) (by rfl) (a4) (fun _ _ => trivial) (by rfl) ?_;exact Zq) ?_|refine R.Zpp (by rfl)
              (by intro _ _ _;refine st_callV (by rfl) (by rfl) (by rfl) (a5) (fun _ _ => trivial) (by rfl) ?_;exact Zq) ?_|refine R.Zpp (by rfl)
              (by intro _ _ _;refine st_callV (by rfl) (by rfl) (by rfl) (a6) (fun _ _ => trivial) (by rfl) ?_;exact Zq) ?_|refine R.Zps (by rfl)
              (by intro _ _ _;(first|refine Z29 ?_|refine Z30 ?_|refine Z31 ?_|refine Z32 ?_);exact Zqq) ?_|refine R.Zpb (by rfl)
              (by intro _ _ _;refine st_alloc (v := LV .u64 (List.replicate 12 0)) (by rfl) (by rfl) fun _ => ?_;exact R.Zpbx) fun _ => ?_|refine R.Zpn (by rfl)
              (by intro _ _ _;(first|refine Z81 fun _ => ?_|refine Z82 fun _ => ?_);exact R.Zpx) fun _ => ?_|refine R.Zpo (by rfl) ?_)
          refine R.Zp0 ?_
          have hh2 : (decide (D 6 h.re.val = D 6 (Kf.K2.zero : F2).re.val) && decide (D 6 h.im.val = D 6 (Kf.K2.zero : F2).im.val)) = true := by rw [hh]; exact E2_same _
          have hr2 : (decide (D 6 r.re.val = D 6 (Kf.K2.zero : F2).re.val) && decide (D 6 r.im.val = D 6 (Kf.K2.zero : F2).im.val)) = true := by rw [hr]; exact E2_same _
          repeat (first|((refine st_eq2v (hr := hh2) (by rfl) (by rfl) (by rfl) (by kernel_rfl) (by rfl) (by rfl) (by rfl) (by rfl) (by rfl) (by rfl) (by rfl) (by rfl) (by rfl) (by rfl) (by kernel_rfl) (by simp; done) (by simp; done) (by simp; done) (by simp; done) (by rfl) ?_))|((refine st_eq2v (hr := hr2) (by rfl) (by rfl) (by rfl) (by kernel_rfl) (by rfl) (by rfl) (by rfl) (by rfl) (by rfl) (by rfl) (by rfl) (by rfl) (by rfl) (by rfl) (by kernel_rfl) (by simp; done) (by simp; done) (by simp; done) (by simp; done) (by rfl) ?_))|(refine st_alloc (v := LV .u64 (List.replicate 12 0)) (by rfl) (by rfl) fun _ => ?_)|(refine st_callV (by rfl) (by rfl) (by rfl) (ht) (fun _ _ => trivial) (by rfl) ?_)|((refine st_store_LV (m := 36) (by rfl) (by rfl) (by repeat first|apply Find.here|apply Find.there) (by rfl) (by simp) (J36_len _ _ _) ?_))|refine Z01 ?_|refine Z02 ?_|refine Z03 ?_|refine Z04 ?_|refine Z05 ?_|refine Z06 ?_|refine Z07 ?_|refine Z08 ?_|refine Z09 ?_|refine Z10 ?_|refine Z11 ?_|refine Z12 ?_|refine Z13 ?_|refine Z14 ?_|refine Z24 ?_|refine Z25 ?_|refine Z26 ?_|refine Z27 ?_|refine Z28 ?_|refine Z29 ?_|refine Z30 ?_|refine Z31 ?_|refine Z32 ?_|refine Z49 ?_|refine Z50 ?_|refine Z51 ?_|refine Z52 ?_|refine Z53 ?_|refine Z65 ?_|refine Z67 ?_|refine Z77 ?_|refine Z78 ?_|refine Z79 ?_|refine Z81 fun _ => ?_|refine Z82 fun _ => ?_)
          refine Zec fun _ hw => post_of hw SubW.nil ⟨?_, rfl⟩
          rfl
      · refine ⟨Kf.K2.zero, Kf.K2.zero, Kf.K2.zero, ?_, ?_⟩
        · rw [Kf.K2.jp_0, Kf.K2.jp_plus_0 p_3 hz hh hr]
        · have a1 := smulE z z
          have a2 := smulE qx (Kf.K2.mul z z)
          have a3 := ssubE (Kf.K2.mul qx (Kf.K2.mul z z)) x
          have a4 := smulE (Kf.K2.mul z z) z
          have a5 := smulE qy (Kf.K2.mul (Kf.K2.mul z z) z)
          have a6 := ssubE (Kf.K2.mul qy (Kf.K2.mul (Kf.K2.mul z z) z)) y
          rw [show Kf.K2.sub (Kf.K2.mul qx (Kf.K2.mul z z)) x = Kf.K2.pH x z qx from rfl] at a3
          rw [show Kf.K2.sub (Kf.K2.mul qy (Kf.K2.mul (Kf.K2.mul z z) z)) y = Kf.K2.pR y z qy from rfl] at a6
          generalize Kf.K2.mul qx (Kf.K2.mul z z) = c1 at a2 a3
          generalize Kf.K2.mul qy (Kf.K2.mul (Kf.K2.mul z z) z) = c2 at a5 a6
          generalize Kf.K2.mul (Kf.K2.mul z z) z = c3 at a4 a5
          generalize Kf.K2.mul z z = c4 at a1 a2 a4
          generalize Kf.K2.pH x z qx = h at *
          generalize Kf.K2.pR y z qy = r at *
          refine mk_spec Try.func128 rfl rfl rfl fun w _ => ?_
          have hl0 := fun x => D_len 6 x
          have hle := fun x : F2 => E2_len x
          repeat (first|((refine st_eq2v (hr := E2_diff hz) (by rfl) (by rfl) (by rfl) (by kernel_rfl) (by rfl) (by rfl) (by rfl) (by rfl) (by rfl) (by rfl) (by rfl) (by rfl) (by rfl) (by rfl) (by kernel_rfl) (by simp; done) (by simp; done) (by simp; done) (by simp; done) (by rfl) ?_))|(refine st_alloc (v := LV .u64 (List.replicate 12 0)) (by rfl) (by rfl) fun _ => ?_)|(refine st_alloc (E := 97) (v := LV .u64 (List.replicate 36 0)) (by kernel_rfl) (by rfl) fun _ => ?_)|((refine st_build20 (k := .u64) (z := List.replicate 12 0) (by rfl) (by rfl) (by rfl) (by rfl) ?_; rw [zero12]))|(refine st_fld (by rfl) (by first | exact (show _ = some (0, 6) from rfl) | exact (show _ = some (6, 6) from rfl) | exact (show _ = some (0, 12) from rfl) | exact (show _ = some (12, 12) from rfl) | exact (show _ = some (24, 1) from rfl)) (by rfl) (by rfl) ?_)|((refine st_ldp (by rfl) (by repeat first|apply Find.here|apply Find.there) (by rfl) (by rfl) (by first | (refine PartAt.l ?_; (simp; done)) | (refine PartAt.r ?_ ?_ <;> (simp; done)) | (refine PartAt.all ?_; (simp; done))) (by rfl) ?_))|(refine st_build2a (by rfl) (by rfl) (by rfl) (by rfl) (by simp; done) (by rfl) ?_)|(refine st_build20 (by rfl) (by rfl) (by rfl) (by rfl) ?_)|(refine st_eq2 (by rfl) (by rfl) (by rfl) (by kernel_rfl) (by rfl) (by rfl) (by rfl) (by rfl) (by rfl) (by rfl) (by rfl) (by rfl) (by rfl) (by rfl) (by kernel_rfl) (by simp; done) (by simp; done) (by simp; done) (by simp; done) (by rfl) ?_)|((refine st_fld (by rfl) (show _ = some (24, 12) from rfl) (by rfl) (by rfl) ?_))|((refine st_ldp (by rfl) (by repeat first|apply Find.here|apply Find.there) (by rfl) (by rfl) (PartAt.t0 (E2_len _)) (by rfl) ?_))|((refine st_ldp (by rfl) (by repeat first|apply Find.here|apply Find.there) (by rfl) (by rfl) (PartAt.t1 (E2_len _) (E2_len _)) (by rfl) ?_))|((refine st_ldp (by rfl) (by repeat first|apply Find.here|apply Find.there) (by rfl) (by rfl) (PartAt.t2 (E2_len _) (E2_len _) (E2_len _)) (by rfl) ?_))|((refine st_ldpG (by rfl) (by repeat first|apply Find.here|apply Find.there) (by rfl) (by rfl) (by first | (refine PartAt.l ?_; (simp; done)) | (refine PartAt.r ?_ ?_ <;> (simp; done)) | (refine PartAt.all ?_; (simp; done))) (by rfl) ?_))|(refine st_callV (by rfl) (by rfl) (by rfl) (a1) (fun _ _ => trivial) (by rfl) ?_)|refine Z01 ?_|refine Z02 ?_|refine Z03 ?_|refine Z04 ?_|refine Z05 ?_|refine Z06 ?_|refine Z07 ?_|refine Z08 ?_|refine Z09 ?_|refine Z10 ?_|refine Z11 ?_|refine Z12 ?_|refine Z13 ?_|refine Z14 ?_|refine Z24 ?_|refine Z25 ?_|refine Z26 ?_|refine Z27 ?_|refine Z28 ?_|refine Z29 ?_|refine Z30 ?_|refine Z31 ?_|refine Z32 ?_|refine Z49 ?_|refine Z50 ?_|refine Z51 ?_|refine Z52 ?_|refine Z53 ?_|refine Z65 ?_|refine Z67 ?_|refine Z77 ?_|refine Z78 ?_|refine Z79 ?_|refine Z81 fun _ => ?_|refine Z82 fun _ => ?_)
          refine R.st_perm [0, 1, 2, 3, 4, 5, 6, 7, 8] (by rfl) ?_
          repeat (first|refine R.Zpf (by rfl)
              (by intro _ _ _;(first|(refine st_fld (by rfl) (by first | exact (show _ = some (0, 6) from rfl) | exact (show _ = some (6, 6) from rfl) | exact (show _ = some (0, 12) from rfl) | exact (show _ = some (12, 12) from rfl) | exact (show _ = some (24, 1) from rfl)) (by rfl) (by rfl) ?_)|(refine st_build2a (by rfl) (by rfl) (by rfl) (by rfl) (by simp; done) (by rfl) ?_)|(refine st_build20 (by rfl) (by rfl) (by rfl) (by rfl) ?_)|(refine st_eq2 (by rfl) (by rfl) (by rfl) (by kernel_rfl) (by rfl) (by rfl) (by rfl) (by rfl) (by rfl) (by rfl) (by rfl) (by rfl) (by rfl) (by rfl) (by kernel_rfl) (by simp; done) (by simp; done) (by simp; done) (by simp; done) (by rfl) ?_)|refine Z01 ?_|refine Z02 ?_|refine Z49 ?_|refine Z50 ?_|refine Z65 ?_|refine Z77 ?_|refine Z78 ?_|refine Z79 ?_);exact Zq) ?_|refine R.Zpp (by rfl)
              (by intro _ _ _;(first|refine Z24 ?_|refine Z25 ?_|refine Z26 ?_|refine Z27 ?_|refine Z28 ?_|refine Z67 ?_);exact Zq) ?_|refine R.Zpp (by rfl)
              (by intro _ _ _;(refine st_ldp (by rfl) (by repeat first|apply Find.here|apply Find.there) (by rfl) (by rfl) (by first | (refine PartAt.l ?_; (simp; done)) | (refine PartAt.r ?_ ?_ <;> (simp; done)) | (refine PartAt.all ?_; (simp; done))) (by rfl) ?_);exact Zq) ?_|refine R.Zpp (by rfl)
              (by intro _ _ _;(refine st_ldp (by rfl) (by repeat first|apply Find.here|apply Find.there) (by rfl) (by rfl) (PartAt.t0 (E2_len _)) (by rfl) ?_);exact Zq) ?_|refine R.Zpp (by rfl)
              (by intro _ _ _;(refine st_ldp (by rfl) (by repeat first|apply Find.here|apply Find.there) (by rfl) (by rfl) (PartAt.t1 (E2_len _) (E2_len _)) (by rfl) ?_);exact Zq) ?_|refine R.Zpp (by rfl)
              (by intro _ _ _;(refine st_ldp (by rfl) (by repeat first|apply Find.here|apply Find.there) (by rfl) (by rfl) (PartAt.t2 (E2_len _) (E2_len _) (E2_len _)) (by rfl) ?_);exact Zq) ?_|refine R.Zpp (by rfl)
              (by intro _ _ _;(refine st_ldpG (by rfl) (by repeat first|apply Find.here|apply Find.there) (by rfl) (by rfl) (by first | (refine PartAt.l ?_; (simp; done)) | (refine PartAt.r ?_ ?_ <;> (simp; done)) | (refine PartAt.all ?_; (simp; done))) (by rfl) ?_);exact Zq) ?_|refine R.Zpp (by rfl)
              (by intro _ _ _;refine st_callV (by rfl) (by rfl) (by rfl) (a2) (fun _ _ => trivial) (by rfl) ?_;exact Zq) ?_|refine R.Zpp (by rfl)
              (by intro _ _ _;refine st_callV (by rfl) (by rfl) (by rfl) (a3) (fun _ _ => trivial) (by rfl) ?_;exact Zq) ?_|refine R.Zps (by rfl)
              (by intro _ _ _;(first|refine Z29 ?_|refine Z30 ?_|refine Z31 ?_|refine Z32 ?_);exact Zqq) ?_|refine R.Zpb (by rfl)
              (by intro _ _ _;refine st_alloc (v := LV .u64 (List.replicate 12 0)) (by rfl) (by rfl) fun _ => ?_;exact R.Zpbx) fun _ => ?_|refine R.Zpn (by rfl)
              (by intro _ _ _;(first|refine Z81 fun _ => ?_|refine Z82 fun _ => ?_);exact R.Zpx) fun _ => ?_|refine R.Zpo (by rfl) ?_)
          refine R.Zp0 ?_
          repeat (first|refine Z01 ?_|refine Z02 ?_|refine Z03 ?_|refine Z04 ?_|refine Z05 ?_|refine Z06 ?_|refine Z07 ?_|refine Z08 ?_|refine Z09 ?_|refine Z10 ?_|refine Z11 ?_|refine Z12 ?_|refine Z13 ?_|refine Z14 ?_|refine Z24 ?_|refine Z25 ?_|refine Z26 ?_|refine Z27 ?_|refine Z28 ?_|refine Z29 ?_|refine Z30 ?_|refine Z31 ?_|refine Z32 ?_|refine Z49 ?_|refine Z50 ?_|refine Z51 ?_|refine Z52 ?_|refine Z53 ?_|refine Z65 ?_|refine Z67 ?_|refine Z77 ?_|refine Z78 ?_|refine Z79 ?_|refine Z81 fun _ => ?_|refine Z82 fun _ => ?_)
          refine R.st_perm [0, 1, 2, 3, 4, 5, 6, 7, 8, 9, 10, 11] (by rfl) ?_
          repeat (first|refine R.Zpf (by rfl)
              (by intro _ _ _;(first|(refine st_fld (by rfl) (by first | exact (show _ = some (0, 6) from rfl) | exact (show _ = some (6, 6) from rfl) | exact (show _ = some (0, 12) from rfl) | exact (show _ = some (12, 12) from rfl) | exact (show _ = some (24, 1) from rfl)) (by rfl) (by rfl) ?_)|(refine st_build2a (by rfl) (by rfl) (by rfl) (by rfl) (by simp; done) (by rfl) ?_)|(refine st_build20 (by rfl) (by rfl) (by rfl) (by rfl) ?_)|(refine st_eq2 (by rfl) (by rfl) (by rfl) (by kernel_rfl) (by rfl) (by rfl) (by rfl) (by rfl) (by rfl) (by rfl) (by rfl) (by rfl) (by rfl) (by rfl) (by kernel_rfl) (by simp; done) (by simp; done) (by simp; done) (by simp; done) (by rfl) ?_)|((refine st_fld (by rfl) (show _ = some (24, 12) from rfl) (by rfl) (by rfl) ?_))|refine Z01 ?_|refine Z02 ?_|refine Z49 ?_|refine Z50 ?_|refine Z65 ?_|refine Z77 ?_|refine Z78 ?_|refine Z79 ?_);exact Zq) ?_|refine R.Zpp (by rfl)
              (by intro _ _ _;(first|refine Z24 ?_|refine Z25 ?_|refine Z26 ?_|refine Z27 ?_|refine Z28 ?_|refine Z67 ?_);exact Zq) ?_|refine R.Zpp (by rfl)
              (by intro _ _ _;(refine st_ldp (by rfl) (by repeat first|apply Find.here|apply Find.there) (by rfl) (by rfl) (by first | (refine PartAt.l ?_; (simp; done)) | (refine PartAt.r ?_ ?_ <;> (simp; done)) | (refine PartAt.all ?_; (simp; done))) (by rfl) ?_);exact Zq) ?_|refine R.Zpp (by rfl)
              (by intro _ _ _;(refine st_ldp (by rfl) (by repeat first|apply Find.here|apply Find.there) (by rfl) (by rfl) (PartAt.t0 (E2_len _)) (by rfl) ?_);exact Zq) ?_|refine R.Zpp (by rfl)
              (by intro _ _ _;(refine st_ldp (by rfl) (by repeat first|apply Find.here|apply Find.there) (by rfl) (by rfl) (PartAt.t1 (E2_len _) (E2_len _)) (by rfl) ?_);exact Zq) ?_|refine R.Zpp (by rfl)
              (by intro _ _ _;(refine st_ldp (by rfl) (by repeat first|apply Find.here|apply Find.there) (by rfl) (by rfl) (PartAt.t2 (E2_len _) (E2_len _) (E2_len _)) (by rfl) ?_);exact Zq) ?_|refine R.Zpp (by rfl)
              (by intro _ _ _;(refine st_ldpG (by rfl) (by repeat first|apply Find.here|apply Find.there) (by rfl) (by rfl) (by first | (refine PartAt.l ?_; (simp; done)) | (refine PartAt.r ?_ ?_ <;> (simp; done)) | (refine PartAt.all ?_; (simp; done))) (by rfl) ?_);exact Zq) ?_|refine R.Zpp (by rfl)
              (by intro _ _ _;refine st_callV (by rfl) (by rfl) (by rfl) (a4) (fun _ _ => trivial) (by rfl) ?_;exact Zq) ?_|refine R.Zpp (by rfl)
              (by intro _ _ _;refine st_callV (by rfl) (by rfl) (by rfl) (a5) (fun _ _ => trivial) (by rfl) ?_;exact Zq) ?_|refine R.Zpp (by rfl)
              (by intro _ _ _;refine st_callV (by rfl) (by rfl) (by rfl) (a6) (fun _ _ => trivial) (by rfl) ?_;exact Zq) ?_|refine R.Zps (by rfl)
              (by intro _ _ _;(first|refine Z29 ?_|refine Z30 ?_|refine Z31 ?_|refine Z32 ?_);exact Zqq) ?_|refine R.Zpb (by rfl)
              (by intro _ _ _;refine st_alloc (v := LV .u64 (List.replicate 12 0)) (by rfl) (by rfl) fun _ => ?_;exact R.Zpbx) fun _ => ?_|refine R.Zpn (by rfl)
              (by intro _ _ _;(first|refine Z81 fun _ => ?_|refine Z82 fun _ => ?_);exact R.Zpx) fun _ => ?_|refine R.Zpo (by rfl) ?_)
          refine R.Zp0 ?_
          have hh2 : (decide (D 6 h.re.val = D 6 (Kf.K2.zero : F2).re.val) && decide (D 6 h.im.val = D 6 (Kf.K2.zero : F2).im.val)) = true := by rw [hh]; exact E2_same _
          repeat (first|((refine st_eq2v (hr := E2_diff hr) (by rfl) (by rfl) (by rfl) (by kernel_rfl) (by rfl) (by rfl) (by rfl) (by rfl) (by rfl) (by rfl) (by rfl) (by rfl) (by rfl) (by rfl) (by kernel_rfl) (by simp; done) (by simp; done) (by simp; done) (by simp; done) (by rfl) ?_))|((refine st_eq2v (hr := hh2) (by rfl) (by rfl) (by rfl) (by kernel_rfl) (by rfl) (by rfl) (by rfl) (by rfl) (by rfl) (by rfl) (by rfl) (by rfl) (by rfl) (by rfl) (by kernel_rfl) (by simp; done) (by simp; done) (by simp; done) (by simp; done) (by rfl) ?_))|(refine st_alloc (v := LV .u64 (List.replicate 12 0)) (by rfl) (by rfl) fun _ => ?_)|((refine st_build20 (t := 97) (k := .u64) (z := List.replicate 36 0) (by rfl) (by rfl) (by kernel_rfl) (by rfl) ?_; rw [zero36]))|((refine st_store_LV (m := 36) (by rfl) (by rfl) (by repeat first|apply Find.here|apply Find.there) (by rfl) (by simp) (J36_len _ _ _) ?_))|refine Z01 ?_|refine Z02 ?_|refine Z03 ?_|refine Z04 ?_|refine Z05 ?_|refine Z06 ?_|refine Z07 ?_|refine Z08 ?_|refine Z09 ?_|refine Z10 ?_|refine Z11 ?_|refine Z12 ?_|refine Z13 ?_|refine Z14 ?_|refine Z24 ?_|refine Z25 ?_|refine Z26 ?_|refine Z27 ?_|refine Z28 ?_|refine Z29 ?_|refine Z30 ?_|refine Z31 ?_|refine Z32 ?_|refine Z49 ?_|refine Z50 ?_|refine Z51 ?_|refine Z52 ?_|refine Z53 ?_|refine Z65 ?_|refine Z67 ?_|refine Z77 ?_|refine Z78 ?_|refine Z79 ?_|refine Z81 fun _ => ?_|refine Z82 fun _ => ?_)
          refine Zec fun _ hw => post_of hw SubW.nil ⟨?_, rfl⟩
          rfl
    · refine ⟨_, _, _, Kf.K2.jp_plus p_3 hz hh, ?_⟩
      have b1 := smulE (Kf.K2.pH x z qx) (Kf.K2.pH x z qx)
      have b2 := smulE (Kf.K2.mul (Kf.K2.pH x z qx) (Kf.K2.pH x z qx)) (Kf.K2.pH x z qx)
      have b3 := smulE x (Kf.K2.mul (Kf.K2.pH x z qx) (Kf.K2.pH x z qx))
      have b4 := smulE (Kf.K2.pR y z qy) (Kf.K2.pR y z qy)
      have b5 := ssubE (Kf.K2.mul (Kf.K2.pR y z qy) (Kf.K2.pR y z qy)) (Kf.K2.mul (Kf.K2.mul (Kf.K2.pH x z qx) (Kf.K2.pH x z qx)) (Kf.K2.pH x z qx))
      have b6 := saddE (Kf.K2.pV x (Kf.K2.pH x z qx)) (Kf.K2.pV x (Kf.K2.pH x z qx))
      have b7 := ssubE (Kf.K2.sub (Kf.K2.mul (Kf.K2.pR y z qy) (Kf.K2.pR y z qy)) (Kf.K2.mul (Kf.K2.mul (Kf.K2.pH x z qx) (Kf.K2.pH x z qx)) (Kf.K2.pH x z qx))) (Kf.K2.add (Kf.K2.pV x (Kf.K2.pH x z qx)) (Kf.K2.pV x (Kf.K2.pH x z qx)))
      have d1 := ssubE (Kf.K2.pV x (Kf.K2.pH x z qx)) (Kf.K2.pX x (Kf.K2.pH x z qx) (Kf.K2.pR y z qy))
      have d2 := smulE (Kf.K2.pR y z qy) (Kf.K2.sub (Kf.K2.pV x (Kf.K2.pH x z qx)) (Kf.K2.pX x (Kf.K2.pH x z qx) (Kf.K2.pR y z qy)))
      have d3 := smulE y (Kf.K2.mul (Kf.K2.mul (Kf.K2.pH x z qx) (Kf.K2.pH x z qx)) (Kf.K2.pH x z qx))
      have d4 := ssubE (Kf.K2.mul (Kf.K2.pR y z qy) (Kf.K2.sub (Kf.K2.pV x (Kf.K2.pH x z qx)) (Kf.K2.pX x (Kf.K2.pH x z qx) (Kf.K2.pR y z qy)))) (Kf.K2.mul y (Kf.K2.mul (Kf.K2.mul (Kf.K2.pH x z qx) (Kf.K2.pH x z qx)) (Kf.K2.pH x z qx)))
      have d5 := smulE z (Kf.K2.pH x z qx)
      have a1 := smulE z z
      have a2 := smulE qx (Kf.K2.mul z z)
      have a3 := ssubE (Kf.K2.mul qx (Kf.K2.mul z z)) x
      have a4 := smulE (Kf.K2.mul z z) z
      have a5 := smulE qy (Kf.K2.mul (Kf.K2.mul z z) z)
      have a6 := ssubE (Kf.K2.mul qy (Kf.K2.mul (Kf.K2.mul z z) z)) y
      rw [show Kf.K2.sub (Kf.K2.mul qx (Kf.K2.mul z z)) x = Kf.K2.pH x z qx from rfl] at a3
      rw [show Kf.K2.sub (Kf.K2.mul qy (Kf.K2.mul (Kf.K2.mul z z) z)) y = Kf.K2.pR y z qy from rfl] at a6
      generalize Kf.K2.mul qx (Kf.K2.mul z z) = c1 at a2 a3
      generalize Kf.K2.mul qy (Kf.K2.mul (Kf.K2.mul z z) z) = c2 at a5 a6
      generalize Kf.K2.mul (Kf.K2.mul z z) z = c3 at a4 a5
      generalize Kf.K2.mul z z = c4 at a1 a2 a4
      generalize Kf.K2.pH x z qx = h at *
      generalize Kf.K2.pR y z qy = r at *
      refine mk_spec Try.func128 rfl rfl rfl fun w _ => ?_
      have hl0 := fun x => D_len 6 x
      have hle := fun x : F2 => E2_len x
      repeat (first|((refine st_eq2v (hr := E2_diff hz) (by rfl) (by rfl) (by rfl) (by kernel_rfl) (by rfl) (by rfl) (by rfl) (by rfl) (by rfl) (by rfl) (by rfl) (by rfl) (by rfl) (by rfl) (by kernel_rfl) (by simp; done) (by simp; done) (by simp; done) (by simp; done) (by rfl) ?_))|(refine st_alloc (v := LV .u64 (List.replicate 12 0)) (by rfl) (by rfl) fun _ => ?_)|(refine st_alloc (E := 97) (v := LV .u64 (List.replicate 36 0)) (by kernel_rfl) (by rfl) fun _ => ?_)|((refine st_build20 (k := .u64) (z := List.replicate 12 0) (by rfl) (by rfl) (by rfl) (by rfl) ?_; rw [zero12]))|(refine st_fld (by rfl) (by first | exact (show _ = some (0, 6) from rfl) | exact (show _ = some (6, 6) from rfl) | exact (show _ = some (0, 12) from rfl) | exact (show _ = some (12, 12) from rfl) | exact (show _ = some (24, 1) from rfl)) (by rfl) (by rfl) ?_)|((refine st_ldp (by rfl) (by repeat first|apply Find.here|apply Find.there) (by rfl) (by rfl) (by first | (refine PartAt.l ?_; (simp; done)) | (refine PartAt.r ?_ ?_ <;> (simp; done)) | (refine PartAt.all ?_; (simp; done))) (by rfl) ?_))|(refine st_build2a (by rfl) (by rfl) (by rfl) (by rfl) (by simp; done) (by rfl) ?_)|(refine st_build20 (by rfl) (by rfl) (by rfl) (by rfl) ?_)|(refine st_eq2 (by rfl) (by rfl) (by rfl) (by kernel_rfl) (by rfl) (by rfl) (by rfl) (by rfl) (by rfl) (by rfl) (by rfl) (by rfl) (by rfl) (by rfl) (by kernel_rfl) (by simp; done) (by simp; done) (by simp; done) (by simp; done) (by rfl) ?_)|((refine st_fld (by rfl) (show _ = some (24, 12) from rfl) (by rfl) (by rfl) ?_))|((refine st_ldp (by rfl) (by repeat first|apply Find.here|apply Find.there) (by rfl) (by rfl) (PartAt.t0 (E2_len _)) (by rfl) ?_))|((refine st_ldp (by rfl) (by repeat first|apply Find.here|apply Find.there) (by rfl) (by rfl) (PartAt.t1 (E2_len _) (E2_len _)) (by rfl) ?_))|((refine st_ldp (by rfl) (by repeat first|apply Find.here|apply Find.there) (by rfl) (by rfl) (PartAt.t2 (E2_len _) (E2_len _) (E2_len _)) (by rfl) ?_))|((refine st_ldpG (by rfl) (by repeat first|apply Find.here|apply Find.there) (by rfl) (by rfl) (by first | (refine PartAt.l ?_; (simp; done)) | (refine PartAt.r ?_ ?_ <;> (simp; done)) | (refine PartAt.all ?_; (simp; done))) (by rfl) ?_))|(refine st_callV (by rfl) (by rfl) (by rfl) (a1) (fun _ _ => trivial) (by rfl) ?_)|refine Z01 ?_|refine Z02 ?_|refine Z03 ?_|refine Z04 ?_|refine Z05 ?_|refine Z06 ?_|refine Z07 ?_|refine Z08 ?_|refine Z09 ?_|refine Z10 ?_|refine Z11 ?_|refine Z12 ?_|refine Z13 ?_|refine Z14 ?_|refine Z24 ?_|refine Z25 ?_|refine Z26 ?_|refine Z27 ?_|refine Z28 ?_|refine Z29 ?_|refine Z30 ?_|refine Z31 ?_|refine Z32 ?_|refine Z49 ?_|refine Z50 ?_|refine Z51 ?_|refine Z52 ?_|refine Z53 ?_|refine Z65 ?_|refine Z67 ?_|refine Z77 ?_|refine Z78 ?_|refine Z79 ?_|refine Z81 fun _ => ?_|refine Z82 fun _ => ?_)
      refine R.st_perm [0, 1, 2, 3, 4, 5, 6, 7, 8] (by rfl) ?_
      repeat (first|refine R.Zpf (by rfl)
          (by intro _ _ _;(first|(refine st_fld (by rfl) (by first | exact (show _ = some (0, 6) from rfl) | exact (show _ = some (6, 6) from rfl) | exact (show _ = some (0, 12) from rfl) | exact (show _ = some (12, 12) from rfl) | exact (show _ = some (24, 1) from rfl)) (by rfl) (by rfl) ?_)|(refine st_build2a (by rfl) (by rfl) (by rfl) (by rfl) (by simp; done) (by rfl) ?_)|(refine st_build20 (by rfl) (by rfl) (by rfl) (by rfl) ?_)|(refine st_eq2 (by rfl) (by rfl) (by rfl) (by kernel_rfl) (by rfl) (by rfl) (by rfl) (by rfl) (by rfl) (by rfl) (by rfl) (by rfl) (by rfl) (by rfl) (by kernel_rfl) (by simp; done) (by simp; done) (by simp; done) (by simp; done) (by rfl) ?_)|refine Z01 ?_|refine Z02 ?_|refine Z49 ?_|refine Z50 ?_|refine Z65 ?_|refine Z77 ?_|refine Z78 ?_|refine Z79 ?_);exact Zq) ?_|refine R.Zpp (by rfl)
          (by intro _ _ _;(first|refine Z24 ?_|refine Z25 ?_|refine Z26 ?_|refine Z27 ?_|refine Z28 ?_|refine Z67 ?_);exact Zq) ?_|refine R.Zpp (by rfl)
          (by intro _ _ _;(refine st_ldp (by rfl) (by repeat first|apply Find.here|apply Find.there) (by rfl) (by rfl) (by first | (refine PartAt.l ?_; (simp; done)) | (refine PartAt.r ?_ ?_ <;> (simp; done)) | (refine PartAt.all ?_; (simp; done))) (by rfl) ?_);exact Zq) ?_|refine R.Zpp (by rfl)
          (by intro _ _ _;(refine st_ldp (by rfl) (by repeat first|apply Find.here|apply Find.there) (by rfl) (by rfl) (PartAt.t0 (E2_len _)) (by rfl) ?_);exact Zq) ?_|refine R.Zpp (by rfl)
          (by intro _ _ _;(refine st_ldp (by rfl) (by repeat first|apply Find.here|apply Find.there) (by rfl) (by rfl) (PartAt.t1 (E2_len _) (E2_len _)) (by rfl) ?_);exact Zq) ?_|refine R.Zpp (by rfl)
          (by intro _ _ _;(refine st_ldp (by rfl) (by repeat first|apply Find.here|apply Find.there) (by rfl) (by rfl) (PartAt.t2 (E2_len _) (E2_len _) (E2_len _)) (by rfl) ?_);exact Zq) ?_|refine R.Zpp (by rfl)
          (by intro _ _ _;(refine st_ldpG (by rfl) (by repeat first|apply Find.here|apply Find.there) (by rfl) (by rfl) (by first | (refine PartAt.l ?_; (simp; done)) | (refine PartAt.r ?_ ?_ <;> (simp; done)) | (refine PartAt.all ?_; (simp; done))) (by rfl) ?_);exact Zq) ?_|refine R.Zpp (by rfl)
          (by intro _ _ _;refine st_callV (by rfl) (by rfl) (by rfl) (a2) (fun _ _ => trivial) (by rfl) ?_;exact Zq) ?_|refine R.Zpp (by rfl)
          (by intro _ _ _;refine st_callV (by rfl) (by rfl) (by rfl) (a3) (fun _ _ => trivial) (by rfl) ?_;exact Zq) ?_|refine R.Zps (by rfl)
          (by intro _ _ _;(first|refine Z29 ?_|refine Z30 ?_|refine Z31 ?_|refine Z32 ?_);exact Zqq) ?_|refine R.Zpb (by rfl)
          (by intro _ _ _;refine st_alloc (v := LV .u64 (List.replicate 12 0)) (by rfl) (by rfl) fun _ => ?_;exact R.Zpbx) fun _ => ?_|refine R.Zpn (by rfl)
          (by intro _ _ _;(first|refine Z81 fun _ => ?_|refine Z82 fun _ => ?_);exact R.Zpx) fun _ => ?_|refine R.Zpo (by rfl) ?_)
      refine R.Zp0 ?_
      repeat (first|refine Z01 ?_|refine Z02 ?_|refine Z03 ?_|refine Z04 ?_|refine Z05 ?_|refine Z06 ?_|refine Z07 ?_|refine Z08 ?_|refine Z09 ?_|refine Z10 ?_|refine Z11 ?_|refine Z12 ?_|refine Z13 ?_|refine Z14 ?_|refine Z24 ?_|refine Z25 ?_|refine Z26 ?_|refine Z27 ?_|refine Z28 ?_|refine Z29 ?_|refine Z30 ?_|refine Z31 ?_|refine Z32 ?_|refine Z49 ?_|refine Z50 ?_|refine Z51 ?_|refine Z52 ?_|refine Z53 ?_|refine Z65 ?_|refine Z67 ?_|refine Z77 ?_|refine Z78 ?_|refine Z79 ?_|refine Z81 fun _ => ?_|refine Z82 fun _ => ?_)
      refine R.st_perm [0, 1, 2, 3, 4, 5, 6, 7, 8, 9, 10, 11] (by rfl) ?_
      repeat (first|refine R.Zpf (by rfl)
          (by intro _ _ _;(first|(refine st_fld (by rfl) (by first | exact (show _ = some (0, 6) from rfl) | exact (show _ = some (6, 6) from rfl) | exact (show _ = some (0, 12) from rfl) | exact (show _ = some (12, 12) from rfl) | exact (show _ = some (24, 1) from rfl)) (by rfl) (by rfl) ?_)|(refine st_build2a (by rfl) (by rfl) (by rfl) (by rfl) (by simp; done) (by rfl) ?_)|(refine st_build20 (by rfl) (by rfl) (by rfl) (by rfl) ?_)|(refine st_eq2 (by rfl) (by rfl) (by rfl) (by kernel_rfl) (by rfl) (by rfl) (by rfl) (by rfl) (by rfl) (by rfl) (by rfl) (by rfl) (by rfl) (by rfl) (by kernel_rfl) (by simp; done) (by simp; done) (by simp; done) (by simp; done) (by rfl) ?_)|((refine st_fld (by rfl) (show _ = some (24, 12) from rfl) (by rfl) (by rfl) ?_))|refine Z01 ?_|refine Z02 ?_|refine Z49 ?_|refine Z50 ?_|refine Z65 ?_|refine Z77 ?_|refine Z78 ?_|refine Z79 ?_);exact Zq) ?_|refine R.Zpp (by rfl)
          (by intro _ _ _;(first|refine Z24 ?_|refine Z25 ?_|refine Z26 ?_|refine Z27 ?_|refine Z28 ?_|refine Z67 ?_);exact Zq) ?_|refine R.Zpp (by rfl)
          (by intro _ _ _;(refine st_ldp (by rfl) (by repeat first|apply Find.here|apply Find.there) (by rfl) (by rfl) (by first | (refine PartAt.l ?_; (simp; done)) | (refine PartAt.r ?_ ?_ <;> (simp; done)) | (refine PartAt.all ?_; (simp; done))) (by rfl) ?_);exact Zq) ?_|refine R.Zpp (by rfl)
          (by intro _ _ _;(refine st_ldp (by rfl) (by repeat first|apply Find.here|apply Find.there) (by rfl) (by rfl) (PartAt.t0 (E2_len _)) (by rfl) ?_);exact Zq) ?_|refine R.Zpp (by rfl)
          (by intro _ _ _;(refine st_ldp (by rfl) (by repeat first|apply Find.here|apply Find.there) (by rfl) (by rfl) (PartAt.t1 (E2_len _) (E2_len _)) (by rfl) ?_);exact Zq) ?_|refine R.Zpp (by rfl)
          (by intro _ _ _;(refine st_ldp (by rfl) (by repeat first|apply Find.here|apply Find.there) (by rfl) (by rfl) (PartAt.t2 (E2_len _) (E2_len _) (E2_len _)) (by rfl) ?_);exact Zq) ?_|refine R.Zpp (by rfl)
          (by intro _ _ _;(refine st_ldpG (by rfl) (by repeat first|apply Find.here|apply Find.there) (by rfl) (by rfl) (by first | (refine PartAt.l ?_; (simp; done)) | (refine PartAt.r ?_ ?_ <;> (simp; done)) | (refine PartAt.all ?_; (simp; done))) (by rfl) ?_);exact Zq) ?_|refine R.Zpp (by rfl)
          (by intro _ _ _;refine st_callV (by rfl) (by rfl) (by rfl) (a4) (fun _ _ => trivial) (by rfl) ?_;exact Zq) ?_|refine R.Zpp (by rfl)
          (by intro _ _ _;refine st_callV (by rfl) (by rfl) (by rfl) (a5) (fun _ _ => trivial) (by rfl) ?_;exact Zq) ?_|refine R.Zpp (by rfl)
          (by intro _ _ _;refine st_callV (by rfl) (by rfl) (by rfl) (a6) (fun _ _ => trivial) (by rfl) ?_;exact Zq) ?_|refine R.Zps (by rfl)
          (by intro _ _ _;(first|refine Z29 ?_|refine Z30 ?_|refine Z31 ?_|refine Z32 ?_);exact Zqq) ?_|refine R.Zpb (by rfl)
          (by intro _ _ _;refine st_alloc (v := LV .u64 (List.replicate 12 0)) (by rfl) (by rfl) fun _ => ?_;exact R.Zpbx) fun _ => ?_|refine R.Zpn (by rfl)
          (by intro _ _ _;(first|refine Z81 fun _ => ?_|refine Z82 fun _ => ?_);exact R.Zpx) fun _ => ?_|refine R.Zpo (by rfl) ?_)
      refine R.Zp0 ?_
      rw [show Kf.K2.mul x (Kf.K2.mul h h) = Kf.K2.pV x h from rfl] at b3
      rw [show Kf.K2.sub (Kf.K2.sub (Kf.K2.mul r r) (Kf.K2.mul (Kf.K2.mul h h) h)) (Kf.K2.add (Kf.K2.pV x h) (Kf.K2.pV x h)) = Kf.K2.pX x h r from rfl] at b7
      rw [show Kf.K2.sub (Kf.K2.mul r (Kf.K2.sub (Kf.K2.pV x h) (Kf.K2.pX x h r))) (Kf.K2.mul y (Kf.K2.mul (Kf.K2.mul h h) h)) = Kf.K2.pY x y h r from rfl] at d4
      generalize Kf.K2.pY x y h r = Y at *
      generalize Kf.K2.mul y (Kf.K2.mul (Kf.K2.mul h h) h) = e1 at *
      generalize Kf.K2.mul r (Kf.K2.sub (Kf.K2.pV x h) (Kf.K2.pX x h r)) = e2 at *
      generalize Kf.K2.sub (Kf.K2.pV x h) (Kf.K2.pX x h r) = e3 at *
      generalize Kf.K2.pX x h r = X at *
      generalize Kf.K2.sub (Kf.K2.mul r r) (Kf.K2.mul (Kf.K2.mul h h) h) = e4 at *
      generalize Kf.K2.add (Kf.K2.pV x h) (Kf.K2.pV x h) = e5 at *
      generalize Kf.K2.pV x h = e6 at *
      generalize Kf.K2.mul (Kf.K2.mul h h) h = e7 at *
      generalize Kf.K2.mul h h = e8 at *
      generalize Kf.K2.mul r r = e9 at *
      generalize Kf.K2.mul z h = Z at *
      repeat (first|((refine st_eq2v (hr := E2_diff hh) (by rfl) (by rfl) (by rfl) (by kernel_rfl) (by rfl) (by rfl) (by rfl) (by rfl) (by rfl) (by rfl) (by rfl) (by rfl) (by rfl) (by rfl) (by kernel_rfl) (by simp; done) (by simp; done) (by simp; done) (by simp; done) (by rfl) ?_))|refine Z01 ?_|refine Z02 ?_|refine Z03 ?_|refine Z04 ?_|refine Z05 ?_|refine Z06 ?_|refine Z07 ?_|refine Z08 ?_|refine Z09 ?_|refine Z10 ?_|refine Z11 ?_|refine Z12 ?_|refine Z13 ?_|refine Z14 ?_|refine Z24 ?_|refine Z25 ?_|refine Z26 ?_|refine Z27 ?_|refine Z28 ?_|refine Z29 ?_|refine Z30 ?_|refine Z31 ?_|refine Z32 ?_|refine Z49 ?_|refine Z50 ?_|refine Z51 ?_|refine Z52 ?_|refine Z53 ?_|refine Z65 ?_|refine Z67 ?_|refine Z77 ?_|refine Z78 ?_|refine Z79 ?_|refine Z81 fun _ => ?_|refine Z82 fun _ => ?_)
      repeat (first|(refine st_alloc (v := LV .u64 (List.replicate 12 0)) (by rfl) (by rfl) fun _ => ?_)|(refine st_callV (by rfl) (by rfl) (by rfl) (b1) (fun _ _ => trivial) (by rfl) ?_)|refine Z01 ?_|refine Z02 ?_|refine Z03 ?_|refine Z04 ?_|refine Z05 ?_|refine Z06 ?_|refine Z07 ?_|refine Z08 ?_|refine Z09 ?_|refine Z10 ?_|refine Z11 ?_|refine Z12 ?_|refine Z13 ?_|refine Z14 ?_|refine Z24 ?_|refine Z25 ?_|refine Z26 ?_|refine Z27 ?_|refine Z28 ?_|refine Z29 ?_|refine Z30 ?_|refine Z31 ?_|refine Z32 ?_|refine Z49 ?_|refine Z50 ?_|refine Z51 ?_|refine Z52 ?_|refine Z53 ?_|refine Z65 ?_|refine Z67 ?_|refine Z77 ?_|refine Z78 ?_|refine Z79 ?_|refine Z81 fun _ => ?_|refine Z82 fun _ => ?_)
      refine R.st_perm [0, 1, 2, 3, 4, 5, 6, 7, 8, 9, 10] (by rfl) ?_
      repeat (first|refine R.Zpf (by rfl)
          (by intro _ _ _;(first|(refine st_fld (by rfl) (by first | exact (show _ = some (0, 6) from rfl) | exact (show _ = some (6, 6) from rfl) | exact (show _ = some (0, 12) from rfl) | exact (show _ = some (12, 12) from rfl) | exact (show _ = some (24, 1) from rfl)) (by rfl) (by rfl) ?_)|(refine st_build2a (by rfl) (by rfl) (by rfl) (by rfl) (by simp; done) (by rfl) ?_)|(refine st_build20 (by rfl) (by rfl) (by rfl) (by rfl) ?_)|(refine st_eq2 (by rfl) (by rfl) (by rfl) (by kernel_rfl) (by rfl) (by rfl) (by rfl) (by rfl) (by rfl) (by rfl) (by rfl) (by rfl) (by rfl) (by rfl) (by kernel_rfl) (by simp; done) (by simp; done) (by simp; done) (by simp; done) (by rfl) ?_)|refine Z01 ?_|refine Z02 ?_|refine Z49 ?_|refine Z50 ?_|refine Z65 ?_|refine Z77 ?_|refine Z78 ?_|refine Z79 ?_);exact Zq) ?_|refine R.Zpp (by rfl)
          (by intro _ _ _;(first|refine Z24 ?_|refine Z25 ?_|refine Z26 ?_|refine Z27 ?_|refine Z28 ?_|refine Z67 ?_);exact Zq) ?_|refine R.Zpp (by rfl)
          (by intro _ _ _;(refine st_ldp (by rfl) (by repeat first|apply Find.here|apply Find.there) (by rfl) (by rfl) (by first | (refine PartAt.l ?_; (simp; done)) | (refine PartAt.r ?_ ?_ <;> (simp; done)) | (refine PartAt.all ?_; (simp; done))) (by rfl) ?_);exact Zq) ?_|refine R.Zpp (by rfl)
          (by intro _ _ _;(refine st_ldp (by rfl) (by repeat first|apply Find.here|apply Find.there) (by rfl) (by rfl) (PartAt.t0 (E2_len _)) (by rfl) ?_);exact Zq) ?_|refine R.Zpp (by rfl)
          (by intro _ _ _;(refine st_ldp (by rfl) (by repeat first|apply Find.here|apply Find.there) (by rfl) (by rfl) (PartAt.t1 (E2_len _) (E2_len _)) (by rfl) ?_);exact Zq) ?_|refine R.Zpp (by rfl)
          (by intro _ _ _;(refine st_ldp (by rfl) (by repeat first|apply Find.here|apply Find.there) (by rfl) (by rfl) (PartAt.t2 (E2_len _) (E2_len _) (E2_len _)) (by rfl) ?_);exact Zq) ?_|refine R.Zpp (by rfl)
          (by intro _ _ _;refine st_callV (by rfl) (by rfl) (by rfl) (b2) (fun _ _ => trivial) (by rfl) ?_;exact Zq) ?_|refine R.Zpp (by rfl)
          (by intro _ _ _;refine st_callV (by rfl) (by rfl) (by rfl) (b3) (fun _ _ => trivial) (by rfl) ?_;exact Zq) ?_|refine R.Zps (by rfl)
          (by intro _ _ _;(first|refine Z29 ?_|refine Z30 ?_|refine Z31 ?_|refine Z32 ?_);exact Zqq) ?_|refine R.Zpbb (by rfl) (by rfl)
          (by intro _ _ _;refine st_alloc (v := LV .u64 (List.replicate 12 0)) (by rfl) (by rfl) fun _ => ?_;exact R.Zpbx)
          (by intro _ _ _;refine st_alloc (v := LV .u64 (List.replicate 12 0)) (by rfl) (by rfl) fun _ => ?_;exact R.Zpbx) (fun _ => ?_) (fun _ => ?_)|refine R.Zpb (by rfl)
          (by intro _ _ _;refine st_alloc (v := LV .u64 (List.replicate 12 0)) (by rfl) (by rfl) fun _ => ?_;exact R.Zpbx) fun _ => ?_|refine R.Zpn (by rfl)
          (by intro _ _ _;(first|refine Z81 fun _ => ?_|refine Z82 fun _ => ?_);exact R.Zpx) fun _ => ?_|refine R.Zpo (by rfl) ?_)
      all_goals
        repeat (first|refine R.Zpf (by rfl)
            (by intro _ _ _;(first|(refine st_fld (by rfl) (by first | exact (show _ = some (0, 6) from rfl) | exact (show _ = some (6, 6) from rfl) | exact (show _ = some (0, 12) from rfl) | exact (show _ = some (12, 12) from rfl) | exact (show _ = some (24, 1) from rfl)) (by rfl) (by rfl) ?_)|(refine st_build2a (by rfl) (by rfl) (by rfl) (by rfl) (by simp; done) (by rfl) ?_)|(refine st_build20 (by rfl) (by rfl) (by rfl) (by rfl) ?_)|(refine st_eq2 (by rfl) (by rfl) (by rfl) (by kernel_rfl) (by rfl) (by rfl) (by rfl) (by rfl) (by rfl) (by rfl) (by rfl) (by rfl) (by rfl) (by rfl) (by kernel_rfl) (by simp; done) (by simp; done) (by simp; done) (by simp; done) (by rfl) ?_)|refine Z01 ?_|refine Z02 ?_|refine Z49 ?_|refine Z50 ?_|refine Z65 ?_|refine Z77 ?_|refine Z78 ?_|refine Z79 ?_);exact Zq) ?_|refine R.Zpp (by rfl)
            (by intro _ _ _;(first|refine Z24 ?_|refine Z25 ?_|refine Z26 ?_|refine Z27 ?_|refine Z28 ?_|refine Z67 ?_);exact Zq) ?_|refine R.Zpp (by rfl)
            (by intro _ _ _;(refine st_ldp (by rfl) (by repeat first|apply Find.here|apply Find.there) (by rfl) (by rfl) (by first | (refine PartAt.l ?_; (simp; done)) | (refine PartAt.r ?_ ?_ <;> (simp; done)) | (refine PartAt.all ?_; (simp; done))) (by rfl) ?_);exact Zq) ?_|refine R.Zpp (by rfl)
            (by intro _ _ _;(refine st_ldp (by rfl) (by repeat first|apply Find.here|apply Find.there) (by rfl) (by rfl) (PartAt.t0 (E2_len _)) (by rfl) ?_);exact Zq) ?_|refine R.Zpp (by rfl)
            (by intro _ _ _;(refine st_ldp (by rfl) (by repeat first|apply Find.here|apply Find.there) (by rfl) (by rfl) (PartAt.t1 (E2_len _) (E2_len _)) (by rfl) ?_);exact Zq) ?_|refine R.Zpp (by rfl)
            (by intro _ _ _;(refine st_ldp (by rfl) (by repeat first|apply Find.here|apply Find.there) (by rfl) (by rfl) (PartAt.t2 (E2_len _) (E2_len _) (E2_len _)) (by rfl) ?_);exact Zq) ?_|refine R.Zpp (by rfl)
            (by intro _ _ _;refine st_callV (by rfl) (by rfl) (by rfl) (b2) (fun _ _ => trivial) (by rfl) ?_;exact Zq) ?_|refine R.Zpp (by rfl)
            (by intro _ _ _;refine st_callV (by rfl) (by rfl) (by rfl) (b3) (fun _ _ => trivial) (by rfl) ?_;exact Zq) ?_|refine R.Zps (by rfl)
            (by intro _ _ _;(first|refine Z29 ?_|refine Z30 ?_|refine Z31 ?_|refine Z32 ?_);exact Zqq) ?_|refine R.Zpbb (by rfl) (by rfl)
            (by intro _ _ _;refine st_alloc (v := LV .u64 (List.replicate 12 0)) (by rfl) (by rfl) fun _ => ?_;exact R.Zpbx)
            (by intro _ _ _;refine st_alloc (v := LV .u64 (List.replicate 12 0)) (by rfl) (by rfl) fun _ => ?_;exact R.Zpbx) (fun _ => ?_) (fun _ => ?_)|refine R.Zpb (by rfl)
            (by intro _ _ _;refine st_alloc (v := LV .u64 (List.replicate 12 0)) (by rfl) (by rfl) fun _ => ?_;exact R.Zpbx) fun _ => ?_|refine R.Zpn (by rfl)
            (by intro _ _ _;(first|refine Z81 fun _ => ?_|refine Z82 fun _ => ?_);exact R.Zpx) fun _ => ?_|refine R.Zpo (by rfl) ?_)
      all_goals refine R.Zp0 ?_
      all_goals
        repeat (first|refine Z01 ?_|refine Z02 ?_|refine Z03 ?_|refine Z04 ?_|refine Z05 ?_|refine Z06 ?_|refine Z07 ?_|refine Z08 ?_|refine Z09 ?_|refine Z10 ?_|refine Z11 ?_|refine Z12 ?_|refine Z13 ?_|refine Z14 ?_|refine Z24 ?_|refine Z25 ?_|refine Z26 ?_|refine Z27 ?_|refine Z28 ?_|refine Z29 ?_|refine Z30 ?_|refine Z31 ?_|refine Z32 ?_|refine Z49 ?_|refine Z50 ?_|refine Z51 ?_|refine Z52 ?_|refine Z53 ?_|refine Z65 ?_|refine Z67 ?_|refine Z77 ?_|refine Z78 ?_|refine Z79 ?_|refine Z81 fun _ => ?_|refine Z82 fun _ => ?_)
        refine R.st_perm [0, 1, 2, 3, 4, 5, 6, 7, 8, 9, 10] (by rfl) ?_
        repeat (first|refine R.Zpf (by rfl)
            (by intro _ _ _;(first|(refine st_fld (by rfl) (by first | exact (show _ = some (0, 6) from rfl) | exact (show _ = some (6, 6) from rfl) | exact (show _ = some (0, 12) from rfl) | exact (show _ = some (12, 12) from rfl) | exact (show _ = some (24, 1) from rfl)) (by rfl) (by rfl) ?_)|(refine st_build2a (by rfl) (by rfl) (by rfl) (by rfl) (by simp; done) (by rfl) ?_)|(refine st_build20 (by rfl) (by rfl) (by rfl) (by rfl) ?_)|(refine st_eq2 (by rfl) (by rfl) (by rfl) (by kernel_rfl) (by rfl) (by rfl) (by rfl) (by rfl) (by rfl) (by rfl) (by rfl) (by rfl) (by rfl) (by rfl) (by kernel_rfl) (by simp; done) (by simp; done) (by simp; done) (by simp; done) (by rfl) ?_)|refine Z01 ?_|refine Z02 ?_|refine Z49 ?_|refine Z50 ?_|refine Z65 ?_|refine Z77 ?_|refine Z78 ?_|refine Z79 ?_);exact Zq) ?_|refine R.Zpp (by rfl)
            (by intro _ _ _;(first|refine Z24 ?_|refine Z25 ?_|refine Z26 ?_|refine Z27 ?_|refine Z28 ?_|refine Z67 ?_);exact Zq) ?_|refine R.Zpp (by rfl)
            (by intro _ _ _;(refine st_ldp (by rfl) (by repeat first|apply Find.here|apply Find.there) (by rfl) (by rfl) (by first | (refine PartAt.l ?_; (simp; done)) | (refine PartAt.r ?_ ?_ <;> (simp; done)) | (refine PartAt.all ?_; (simp; done))) (by rfl) ?_);exact Zq) ?_|refine R.Zpp (by rfl)
            (by intro _ _ _;refine st_callV (by rfl) (by rfl) (by rfl) (b4) (fun _ _ => trivial) (by rfl) ?_;exact Zq) ?_|refine R.Zpp (by rfl)
            (by intro _ _ _;refine st_callV (by rfl) (by rfl) (by rfl) (b5) (fun _ _ => trivial) (by rfl) ?_;exact Zq) ?_|refine R.Zpp (by rfl)
            (by intro _ _ _;refine st_callV (by rfl) (by rfl) (by rfl) (b6) (fun _ _ => trivial) (by rfl) ?_;exact Zq) ?_|refine R.Zpp (by rfl)
            (by intro _ _ _;refine st_callV (by rfl) (by rfl) (by rfl) (b7) (fun _ _ => trivial) (by rfl) ?_;exact Zq) ?_|refine R.Zps (by rfl)
            (by intro _ _ _;(first|refine Z29 ?_|refine Z30 ?_|refine Z31 ?_|refine Z32 ?_);exact Zqq) ?_|refine R.Zpb (by rfl)
            (by intro _ _ _;refine st_alloc (v := LV .u64 (List.replicate 12 0)) (by rfl) (by rfl) fun _ => ?_;exact R.Zpbx) fun _ => ?_|refine R.Zpn (by rfl)
            (by intro _ _ _;(first|refine Z81 fun _ => ?_|refine Z82 fun _ => ?_);exact R.Zpx) fun _ => ?_|refine R.Zpo (by rfl) ?_)
        refine R.Zp0 ?_
        repeat (first|refine Z01 ?_|refine Z02 ?_|refine Z03 ?_|refine Z04 ?_|refine Z05 ?_|refine Z06 ?_|refine Z07 ?_|refine Z08 ?_|refine Z09 ?_|refine Z10 ?_|refine Z11 ?_|refine Z12 ?_|refine Z13 ?_|refine Z14 ?_|refine Z24 ?_|refine Z25 ?_|refine Z26 ?_|refine Z27 ?_|refine Z28 ?_|refine Z29 ?_|refine Z30 ?_|refine Z31 ?_|refine Z32 ?_|refine Z49 ?_|refine Z50 ?_|refine Z51 ?_|refine Z52 ?_|refine Z53 ?_|refine Z65 ?_|refine Z67 ?_|refine Z77 ?_|refine Z78 ?_|refine Z79 ?_|refine Z81 fun _ => ?_|refine Z82 fun _ => ?_)
        refine R.st_perm [0, 1, 2, 3, 4, 5, 6, 7, 8, 9, 10, 11, 12, 13, 14, 15, 16] (by rfl) ?_
        repeat (first|refine R.Zpf (by rfl)
            (by intro _ _ _;(first|(refine st_fld (by rfl) (by first | exact (show _ = some (0, 6) from rfl) | exact (show _ = some (6, 6) from rfl) | exact (show _ = some (0, 12) from rfl) | exact (show _ = some (12, 12) from rfl) | exact (show _ = some (24, 1) from rfl)) (by rfl) (by rfl) ?_)|(refine st_build2a (by rfl) (by rfl) (by rfl) (by rfl) (by simp; done) (by rfl) ?_)|(refine st_build20 (by rfl) (by rfl) (by rfl) (by rfl) ?_)|(refine st_eq2 (by rfl) (by rfl) (by rfl) (by kernel_rfl) (by rfl) (by rfl) (by rfl) (by rfl) (by rfl) (by rfl) (by rfl) (by rfl) (by rfl) (by rfl) (by kernel_rfl) (by simp; done) (by simp; done) (by simp; done) (by simp; done) (by rfl) ?_)|((refine st_fld (by rfl) (show _ = some (24, 12) from rfl) (by rfl) (by rfl) ?_))|(refine st_build3 (m := 12) (by rfl) (by rfl) (by kernel_rfl) (by rfl) (E2_len _) (E2_len _) (E2_len _) (by rfl) ?_)|refine Z01 ?_|refine Z02 ?_|refine Z49 ?_|refine Z50 ?_|refine Z65 ?_|refine Z77 ?_|refine Z78 ?_|refine Z79 ?_);exact Zq) ?_|refine R.Zpp (by rfl)
            (by intro _ _ _;(first|refine Z24 ?_|refine Z25 ?_|refine Z26 ?_|refine Z27 ?_|refine Z28 ?_|refine Z67 ?_);exact Zq) ?_|refine R.Zpp (by rfl)
            (by intro _ _ _;(refine st_ldp (by rfl) (by repeat first|apply Find.here|apply Find.there) (by rfl) (by rfl) (by first | (refine PartAt.l ?_; (simp; done)) | (refine PartAt.r ?_ ?_ <;> (simp; done)) | (refine PartAt.all ?_; (simp; done))) (by rfl) ?_);exact Zq) ?_|refine R.Zpp (by rfl)
            (by intro _ _ _;(refine st_ldp (by rfl) (by repeat first|apply Find.here|apply Find.there) (by rfl) (by rfl) (PartAt.t0 (E2_len _)) (by rfl) ?_);exact Zq) ?_|refine R.Zpp (by rfl)
            (by intro _ _ _;(refine st_ldp (by rfl) (by repeat first|apply Find.here|apply Find.there) (by rfl) (by rfl) (PartAt.t1 (E2_len _) (E2_len _)) (by rfl) ?_);exact Zq) ?_|refine R.Zpp (by rfl)
            (by intro _ _ _;(refine st_ldp (by rfl) (by repeat first|apply Find.here|apply Find.there) (by rfl) (by rfl) (PartAt.t2 (E2_len _) (E2_len _) (E2_len _)) (by rfl) ?_);exact Zq) ?_|refine R.Zpp (by rfl)
            (by intro _ _ _;refine st_callV (by rfl) (by rfl) (by rfl) (d1) (fun _ _ => trivial) (by rfl) ?_;exact Zq) ?_|refine R.Zpp (by rfl)
            (by intro _ _ _;refine st_callV (by rfl) (by rfl) (by rfl) (d2) (fun _ _ => trivial) (by rfl) ?_;exact Zq) ?_|refine R.Zpp (by rfl)
            (by intro _ _ _;refine st_callV (by rfl) (by rfl) (by rfl) (d3) (fun _ _ => trivial) (by rfl) ?_;exact Zq) ?_|refine R.Zpp (by rfl)
            (by intro _ _ _;refine st_callV (by rfl) (by rfl) (by rfl) (d4) (fun _ _ => trivial) (by rfl) ?_;exact Zq) ?_|refine R.Zpp (by rfl)
            (by intro _ _ _;refine st_callV (by rfl) (by rfl) (by rfl) (d5) (fun _ _ => trivial) (by rfl) ?_;exact Zq) ?_|refine R.Zps (by rfl)
            (by intro _ _ _;(first|refine Z29 ?_|refine Z30 ?_|refine Z31 ?_|refine Z32 ?_);exact Zqq) ?_|refine R.Zps (by rfl)
            (by intro _ _ _;(refine st_store_LV (m := 36) (by rfl) (by rfl) (by repeat first|apply Find.here|apply Find.there) (by rfl) (by simp) (J36_len _ _ _) ?_);exact Zqq) ?_|refine R.Zpn (by rfl)
            (by intro _ _ _;(first|refine Z81 fun _ => ?_|refine Z82 fun _ => ?_);exact R.Zpx) fun _ => ?_|refine R.Zpo (by rfl) ?_)
        refine R.Zp0 ?_
        repeat (first|refine Z01 ?_|refine Z02 ?_|refine Z03 ?_|refine Z04 ?_|refine Z05 ?_|refine Z06 ?_|refine Z07 ?_|refine Z08 ?_|refine Z09 ?_|refine Z10 ?_|refine Z11 ?_|refine Z12 ?_|refine Z13 ?_|refine Z14 ?_|refine Z24 ?_|refine Z25 ?_|refine Z26 ?_|refine Z27 ?_|refine Z28 ?_|refine Z29 ?_|refine Z30 ?_|refine Z31 ?_|refine Z32 ?_|refine Z49 ?_|refine Z50 ?_|refine Z51 ?_|refine Z52 ?_|refine Z53 ?_|refine Z65 ?_|refine Z67 ?_|refine Z77 ?_|refine Z78 ?_|refine Z79 ?_|refine Z81 fun _ => ?_|refine Z82 fun _ => ?_)
        refine Zec fun _ hw => post_of hw SubW.nil ⟨?_, rfl⟩
        rfl
theorem zero_diff {x y z : F2} (h : z ≠ Kf.K2.zero) : (((decide (D 6 x.re.val = D 6 (Kf.K2.zero : F2).re.val) && decide (D 6 x.im.val = D 6 (Kf.K2.zero : F2).im.val)) && (decide (D 6 y.re.val = D 6 (Kf.K2.zero : F2).re.val) && decide (D 6 y.im.val = D 6 (Kf.K2.zero : F2).im.val))) && (decide (D 6 z.re.val = D 6 (Kf.K2.zero : F2).re.val) && decide (D 6 z.im.val = D 6 (Kf.K2.zero : F2).im.val))) = false := by
  rw [E2_diff h, Bool.and_false]
set_option maxHeartbeats 8000000 in
theorem point_spec (x y z : F2) : Spec Try.prog 129 [J36 x y z] NoPre [] (IsV (GV (Kf.K2.jp x y z))) := by
  refine mk_spec Try.func129 rfl rfl rfl fun w _ => ?_
  have hl0 := fun x => D_len 6 x
  have hle := fun x : F2 => E2_len x
  by_cases hz : z = Kf.K2.zero
  · rw [Kf.K2.jp_z hz, GV_none]
    have hz2 : (decide (D 6 z.re.val = D 6 (Kf.K2.zero : F2).re.val) && decide (D 6 z.im.val = D 6 (Kf.K2.zero : F2).im.val)) = true := by rw [hz]; exact E2_same _
    obtain ⟨c, hc⟩ : ∃ c, c = (((decide (D 6 x.re.val = D 6 (Kf.K2.zero : F2).re.val) && decide (D 6 x.im.val = D 6 (Kf.K2.zero : F2).im.val)) && (decide (D 6 y.re.val = D 6 (Kf.K2.zero : F2).re.val) && decide (D 6 y.im.val = D 6 (Kf.K2.zero : F2).im.val))) && (decide (D 6 z.re.val = D 6 (Kf.K2.zero : F2).re.val) && decide (D 6 z.im.val = D 6 (Kf.K2.zero : F2).im.val))) := ⟨_, rfl⟩
    cases c with
    | true =>
      repeat (first|((refine st_eq3v (m := 6) (hr := hc.symm) (by rfl) (by rfl) (by rfl) (by kernel_rfl) (by rfl) (by rfl) (by rfl) (by rfl) (by rfl) (by rfl) (by rfl) (by rfl) (by rfl) (by rfl) (by rfl) (by kernel_rfl) (by rfl) (by rfl) (by rfl) (by rfl) (by rfl) (by rfl) (by rfl) (by rfl) (by rfl) (by rfl) (by kernel_rfl) (by simp; done) (by simp; done) (by simp; done) (by simp; done) (by simp; done) (by simp; done) (by simp; done) (by simp; done) (by simp; done) (by simp; done) (by simp; done) (by simp; done) (by rfl) ?_))|((refine st_eq2v (hr := hz2) (by rfl) (by rfl) (by rfl) (by kernel_rfl) (by rfl) (by rfl) (by rfl) (by rfl) (by rfl) (by rfl) (by rfl) (by rfl) (by rfl) (by rfl) (by kernel_rfl) (by simp; done) (by simp; done) (by simp; done) (by simp; done) (by rfl) ?_))|(refine st_alloc (E := 38) (v := GL (List.replicate 24 0) false) (by kernel_rfl) (by rfl) fun _ => ?_)|((refine st_build20 (k := .u64) (z := List.replicate 12 0) (by rfl) (by rfl) (by rfl) (by rfl) ?_; rw [zero12]))|((refine st_build20 (t := 97) (k := .u64) (z := List.replicate 36 0) (by rfl) (by rfl) (by kernel_rfl) (by rfl) ?_; rw [zero36]))|((refine st_ldp (by rfl) (by repeat first|apply Find.here|apply Find.there) (by rfl) (by rfl) (PartAt.all (J36_len _ _ _)) (by rfl) ?_))|((refine st_fld (by rfl) (show _ = some (24, 12) from rfl) (by rfl) (by rfl) ?_))|((refine st_ldp (by rfl) (by repeat first|apply Find.here|apply Find.there) (by rfl) (by rfl) (PartAt.t0 (E2_len _)) (by rfl) ?_))|((refine st_ldp (by rfl) (by repeat first|apply Find.here|apply Find.there) (by rfl) (by rfl) (PartAt.t1 (E2_len _) (E2_len _)) (by rfl) ?_))|((refine st_ldp (by rfl) (by repeat first|apply Find.here|apply Find.there) (by rfl) (by rfl) (PartAt.t2 (E2_len _) (E2_len _) (E2_len _)) (by rfl) ?_))|((refine st_buildGi (m := 12) (by rfl) (by rfl) (by kernel_rfl) (by rfl) (by rfl) ?_; rw [zero24']))|(refine st_store_GL (m := 24) (by rfl) (by rfl) (by repeat first|apply Find.here|apply Find.there) (by rfl) (by first|with_reducible assumption|simp) (by first|with_reducible assumption|simp) ?_)|refine Z01 ?_|refine Z03 ?_|refine Z04 ?_|refine Z05 ?_|refine Z06 ?_|refine Z07 ?_|refine Z08 ?_|refine Z09 ?_|refine Z10 ?_|refine Z11 ?_|refine Z12 ?_|refine Z13 ?_|refine Z14 ?_|refine Z24 ?_|refine Z25 ?_|refine Z26 ?_|refine Z27 ?_|refine Z28 ?_|refine Z29 ?_|refine Z30 ?_|refine Z31 ?_|refine Z32 ?_|refine Z49 ?_|refine Z50 ?_|refine Z51 ?_|refine Z52 ?_|refine Z53 ?_|refine Z65 ?_|refine Z67 ?_|refine Z77 ?_|refine Z78 ?_|refine Z79 ?_|refine Z81 fun _ => ?_|refine Z82 fun _ => ?_)
      refine st_endc_GL (m := 24) (by rfl) (by rfl) (by repeat first|apply Find.here|apply Find.there) (by rfl) (by rfl) (by first|with_reducible assumption|simp) fun _ hw => post_of hw SubW.nil ⟨?_, rfl⟩
      rfl
    | false =>
      repeat (first|((refine st_eq3v (m := 6) (hr := hc.symm) (by rfl) (by rfl) (by rfl) (by kernel_rfl) (by rfl) (by rfl) (by rfl) (by rfl) (by rfl) (by rfl) (by rfl) (by rfl) (by rfl) (by rfl) (by rfl) (by kernel_rfl) (by rfl) (by rfl) (by rfl) (by rfl) (by rfl) (by rfl) (by rfl) (by rfl) (by rfl) (by rfl) (by kernel_rfl) (by simp; done) (by simp; done) (by simp; done) (by simp; done) (by simp; done) (by simp; done) (by simp; done) (by simp; done) (by simp; done) (by simp; done) (by simp; done) (by simp; done) (by rfl) ?_))|((refine st_eq2v (hr := hz2) (by rfl) (by rfl) (by rfl) (by kernel_rfl) (by rfl) (by rfl) (by rfl) (by rfl) (by rfl) (by rfl) (by rfl) (by rfl) (by rfl) (by rfl) (by kernel_rfl) (by simp; done) (by simp; done) (by simp; done) (by simp; done) (by rfl) ?_))|(refine st_alloc (E := 38) (v := GL (List.replicate 24 0) false) (by kernel_rfl) (by rfl) fun _ => ?_)|((refine st_build20 (k := .u64) (z := List.replicate 12 0) (by rfl) (by rfl) (by rfl) (by rfl) ?_; rw [zero12]))|((refine st_build20 (t := 97) (k := .u64) (z := List.replicate 36 0) (by rfl) (by rfl) (by kernel_rfl) (by rfl) ?_; rw [zero36]))|((refine st_ldp (by rfl) (by repeat first|apply Find.here|apply Find.there) (by rfl) (by rfl) (PartAt.all (J36_len _ _ _)) (by rfl) ?_))|((refine st_fld (by rfl) (show _ = some (24, 12) from rfl) (by rfl) (by rfl) ?_))|((refine st_ldp (by rfl) (by repeat first|apply Find.here|apply Find.there) (by rfl) (by rfl) (PartAt.t0 (E2_len _)) (by rfl) ?_))|((refine st_ldp (by rfl) (by repeat first|apply Find.here|apply Find.there) (by rfl) (by rfl) (PartAt.t1 (E2_len _) (E2_len _)) (by rfl) ?_))|((refine st_ldp (by rfl) (by repeat first|apply Find.here|apply Find.there) (by rfl) (by rfl) (PartAt.t2 (E2_len _) (E2_len _) (E2_len _)) (by rfl) ?_))|((refine st_buildGi (m := 12) (by rfl) (by rfl) (by kernel_rfl) (by rfl) (by rfl) ?_; rw [zero24']))|(refine st_store_GL (m := 24) (by rfl) (by rfl) (by repeat first|apply Find.here|apply Find.there) (by rfl) (by first|with_reducible assumption|simp) (by first|with_reducible assumption|simp) ?_)|refine Z01 ?_|refine Z03 ?_|refine Z04 ?_|refine Z05 ?_|refine Z06 ?_|refine Z07 ?_|refine Z08 ?_|refine Z09 ?_|refine Z10 ?_|refine Z11 ?_|refine Z12 ?_|refine Z13 ?_|refine Z14 ?_|refine Z24 ?_|refine Z25 ?_|refine Z26 ?_|refine Z27 ?_|refine Z28 ?_|refine Z29 ?_|refine Z30 ?_|refine Z31 ?_|refine Z32 ?_|refine Z49 ?_|refine Z50 ?_|refine Z51 ?_|refine Z52 ?_|refine Z53 ?_|refine Z65 ?_|refine Z67 ?_|refine Z77 ?_|refine Z78 ?_|refine Z79 ?_|refine Z81 fun _ => ?_|refine Z82 fun _ => ?_)
      refine st_endc_GL (m := 24) (by rfl) (by rfl) (by repeat first|apply Find.here|apply Find.there) (by rfl) (by rfl) (by first|with_reducible assumption|simp) fun _ hw => post_of hw SubW.nil ⟨?_, rfl⟩
      rfl
  · rw [Kf.K2.jp_n hz, GV_some, Kf.K2.jx, Kf.K2.jy]
    have a1 := sinvE z
    have a2 := smulE (Kf.K2.inv z) (Kf.K2.inv z)
    have a3 := smulE x (Kf.K2.mul (Kf.K2.inv z) (Kf.K2.inv z))
    have a4 := smulE (Kf.K2.mul (Kf.K2.inv z) (Kf.K2.inv z)) (Kf.K2.inv z)
    have a5 := smulE y (Kf.K2.mul (Kf.K2.mul (Kf.K2.inv z) (Kf.K2.inv z)) (Kf.K2.inv z))
    generalize Kf.K2.mul y (Kf.K2.mul (Kf.K2.mul (Kf.K2.inv z) (Kf.K2.inv z)) (Kf.K2.inv z)) = c1 at *
    generalize Kf.K2.mul (Kf.K2.mul (Kf.K2.inv z) (Kf.K2.inv z)) (Kf.K2.inv z) = c2 at *
    generalize Kf.K2.mul x (Kf.K2.mul (Kf.K2.inv z) (Kf.K2.inv z)) = c3 at *
    generalize Kf.K2.mul (Kf.K2.inv z) (Kf.K2.inv z) = c4 at *
    generalize Kf.K2.inv z = c5 at *
    repeat (first|((refine st_eq3v (m := 6) (hr := zero_diff hz) (by rfl) (by rfl) (by rfl) (by kernel_rfl) (by rfl) (by rfl) (by rfl) (by rfl) (by rfl) (by rfl) (by rfl) (by rfl) (by rfl) (by rfl) (by rfl) (by kernel_rfl) (by rfl) (by rfl) (by rfl) (by rfl) (by rfl) (by rfl) (by rfl) (by rfl) (by rfl) (by rfl) (by kernel_rfl) (by simp; done) (by simp; done) (by simp; done) (by simp; done) (by simp; done) (by simp; done) (by simp; done) (by simp; done) (by simp; done) (by simp; done) (by simp; done) (by simp; done) (by rfl) ?_))|((refine st_eq2v (hr := E2_diff hz) (by rfl) (by rfl) (by rfl) (by kernel_rfl) (by rfl) (by rfl) (by rfl) (by rfl) (by rfl) (by rfl) (by rfl) (by rfl) (by rfl) (by rfl) (by kernel_rfl) (by simp; done) (by simp; done) (by simp; done) (by simp; done) (by rfl) ?_))|(refine st_alloc (v := LV .u64 (List.replicate 12 0)) (by rfl) (by rfl) fun _ => ?_)|(refine st_alloc (E := 38) (v := GL (List.replicate 24 0) false) (by kernel_rfl) (by rfl) fun _ => ?_)|((refine st_build20 (k := .u64) (z := List.replicate 12 0) (by rfl) (by rfl) (by rfl) (by rfl) ?_; rw [zero12]))|((refine st_build20 (t := 97) (k := .u64) (z := List.replicate 36 0) (by rfl) (by rfl) (by kernel_rfl) (by rfl) ?_; rw [zero36]))|((refine st_ldp (by rfl) (by repeat first|apply Find.here|apply Find.there) (by rfl) (by rfl) (PartAt.all (J36_len _ _ _)) (by rfl) ?_))|((refine st_fld (by rfl) (show _ = some (24, 12) from rfl) (by rfl) (by rfl) ?_))|((refine st_ldp (by rfl) (by repeat first|apply Find.here|apply Find.there) (by rfl) (by rfl) (PartAt.t0 (E2_len _)) (by rfl) ?_))|((refine st_ldp (by rfl) (by repeat first|apply Find.here|apply Find.there) (by rfl) (by rfl) (PartAt.t1 (E2_len _) (E2_len _)) (by rfl) ?_))|((refine st_ldp (by rfl) (by repeat first|apply Find.here|apply Find.there) (by rfl) (by rfl) (PartAt.t2 (E2_len _) (E2_len _) (E2_len _)) (by rfl) ?_))|(refine st_callV (by rfl) (by rfl) (by rfl) (a1) (fun _ _ => trivial) (by rfl) ?_)|(refine st_callV (by rfl) (by rfl) (by rfl) (a2) (fun _ _ => trivial) (by rfl) ?_)|refine Z01 ?_|refine Z03 ?_|refine Z04 ?_|refine Z05 ?_|refine Z06 ?_|refine Z07 ?_|refine Z08 ?_|refine Z09 ?_|refine Z10 ?_|refine Z11 ?_|refine Z12 ?_|refine Z13 ?_|refine Z14 ?_|refine Z24 ?_|refine Z25 ?_|refine Z26 ?_|refine Z27 ?_|refine Z28 ?_|refine Z29 ?_|refine Z30 ?_|refine Z31 ?_|refine Z32 ?_|refine Z49 ?_|refine Z50 ?_|refine Z51 ?_|refine Z52 ?_|refine Z53 ?_|refine Z65 ?_|refine Z67 ?_|refine Z77 ?_|refine Z78 ?_|refine Z79 ?_|refine Z81 fun _ => ?_|refine Z82 fun _ => ?_)
    refine R.st_perm [0, 1, 2, 3, 4, 5, 6, 7, 8, 9, 10, 11] (by rfl) ?_
    repeat (first|refine R.Zpf (by rfl)
        (by intro _ _ _;(first|(refine st_fld (by rfl) (by first | exact (show _ = some (0, 6) from rfl) | exact (show _ = some (6, 6) from rfl) | exact (show _ = some (0, 12) from rfl) | exact (show _ = some (12, 12) from rfl) | exact (show _ = some (24, 1) from rfl)) (by rfl) (by rfl) ?_)|(refine st_build2 (by rfl) (by rfl) (by rfl) (by rfl) (by simp; done) (by simp; done) (by rfl) ?_)|(refine st_build20 (by rfl) (by rfl) (by rfl) (by rfl) ?_)|(refine st_eq2 (by rfl) (by rfl) (by rfl) (by kernel_rfl) (by rfl) (by rfl) (by rfl) (by rfl) (by rfl) (by rfl) (by rfl) (by rfl) (by rfl) (by rfl) (by kernel_rfl) (by simp; done) (by simp; done) (by simp; done) (by simp; done) (by rfl) ?_)|(refine st_buildG (m := 12) (by rfl) (by rfl) (by kernel_rfl) (by rfl) (by simp; done) (by simp; done) (by rfl) ?_)|refine Z01 ?_|refine Z49 ?_|refine Z50 ?_|refine Z65 ?_|refine Z77 ?_|refine Z78 ?_|refine Z79 ?_);exact Zq) ?_|refine R.Zpp (by rfl)
        (by intro _ _ _;(first|refine Z24 ?_|refine Z25 ?_|refine Z26 ?_|refine Z27 ?_|refine Z28 ?_|refine Z67 ?_);exact Zq) ?_|refine R.Zpp (by rfl)
        (by intro _ _ _;(refine st_ldp (by rfl) (by repeat first|apply Find.here|apply Find.there) (by rfl) (by rfl) (by first | (refine PartAt.l ?_; (simp; done)) | (refine PartAt.r ?_ ?_ <;> (simp; done)) | (refine PartAt.all ?_; (simp; done))) (by rfl) ?_);exact Zq) ?_|refine R.Zpp (by rfl)
        (by intro _ _ _;(refine st_ldp (by rfl) (by repeat first|apply Find.here|apply Find.there) (by rfl) (by rfl) (PartAt.t0 (E2_len _)) (by rfl) ?_);exact Zq) ?_|refine R.Zpp (by rfl)
        (by intro _ _ _;(refine st_ldp (by rfl) (by repeat first|apply Find.here|apply Find.there) (by rfl) (by rfl) (PartAt.t1 (E2_len _) (E2_len _)) (by rfl) ?_);exact Zq) ?_|refine R.Zpp (by rfl)
        (by intro _ _ _;(refine st_ldp (by rfl) (by repeat first|apply Find.here|apply Find.there) (by rfl) (by rfl) (PartAt.t2 (E2_len _) (E2_len _) (E2_len _)) (by rfl) ?_);exact Zq) ?_|refine R.Zpp (by rfl)
        (by intro _ _ _;refine st_callV (by rfl) (by rfl) (by rfl) (a3) (fun _ _ => trivial) (by rfl) ?_;exact Zq) ?_|refine R.Zpp (by rfl)
        (by intro _ _ _;refine st_callV (by rfl) (by rfl) (by rfl) (a4) (fun _ _ => trivial) (by rfl) ?_;exact Zq) ?_|refine R.Zpp (by rfl)
        (by intro _ _ _;refine st_callV (by rfl) (by rfl) (by rfl) (a5) (fun _ _ => trivial) (by rfl) ?_;exact Zq) ?_|refine R.Zps (by rfl)
        (by intro _ _ _;(first|refine Z29 ?_|refine Z30 ?_|refine Z31 ?_|refine Z32 ?_);exact Zqq) ?_|refine R.Zps (by rfl)
        (by intro _ _ _;refine st_store_GL (m := 24) (by rfl) (by rfl) (by repeat first|apply Find.here|apply Find.there) (by rfl) (by first|with_reducible assumption|simp) (by first|with_reducible assumption|simp) ?_;exact Zqq) ?_|refine R.Zpn (by rfl)
        (by intro _ _ _;(first|refine Z81 fun _ => ?_|refine Z82 fun _ => ?_);exact R.Zpx) fun _ => ?_|refine R.Zpo (by rfl) ?_)
    refine R.Zp0 ?_
    repeat (first|refine Z01 ?_|refine Z03 ?_|refine Z04 ?_|refine Z05 ?_|refine Z06 ?_|refine Z07 ?_|refine Z08 ?_|refine Z09 ?_|refine Z10 ?_|refine Z11 ?_|refine Z12 ?_|refine Z13 ?_|refine Z14 ?_|refine Z24 ?_|refine Z25 ?_|refine Z26 ?_|refine Z27 ?_|refine Z28 ?_|refine Z29 ?_|refine Z30 ?_|refine Z31 ?_|refine Z32 ?_|refine Z49 ?_|refine Z50 ?_|refine Z51 ?_|refine Z52 ?_|refine Z53 ?_|refine Z65 ?_|refine Z67 ?_|refine Z77 ?_|refine Z78 ?_|refine Z79 ?_|refine Z81 fun _ => ?_|refine Z82 fun _ => ?_)
    refine st_endc_GL (m := 24) (by rfl) (by rfl) (by repeat first|apply Find.here|apply Find.there) (by rfl) (by rfl) (by first|with_reducible assumption|simp) fun _ hw => post_of hw SubW.nil ⟨?_, rfl⟩
    rfl
end Go.Proofs.Ytbpmbdlgmmabcaa.L
namespace Go.Proofs.Ytbpmbdlgmmabcaa.L
open Go Go.Proofs
set_option maxRecDepth 100000
attribute [local irreducible] Code.wp wpList Af bodyPost L.Go
open Num
attribute [local simp] D_len
theorem gonP {P : Kf.K2.Pt p} (h : Kf.K2.Onc b2c P) : Spec Try.prog 37 [GV P] NoPre [] (IsV (.bool true)) := by
  cases P with
  | none =>
    have := gon_spec (val_lt (Kf.K2.zero : F2).re) (val_lt (Kf.K2.zero : F2).im) (val_lt (Kf.K2.zero : F2).re) (val_lt (Kf.K2.zero : F2).im) true
    rwa [Bool.true_or] at this
  | some q =>
    have := gon_spec (val_lt q.1.re) (val_lt q.1.im) (val_lt q.2.re) (val_lt q.2.im) false
    rwa [k2_val, k2_val, Bool.false_or, decide_eq_true (show Kf.K2.mul q.2 q.2 = Kf.K2.add (Kf.K2.mul (Kf.K2.mul q.1 q.1) q.1) b2c from h)] at this
set_option maxHeartbeats 8000000 in
theorem gmul_on {P : Kf.K2.Pt p} (h : Kf.K2.Onc b2c P) {a b e f : Nat} (ha : a < W ^ 6) (hb : b < W ^ 6) (he : e < W ^ 6) (hf : f < W ^ 6) (i : Bool) (hP : P = ptv (k2 a b) (k2 e f) i) (s : Value) (xs : List Nat) (hx : Lt 18446744073709551616 xs) (hl : xs.length < 65536) :
    Spec Try.prog 90 [s, G4 a b e f i] (fun w => Rd w s (xs.map (N .u64))) [] (IsV (.tuple [GV (Kf.K2.tim P (V xs)), N .i64 0].toArray)) := by
  refine mk_spec Try.func90 rfl rfl rfl fun w hr => ?_
  have hr := RdC.mk0 hr
  have hl0 := fun x => D_len 6 x
  have hle := fun x : F2 => E2_len x
  have h1 := gred_spec ha hb he hf i
  rw [← hP] at h1
  have h2 := gonP h
  cases P with
  | none =>
    rw [Kf.K2.tim_none]
    rw [GV_none] at h1 h2 ⊢
    repeat (first|(refine st_alloc (E := 38) (v := GL (List.replicate 24 0) false) (by kernel_rfl) (by rfl) fun _ => ?_)|(refine st_load_GL (m := 24) (by rfl) (by repeat first|apply Find.here|apply Find.there) (by rfl) (by rfl) (by first|with_reducible assumption|simp) (by rfl) ?_)|(refine st_ldbG (by rfl) (by repeat first|apply Find.here|apply Find.there) (by rfl) (by first|with_reducible assumption|simp) (by rfl) ?_)|(refine st_fld (by rfl) (by first | exact (show _ = some (0, 6) from rfl) | exact (show _ = some (6, 6) from rfl) | exact (show _ = some (0, 12) from rfl) | exact (show _ = some (12, 12) from rfl) | exact (show _ = some (24, 1) from rfl)) (by rfl) (by rfl) ?_)|((refine st_ldp (by rfl) (by repeat first|apply Find.here|apply Find.there) (by rfl) (by rfl) (by first | (refine PartAt.l ?_; (simp; done)) | (refine PartAt.r ?_ ?_ <;> (simp; done)) | (refine PartAt.all ?_; (simp; done))) (by rfl) ?_))|(refine st_build20 (by rfl) (by rfl) (by rfl) (by rfl) ?_)|(refine st_callV (by rfl) (by rfl) (by rfl) (h1) (fun _ _ => trivial) (by rfl) ?_)|(refine st_callV (by rfl) (by rfl) (by rfl) (h2) (fun _ _ => trivial) (by rfl) ?_)|(refine st_store_GL (m := 24) (by rfl) (by rfl) (by repeat first|apply Find.here|apply Find.there) (by rfl) (by first|with_reducible assumption|simp) (by first|with_reducible assumption|simp) ?_)|(refine st_scope0 ?_)|(refine st_label ?_)|refine Z01 ?_|refine Z02 ?_|refine Z03 ?_|refine Z04 ?_|refine Z05 ?_|refine Z06 ?_|refine Z07 ?_|refine Z08 ?_|refine Z09 ?_|refine Z10 ?_|refine Z11 ?_|refine Z12 ?_|refine Z13 ?_|refine Z14 ?_|refine Z16 ?_|refine Z17 ?_|refine Z18 ?_|refine Z20 ?_|refine Z21 ?_|refine Z22 ?_|refine Z23 ?_|refine Z24 ?_|refine Z25 ?_|refine Z26 ?_|refine Z27 ?_|refine Z28 ?_|refine Z29 ?_|refine Z30 ?_|refine Z31 ?_|refine Z32 ?_|refine Z36 ?_|refine Z37 ?_|refine Z38 ?_|refine Z40 ?_|refine Z42 ?_|refine Z54 ?_|refine Z58 ?_|refine Z59 ?_|refine Z65 ?_|refine Z67 ?_|refine Z71 ?_|refine Z81 fun _ => ?_|refine Z82 fun _ => ?_)
    repeat (first|(with_reducible refine st_ng_ret ?_)|refine Z01 ?_|refine Z02 ?_|refine Z03 ?_|refine Z04 ?_|refine Z05 ?_|refine Z06 ?_|refine Z07 ?_|refine Z08 ?_|refine Z09 ?_|refine Z10 ?_|refine Z11 ?_|refine Z12 ?_|refine Z13 ?_|refine Z14 ?_|refine Z16 ?_|refine Z17 ?_|refine Z18 ?_|refine Z20 ?_|refine Z21 ?_|refine Z22 ?_|refine Z23 ?_|refine Z24 ?_|refine Z25 ?_|refine Z26 ?_|refine Z27 ?_|refine Z28 ?_|refine Z29 ?_|refine Z30 ?_|refine Z31 ?_|refine Z32 ?_|refine Z36 ?_|refine Z37 ?_|refine Z38 ?_|refine Z40 ?_|refine Z42 ?_|refine Z54 ?_|refine Z58 ?_|refine Z59 ?_|refine Z65 ?_|refine Z67 ?_|refine Z71 ?_|refine Z81 fun _ => ?_|refine Z82 fun _ => ?_)
    refine st_endc2_GL (m := 24) (by rfl) (by rfl) (by rfl) (by repeat first|apply Find.here|apply Find.there) (by rfl) (by rfl) (by first|with_reducible assumption|simp) fun _ hw => post_of hw SubW.nil ⟨?_, rfl⟩
    rfl
  | some q =>
    obtain ⟨qx, qy⟩ := q
    rw [GV_some] at h1 h2
    have hz : V xs / 2 ^ (64 * xs.length) = 0 := Nat.div_eq_of_lt (by rw [Nat.pow_mul, ← W_2]; exact V_lt hx)
    repeat (first|(refine st_alloc (E := 38) (v := GL (List.replicate 24 0) false) (by kernel_rfl) (by rfl) fun _ => ?_)|(refine st_load_GL (m := 24) (by rfl) (by repeat first|apply Find.here|apply Find.there) (by rfl) (by rfl) (by first|with_reducible assumption|simp) (by rfl) ?_)|(refine st_ldbG (by rfl) (by repeat first|apply Find.here|apply Find.there) (by rfl) (by first|with_reducible assumption|simp) (by rfl) ?_)|(refine st_fld (by rfl) (by first | exact (show _ = some (0, 6) from rfl) | exact (show _ = some (6, 6) from rfl) | exact (show _ = some (0, 12) from rfl) | exact (show _ = some (12, 12) from rfl) | exact (show _ = some (24, 1) from rfl)) (by rfl) (by rfl) ?_)|((refine st_ldp (by rfl) (by repeat first|apply Find.here|apply Find.there) (by rfl) (by rfl) (by first | (refine PartAt.l ?_; (simp; done)) | (refine PartAt.r ?_ ?_ <;> (simp; done)) | (refine PartAt.all ?_; (simp; done))) (by rfl) ?_))|(refine st_build20 (by rfl) (by rfl) (by rfl) (by rfl) ?_)|(refine st_callV (by rfl) (by rfl) (by rfl) (h1) (fun _ _ => trivial) (by rfl) ?_)|(refine st_callV (by rfl) (by rfl) (by rfl) (h2) (fun _ _ => trivial) (by rfl) ?_)|(refine st_store_GL (m := 24) (by rfl) (by rfl) (by repeat first|apply Find.here|apply Find.there) (by rfl) (by first|with_reducible assumption|simp) (by first|with_reducible assumption|simp) ?_)|(refine st_alloc (E := 97) (v := LV .u64 (List.replicate 36 0)) (by kernel_rfl) (by rfl) fun _ => ?_)|(refine st_scope0 ?_)|(refine st_label ?_)|refine Z01 ?_|refine Z02 ?_|refine Z03 ?_|refine Z04 ?_|refine Z05 ?_|refine Z06 ?_|refine Z07 ?_|refine Z08 ?_|refine Z09 ?_|refine Z10 ?_|refine Z11 ?_|refine Z12 ?_|refine Z13 ?_|refine Z14 ?_|refine Z16 ?_|refine Z17 ?_|refine Z18 ?_|refine Z20 ?_|refine Z21 ?_|refine Z22 ?_|refine Z23 ?_|refine Z24 ?_|refine Z25 ?_|refine Z26 ?_|refine Z27 ?_|refine Z28 ?_|refine Z29 ?_|refine Z30 ?_|refine Z31 ?_|refine Z32 ?_|refine Z36 ?_|refine Z37 ?_|refine Z38 ?_|refine Z40 ?_|refine Z42 ?_|refine Z54 ?_|refine Z58 ?_|refine Z59 ?_|refine Z65 ?_|refine Z67 ?_|refine Z71 ?_|refine Z81 fun _ => ?_|refine Z82 fun _ => ?_)
    rename_i p3 p4 p6
    refine st_loop (ι := Nat × F2 × F2 × F2) (fun q => q.1 ≤ 64 * xs.length ∧ Kf.K2.jp q.2.1 q.2.2.1 q.2.2.2 = Kf.K2.tim (some (qx, qy)) (V xs / 2 ^ q.1)) (fun q => [(0, s), (3, pt p3 0), (4, pt p4 0), (6, pt p6 0), (7, .int .i64 ((q.1 : Int) - 1))])
      (fun q => [.blk p6 (J36 q.2.1 q.2.2.1 q.2.2.2) 97, .blk p3 (GE qx qy false) 38, .blk p4 (GL (List.replicate 24 0) false) 38]) (fun q => q.1) (64 * xs.length, Kf.K2.zero, Kf.K2.zero, Kf.K2.zero) ⟨Nat.le_refl _, by simp only; rw [hz, Kf.K2.jp_0]; rfl⟩ (by repeat (first | apply subL.nil | refine subL.cons (by rfl) ?_)) (by simp only [J36]; rw [← zero36]; exact (by repeat (first | apply SubW.nil | refine SubW.cons (by repeat first|apply Find.here|apply Find.there) ?_))) ?_
    rintro ⟨j, X, Y, Z⟩ ⟨hj, hjp⟩
    simp only at hj hjp ⊢
    repeat (first|refine Z01 ?_|refine Z02 ?_|refine Z03 ?_|refine Z04 ?_|refine Z05 ?_|refine Z06 ?_|refine Z07 ?_|refine Z08 ?_|refine Z09 ?_|refine Z10 ?_|refine Z11 ?_|refine Z12 ?_|refine Z13 ?_|refine Z14 ?_|refine Z16 ?_|refine Z17 ?_|refine Z18 ?_|refine Z20 ?_|refine Z21 ?_|refine Z22 ?_|refine Z23 ?_|refine Z24 ?_|refine Z25 ?_|refine Z26 ?_|refine Z27 ?_|refine Z28 ?_|refine Z29 ?_|refine Z30 ?_|refine Z31 ?_|refine Z32 ?_|refine Z36 ?_|refine Z37 ?_|refine Z38 ?_|refine Z40 ?_|refine Z42 ?_|refine Z54 ?_|refine Z58 ?_|refine Z59 ?_|refine Z65 ?_|refine Z67 ?_|refine Z71 ?_|refine Z81 fun _ => ?_|refine Z82 fun _ => ?_)
    refine st_cond (by rfl) (fun hc => ?_) (fun hc => ?_)
    · have h0 : (0 : Int) ≤ (j : Int) - 1 := hc
      obtain ⟨i, rfl⟩ : ∃ i, j = i + 1 := ⟨j - 1, by omega⟩
      rw [show ((i + 1 : Nat) : Int) - 1 = Int.ofNat i by simp]
      have hst := bit_step (V xs) i
      have hbt := bit_and6 hx i
      generalize V xs / 2 ^ (i + 1) = m at hst hjp
      have ht := twice_spec X Y Z
      have hoj : Kf.K2.Onc b2c (Kf.K2.jp X Y Z) := by rw [hjp]; exact Kf.K2.Onc_tim p_3 h m
      have hjt := Kf.K2.jp_twice p_3 no2 hoj
      rw [hjp, ← Kf.K2.tim_add p_3 no2 h] at hjt
      generalize Kf.K2.tX X Y = X2 at ht hjt
      generalize Kf.K2.tY X Y = Y2 at ht hjt
      generalize Kf.K2.tZ Y Z = Z2 at ht hjt
      repeat (first|((refine st_ldp (by rfl) (by repeat first|apply Find.here|apply Find.there) (by rfl) (by rfl) (PartAt.all (J36_len _ _ _)) (by rfl) ?_))|(refine st_callV (by rfl) (by rfl) (by rfl) (ht) (fun _ _ => trivial) (by rfl) ?_)|((refine st_store_LV (m := 36) (by rfl) (by rfl) (by repeat first|apply Find.here|apply Find.there) (by rfl) (J36_len _ _ _) (J36_len _ _ _) ?_))|(refine st_shr (by rfl) (by rfl) (show i % 64 ≤ 64 by omega) (by rfl) ?_)|(rw [hbt])|refine Z01 ?_|refine Z02 ?_|refine Z03 ?_|refine Z04 ?_|refine Z05 ?_|refine Z06 ?_|refine Z07 ?_|refine Z08 ?_|refine Z09 ?_|refine Z10 ?_|refine Z11 ?_|refine Z12 ?_|refine Z13 ?_|refine Z14 ?_|refine Z16 ?_|refine Z17 ?_|refine Z18 ?_|refine Z20 ?_|refine Z21 ?_|refine Z22 ?_|refine Z23 ?_|refine Z24 ?_|refine Z25 ?_|refine Z26 ?_|refine Z27 ?_|refine Z28 ?_|refine Z29 ?_|refine Z30 ?_|refine Z31 ?_|refine Z32 ?_|refine Z36 ?_|refine Z37 ?_|refine Z38 ?_|refine Z40 ?_|refine Z42 ?_|refine Z54 ?_|refine Z58 ?_|refine Z59 ?_|refine Z65 ?_|refine Z67 ?_|refine Z71 ?_|refine Z81 fun _ => ?_|refine Z82 fun _ => ?_)
      refine st_cond (by rfl) (fun hb => ?_) (fun hb => ?_)
      · have hx1 : V xs / 2 ^ i = m + m := by omega
        repeat (first|refine Z01 ?_|refine Z02 ?_|refine Z03 ?_|refine Z04 ?_|refine Z05 ?_|refine Z06 ?_|refine Z07 ?_|refine Z08 ?_|refine Z09 ?_|refine Z10 ?_|refine Z11 ?_|refine Z12 ?_|refine Z13 ?_|refine Z14 ?_|refine Z16 ?_|refine Z17 ?_|refine Z18 ?_|refine Z20 ?_|refine Z21 ?_|refine Z22 ?_|refine Z23 ?_|refine Z24 ?_|refine Z25 ?_|refine Z26 ?_|refine Z27 ?_|refine Z28 ?_|refine Z29 ?_|refine Z30 ?_|refine Z31 ?_|refine Z32 ?_|refine Z36 ?_|refine Z37 ?_|refine Z38 ?_|refine Z40 ?_|refine Z42 ?_|refine Z54 ?_|refine Z58 ?_|refine Z59 ?_|refine Z65 ?_|refine Z67 ?_|refine Z71 ?_|refine Z81 fun _ => ?_|refine Z82 fun _ => ?_)
        refine st_round (i, X2, Y2, Z2) ⟨by simp only; omega, by simp only; rw [hjt, hx1]⟩ (by simp only; omega) ?_ (by repeat (first | apply SubW.nil | refine SubW.cons (by repeat first|apply Find.here|apply Find.there) ?_))
        rw [show ((i : Int) - 1) = Int.ofNat i - Int.ofNat 1 from rfl]
        exact (by repeat (first | apply subL.nil | refine subL.cons (by rfl) ?_))
      · have hx1 : V xs / 2 ^ i = m + m + 1 := by omega
        have ho2 : Kf.K2.Onc b2c (Kf.K2.jp X2 Y2 Z2) := by rw [hjt]; exact Kf.K2.Onc_tim p_3 h _
        obtain ⟨X3, Y3, Z3, hj3, hs3⟩ := plus_ex X2 Y2 Z2 qx qy ho2
        rw [hjt, show Kf.K2.pa (Kf.K2.tim (some (qx, qy)) (m + m)) (some (qx, qy)) = Kf.K2.tim (some (qx, qy)) (m + m + 1) from rfl] at hj3
        repeat (first|((refine st_ldp (by rfl) (by repeat first|apply Find.here|apply Find.there) (by rfl) (by rfl) (PartAt.all (J36_len _ _ _)) (by rfl) ?_))|(refine st_load_GL (m := 24) (by rfl) (by repeat first|apply Find.here|apply Find.there) (by rfl) (by rfl) (by first|with_reducible assumption|simp) (by rfl) ?_)|(refine st_callV (by rfl) (by rfl) (by rfl) (hs3) (fun _ _ => trivial) (by rfl) ?_)|((refine st_store_LV (m := 36) (by rfl) (by rfl) (by repeat first|apply Find.here|apply Find.there) (by rfl) (J36_len _ _ _) (J36_len _ _ _) ?_))|refine Z01 ?_|refine Z02 ?_|refine Z03 ?_|refine Z04 ?_|refine Z05 ?_|refine Z06 ?_|refine Z07 ?_|refine Z08 ?_|refine Z09 ?_|refine Z10 ?_|refine Z11 ?_|refine Z12 ?_|refine Z13 ?_|refine Z14 ?_|refine Z16 ?_|refine Z17 ?_|refine Z18 ?_|refine Z20 ?_|refine Z21 ?_|refine Z22 ?_|refine Z23 ?_|refine Z24 ?_|refine Z25 ?_|refine Z26 ?_|refine Z27 ?_|refine Z28 ?_|refine Z29 ?_|refine Z30 ?_|refine Z31 ?_|refine Z32 ?_|refine Z36 ?_|refine Z37 ?_|refine Z38 ?_|refine Z40 ?_|refine Z42 ?_|refine Z54 ?_|refine Z58 ?_|refine Z59 ?_|refine Z65 ?_|refine Z67 ?_|refine Z71 ?_|refine Z81 fun _ => ?_|refine Z82 fun _ => ?_)
        refine st_round (i, X3, Y3, Z3) ⟨by simp only; omega, by simp only; rw [hj3, hx1]⟩ (by simp only; omega) ?_ (by repeat (first | apply SubW.nil | refine SubW.cons (by repeat first|apply Find.here|apply Find.there) ?_))
        rw [show ((i : Int) - 1) = Int.ofNat i - Int.ofNat 1 from rfl]
        exact (by repeat (first | apply subL.nil | refine subL.cons (by rfl) ?_))
    · have hp0 : ¬ (0 : Int) ≤ (j : Int) - 1 := hc
      have hj0 : j = 0 := by omega
      subst hj0
      rw [Nat.pow_zero, Nat.div_one] at hjp
      have hpt := point_spec X Y Z
      rw [hjp] at hpt
      obtain ⟨x1, y1, i1, hq⟩ : ∃ x1 y1 i1, GV (Kf.K2.tim (some (qx, qy)) (V xs)) = GE x1 y1 i1 := ⟨_, _, _, rfl⟩
      rw [hq] at hpt ⊢
      repeat (first|((refine st_ldp (by rfl) (by repeat first|apply Find.here|apply Find.there) (by rfl) (by rfl) (PartAt.all (J36_len _ _ _)) (by rfl) ?_))|(refine st_callV (by rfl) (by rfl) (by rfl) (hpt) (fun _ _ => trivial) (by rfl) ?_)|(refine st_store_GL (m := 24) (by rfl) (by rfl) (by repeat first|apply Find.here|apply Find.there) (by rfl) (by first|with_reducible assumption|simp) (by first|with_reducible assumption|simp) ?_)|refine Z01 ?_|refine Z02 ?_|refine Z03 ?_|refine Z04 ?_|refine Z05 ?_|refine Z06 ?_|refine Z07 ?_|refine Z08 ?_|refine Z09 ?_|refine Z10 ?_|refine Z11 ?_|refine Z12 ?_|refine Z13 ?_|refine Z14 ?_|refine Z16 ?_|refine Z17 ?_|refine Z18 ?_|refine Z20 ?_|refine Z21 ?_|refine Z22 ?_|refine Z23 ?_|refine Z24 ?_|refine Z25 ?_|refine Z26 ?_|refine Z27 ?_|refine Z28 ?_|refine Z29 ?_|refine Z30 ?_|refine Z31 ?_|refine Z32 ?_|refine Z36 ?_|refine Z37 ?_|refine Z38 ?_|refine Z40 ?_|refine Z42 ?_|refine Z54 ?_|refine Z58 ?_|refine Z59 ?_|refine Z65 ?_|refine Z67 ?_|refine Z71 ?_|refine Z81 fun _ => ?_|refine Z82 fun _ => ?_)
      repeat (first|(with_reducible refine st_ng_ret ?_)|refine Z01 ?_|refine Z02 ?_|refine Z03 ?_|refine Z04 ?_|refine Z05 ?_|refine Z06 ?_|refine Z07 ?_|refine Z08 ?_|refine Z09 ?_|refine Z10 ?_|refine Z11 ?_|refine Z12 ?_|refine Z13 ?_|refine Z14 ?_|refine Z16 ?_|refine Z17 ?_|refine Z18 ?_|refine Z20 ?_|refine Z21 ?_|refine Z22 ?_|refine Z23 ?_|refine Z24 ?_|refine Z25 ?_|refine Z26 ?_|refine Z27 ?_|refine Z28 ?_|refine Z29 ?_|refine Z30 ?_|refine Z31 ?_|refine Z32 ?_|refine Z36 ?_|refine Z37 ?_|refine Z38 ?_|refine Z40 ?_|refine Z42 ?_|refine Z54 ?_|refine Z58 ?_|refine Z59 ?_|refine Z65 ?_|refine Z67 ?_|refine Z71 ?_|refine Z81 fun _ => ?_|refine Z82 fun _ => ?_)
      refine st_endc2_GL (m := 24) (by rfl) (by rfl) (by rfl) (by repeat first|apply Find.here|apply Find.there) (by rfl) (by rfl) (by first|with_reducible assumption|simp) fun _ hw => post_of hw SubW.nil ⟨?_, rfl⟩
      rfl
end Go.Proofs.Ytbpmbdlgmmabcaa.L
namespace Go.Proofs.Ytbpmbdlgmmabcaa.L
open Go Go.Proofs
set_option maxRecDepth 100000
attribute [local irreducible] Code.wp wpList Af bodyPost L.Go
open Num
attribute [local simp] D_len
theorem isoP_on {x y : F2} (h : Kf.K2.mul y y = side x) : isoP x y = (phx x, phy x y, false) :=
  isoP_0 rfl rfl rfl rfl (lin_Q2 (lin_ne h)) (lin_Q4 (lin_ne h))
theorem mapE (x : F2) : Spec Try.prog 35 [LV .u64 (E2 x)] NoPre [] (IsV (.tuple [LV .u64 (E2 (mapP x).1), LV .u64 (E2 (mapP x).2)].toArray)) := by
  have := map_spec (val_lt x.re) (val_lt x.im); rwa [k2_val] at this
theorem isoE (x y : F2) : Spec Try.prog 30 [LV .u64 (E2 x), LV .u64 (E2 y)] NoPre [] (IsV (GE (isoP x y).1 (isoP x y).2.1 (isoP x y).2.2)) := by
  have := iso_spec (val_lt x.re) (val_lt x.im) (val_lt y.re) (val_lt y.im); rwa [k2_val, k2_val] at this
theorem isoT {x y : F2} (h : Kf.K2.mul y y = side x) : Spec Try.prog 30 [LV .u64 (E2 x), LV .u64 (E2 y)] NoPre [] (IsV (GE (phx x) (phy x y) false)) := by
  have := isoE x y; rwa [isoP_on h] at this
theorem gaddE (P Q : Kf.K2.Pt p) : Spec Try.prog 41 [GV P, GV Q] NoPre [] (IsV (GV (Kf.K2.pa P Q))) := by
  have := gadd_spec (val_lt (gx P).re) (val_lt (gx P).im) (val_lt (gy P).re) (val_lt (gy P).im) (gi P) (val_lt (gx Q).re) (val_lt (gx Q).im) (val_lt (gy Q).re) (val_lt (gy Q).im) (gi Q)
  rwa [k2_val, k2_val, k2_val, k2_val, ptv_gv, ptv_gv] at this
end Go.Proofs.Ytbpmbdlgmmabcaa.L
namespace Go.Proofs.Ytbpmbdlgmmabcaa.L
open Go Go.Proofs
set_option maxRecDepth 100000
attribute [local irreducible] Code.wp wpList Af bodyPost L.Go
open Num
attribute [local simp] D_len
theorem geq_same (x y : F2) (i : Bool) : (((decide (D 6 x.re.val = D 6 x.re.val) && decide (D 6 x.im.val = D 6 x.im.val)) && (decide (D 6 y.re.val = D 6 y.re.val) && decide (D 6 y.im.val = D 6 y.im.val))) && decide (i = i)) = true := by
  rw [E2_same, E2_same, decide_eq_true rfl]; rfl
end Go.Proofs.Ytbpmbdlgmmabcaa.L
namespace Go.Proofs.Ytbpmbdlgmmabcaa.L
open Go Go.Proofs
set_option maxRecDepth 100000
attribute [local irreducible] Code.wp wpList Af bodyPost L.Go
open Num
attribute [local simp] D_len
def hC : List Nat := [16717924791090763089, 6451771550755190452, 16813287336095381155, 3368952460600638490, 7891079509683868336, 3646841576362204053, 11062809923385098209, 9863631852917151592, 6362576984766887208, 848540440590185907]
theorem hC_lt : Lt 18446744073709551616 hC := by unfold Lt hC; decide
theorem hC_len : hC.length = 10 := rfl
set_option maxHeartbeats 8000000 in
theorem clear_on {P : Kf.K2.Pt p} (h : Kf.K2.Onc b2c P) {a b e f : Nat} (ha : a < W ^ 6) (hb : b < W ^ 6) (he : e < W ^ 6) (hf : f < W ^ 6) (i : Bool) (hP : P = ptv (k2 a b) (k2 e f) i) :
    Spec Try.prog 49 [G4 a b e f i] NoPre [] (IsV (.tuple [GV (Kf.K2.tim P (V hC)), N .i64 0].toArray)) := by
  refine mk_spec Try.func49 rfl rfl rfl fun w hr => ?_
  have hl0 := fun x => D_len 6 x
  have hle := fun x : F2 => E2_len x
  have hm := fun s => gmul_on h ha hb he hf i hP s hC hC_lt (by decide)
  obtain ⟨x1, y1, i1, hq⟩ : ∃ x1 y1 i1, GV (Kf.K2.tim P (V hC)) = GE x1 y1 i1 := ⟨_, _, _, rfl⟩
  rw [hq] at hm ⊢
  repeat (first|(refine st_alloc (E := 38) (v := GL (List.replicate 24 0) false) (by kernel_rfl) (by rfl) fun _ => ?_)|((refine st_alloc (v := LV .u64 (List.replicate 10 0)) (by rfl) (by rfl) fun _ => ?_))|((refine st_buildC (m := 10) (kk := .u64) (by rfl) (by rfl) (by rfl) (by rfl) (by rfl) (by rfl) (by rfl) (by rfl) ?_; rw [show [16717924791090763089, 6451771550755190452, 16813287336095381155, 3368952460600638490, 7891079509683868336, 3646841576362204053, 11062809923385098209, 9863631852917151592, 6362576984766887208, 848540440590185907] ++ List.replicate (10 - [16717924791090763089, 6451771550755190452, 16813287336095381155, 3368952460600638490, 7891079509683868336, 3646841576362204053, 11062809923385098209, 9863631852917151592, 6362576984766887208, 848540440590185907].length) 0 = hC from rfl]))|refine Z02 ?_|refine Z03 ?_|refine Z04 ?_|refine Z05 ?_|refine Z06 ?_|refine Z07 ?_|refine Z08 ?_|refine Z09 ?_|refine Z10 ?_|refine Z11 ?_|refine Z12 ?_|refine Z13 ?_|refine Z14 ?_|refine Z19 ?_|refine Z24 ?_|refine Z25 ?_|refine Z26 ?_|refine Z27 ?_|refine Z28 ?_|refine Z29 ?_|refine Z30 ?_|refine Z31 ?_|refine Z32 ?_|refine Z62 ?_|refine Z63 ?_|refine Z64 ?_|refine Z65 ?_|refine Z67 ?_|refine Z81 fun _ => ?_|refine Z82 fun _ => ?_)
  refine R.st_perm [0, 1, 2, 3, 4, 5, 6] (by rfl) ?_
  repeat (first|refine R.Zpf (by rfl)
      (by intro _ _ _;(first|refine Z02 ?_|refine Z19 ?_|refine Z62 ?_|refine Z63 ?_|refine Z64 ?_|refine Z65 ?_);exact Zq) ?_|refine R.Zpp (by rfl)
      (by intro _ _ _;(first|refine Z24 ?_|refine Z25 ?_|refine Z26 ?_|refine Z27 ?_|refine Z28 ?_|refine Z67 ?_|refine Z62 ?_);exact Zq) ?_|refine R.Zpp (by rfl)
      (by intro _ _ _;refine st_load_GL (m := 24) (by rfl) (by repeat first|apply Find.here|apply Find.there) (by rfl) (by rfl) (by first|with_reducible assumption|simp) (by rfl) ?_;exact Zq) ?_|refine R.Zpp (by rfl)
      (by intro _ _ _;refine st_callV (by rfl) (by rfl) (by rfl) (hm _) (RdW.arrAll (m := 10) (by repeat first|apply Find.here|apply Find.there) hC_len) (by rfl) ?_;exact Zq) ?_|refine R.Zps (by rfl)
      (by intro _ _ _;(first|refine Z29 ?_|refine Z30 ?_|refine Z31 ?_|refine Z32 ?_);exact Zqq) ?_|refine R.Zps (by rfl)
      (by intro _ _ _;refine st_store_GL (m := 24) (by rfl) (by rfl) (by repeat first|apply Find.here|apply Find.there) (by rfl) (by first|with_reducible assumption|simp) (by first|with_reducible assumption|simp) ?_;exact Zqq) ?_|refine R.Zpn (by rfl)
      (by intro _ _ _;(first|refine Z81 fun _ => ?_|refine Z82 fun _ => ?_);exact R.Zpx) fun _ => ?_|refine R.Zpo (by rfl) ?_)
  refine R.Zp0 ?_
  repeat (first|refine Z02 ?_|refine Z03 ?_|refine Z04 ?_|refine Z05 ?_|refine Z06 ?_|refine Z07 ?_|refine Z08 ?_|refine Z09 ?_|refine Z10 ?_|refine Z11 ?_|refine Z12 ?_|refine Z13 ?_|refine Z14 ?_|refine Z19 ?_|refine Z24 ?_|refine Z25 ?_|refine Z26 ?_|refine Z27 ?_|refine Z28 ?_|refine Z29 ?_|refine Z30 ?_|refine Z31 ?_|refine Z32 ?_|refine Z62 ?_|refine Z63 ?_|refine Z64 ?_|refine Z65 ?_|refine Z67 ?_|refine Z81 fun _ => ?_|refine Z82 fun _ => ?_)
  refine st_endc2_GL (m := 24) (by rfl) (by rfl) (by rfl) (by repeat first|apply Find.here|apply Find.there) (by rfl) (by rfl) (by first|with_reducible assumption|simp) fun _ hw => post_of hw SubW.nil ⟨?_, rfl⟩
  rfl
theorem clearE {P : Kf.K2.Pt p} (h : Kf.K2.Onc b2c P) : Spec Try.prog 49 [GV P] NoPre [] (IsV (.tuple [GV (Kf.K2.tim P (V hC)), N .i64 0].toArray)) :=
  clear_on h (val_lt (gx P).re) (val_lt (gx P).im) (val_lt (gy P).re) (val_lt (gy P).im) (gi P) (by rw [k2_val, k2_val, ptv_gv])
def sent (u : F2) : Kf.K2.Pt p := some (phx (mapP u).1, phy (mapP u).1 (mapP u).2)
theorem sent_on (u : F2) : Kf.K2.Onc b2c (sent u) := ph_on (mapP_on u)
theorem sent_spec {a b : Nat} (ha : a < W ^ 6) (hb : b < W ^ 6) : Spec Try.prog 91 [LV .u64 (D 6 a ++ D 6 b)] NoPre [] (IsV (GV (sent (k2 a b)))) := by
  refine mk_spec Try.func91 rfl rfl rfl fun w hr => ?_
  have hl0 := fun x => D_len 6 x
  have hle := fun x : F2 => E2_len x
  have hm := map_spec ha hb
  have hi := isoT (mapP_on (k2 a b))
  rw [sent, GV_some]
  generalize mapP (k2 a b) = r at hm hi ⊢
  obtain ⟨x, y⟩ := r
  simp only at hm hi ⊢
  generalize phx x = c at hi ⊢
  generalize phy x y = d at hi ⊢
  repeat (first|(refine st_alloc (E := 38) (v := GL (List.replicate 24 0) false) (by kernel_rfl) (by rfl) fun _ => ?_)|(refine st_callV (by rfl) (by rfl) (by rfl) (hm) (fun _ _ => trivial) (by rfl) ?_)|(refine st_callV (by rfl) (by rfl) (by rfl) (hi) (fun _ _ => trivial) (by rfl) ?_)|(refine st_store_GL (m := 24) (by rfl) (by rfl) (by repeat first|apply Find.here|apply Find.there) (by rfl) (by first|with_reducible assumption|simp) (by first|with_reducible assumption|simp) ?_)|refine Z03 ?_|refine Z04 ?_|refine Z05 ?_|refine Z06 ?_|refine Z07 ?_|refine Z08 ?_|refine Z09 ?_|refine Z10 ?_|refine Z11 ?_|refine Z12 ?_|refine Z13 ?_|refine Z14 ?_|refine Z19 ?_|refine Z24 ?_|refine Z25 ?_|refine Z26 ?_|refine Z27 ?_|refine Z28 ?_|refine Z29 ?_|refine Z30 ?_|refine Z31 ?_|refine Z32 ?_|refine Z67 ?_|refine Z81 fun _ => ?_|refine Z82 fun _ => ?_)
  refine st_endc_GL (m := 24) (by rfl) (by rfl) (by repeat first|apply Find.here|apply Find.there) (by rfl) (by rfl) (by first|with_reducible assumption|simp) fun _ hw => post_of hw SubW.nil ⟨?_, rfl⟩
  rfl
def send (u v : F2) : Kf.K2.Pt p := Kf.K2.tim (Kf.K2.pa (sent u) (sent v)) (V hC)
set_option maxHeartbeats 8000000 in
theorem send_spec {a b e f : Nat} (ha : a < W ^ 6) (hb : b < W ^ 6) (he : e < W ^ 6) (hf : f < W ^ 6) : Spec Try.prog 50 [LV .u64 (D 6 a ++ D 6 b), LV .u64 (D 6 e ++ D 6 f)] NoPre [] (IsV (GV (send (k2 a b) (k2 e f)))) := by
  refine mk_spec Try.func50 rfl rfl rfl fun w hr => ?_
  have hl0 := fun x => D_len 6 x
  have hle := fun x : F2 => E2_len x
  have h1 := sent_spec ha hb
  have h2 := sent_spec he hf
  have h3 := gaddE (sent (k2 a b)) (sent (k2 e f))
  have h4 := clearE (Kf.K2.Onc_pa p_3 (sent_on (k2 a b)) (sent_on (k2 e f)))
  rw [send]
  obtain ⟨x1, y1, i1, hq1⟩ : ∃ x1 y1 i1, GV (sent (k2 a b)) = GE x1 y1 i1 := ⟨_, _, _, rfl⟩
  obtain ⟨x2, y2, i2, hq2⟩ : ∃ x1 y1 i1, GV (sent (k2 e f)) = GE x1 y1 i1 := ⟨_, _, _, rfl⟩
  obtain ⟨x3, y3, i3, hq3⟩ : ∃ x1 y1 i1, GV (Kf.K2.pa (sent (k2 a b)) (sent (k2 e f))) = GE x1 y1 i1 := ⟨_, _, _, rfl⟩
  obtain ⟨x4, y4, i4, hq4⟩ : ∃ x1 y1 i1, GV (Kf.K2.tim (Kf.K2.pa (sent (k2 a b)) (sent (k2 e f))) (V hC)) = GE x1 y1 i1 := ⟨_, _, _, rfl⟩
  rw [hq1] at h1 h3
  rw [hq2] at h2 h3
  rw [hq3] at h3 h4
  rw [hq4] at h4 ⊢
  repeat (first|(refine st_alloc (E := 38) (v := GL (List.replicate 24 0) false) (by kernel_rfl) (by rfl) fun _ => ?_)|refine Z01 ?_|refine Z02 ?_|refine Z03 ?_|refine Z04 ?_|refine Z05 ?_|refine Z06 ?_|refine Z07 ?_|refine Z08 ?_|refine Z09 ?_|refine Z10 ?_|refine Z11 ?_|refine Z12 ?_|refine Z13 ?_|refine Z14 ?_|refine Z19 ?_|refine Z24 ?_|refine Z25 ?_|refine Z26 ?_|refine Z27 ?_|refine Z28 ?_|refine Z29 ?_|refine Z30 ?_|refine Z31 ?_|refine Z32 ?_|refine Z67 ?_|refine Z81 fun _ => ?_|refine Z82 fun _ => ?_)
  refine R.st_perm [0, 1, 2, 3, 4, 5, 6, 7, 8, 9, 10, 11, 12, 13] (by rfl) ?_
  repeat (first|refine R.Zpf (by rfl)
      (by intro _ _ _;(first|refine Z01 ?_|refine Z02 ?_|refine Z19 ?_);exact Zq) ?_|refine R.Zpp (by rfl)
      (by intro _ _ _;(first|refine Z24 ?_|refine Z25 ?_|refine Z26 ?_|refine Z27 ?_|refine Z28 ?_|refine Z67 ?_);exact Zq) ?_|refine R.Zpp (by rfl)
      (by intro _ _ _;(refine st_ldp (by rfl) (by repeat first|apply Find.here|apply Find.there) (by rfl) (by rfl) (by first | (refine PartAt.l ?_; (simp; done)) | (refine PartAt.r ?_ ?_ <;> (simp; done)) | (refine PartAt.all ?_; (simp; done))) (by rfl) ?_);exact Zq) ?_|refine R.Zpp (by rfl)
      (by intro _ _ _;refine st_callV (by rfl) (by rfl) (by rfl) (h1) (fun _ _ => trivial) (by rfl) ?_;exact Zq) ?_|refine R.Zpp (by rfl)
      (by intro _ _ _;refine st_callV (by rfl) (by rfl) (by rfl) (h2) (fun _ _ => trivial) (by rfl) ?_;exact Zq) ?_|refine R.Zpp (by rfl)
      (by intro _ _ _;refine st_callV (by rfl) (by rfl) (by rfl) (h3) (fun _ _ => trivial) (by rfl) ?_;exact Zq) ?_|refine R.Zpp (by rfl)
      (by intro _ _ _;refine st_callV (by rfl) (by rfl) (by rfl) (h4) (fun _ _ => trivial) (by rfl) ?_;exact Zq) ?_|refine R.Zps (by rfl)
      (by intro _ _ _;(first|refine Z29 ?_|refine Z30 ?_|refine Z31 ?_|refine Z32 ?_);exact Zqq) ?_|refine R.Zps (by rfl)
      (by intro _ _ _;refine st_store_GL (m := 24) (by rfl) (by rfl) (by repeat first|apply Find.here|apply Find.there) (by rfl) (by first|with_reducible assumption|simp) (by first|with_reducible assumption|simp) ?_;exact Zqq) ?_|refine R.Zpb (by rfl)
      (by intro _ _ _;refine st_alloc (E := 38) (v := GL (List.replicate 24 0) false) (by kernel_rfl) (by rfl) fun _ => ?_;exact R.Zpbx) fun _ => ?_|refine R.Zpn (by rfl)
      (by intro _ _ _;(first|refine Z81 fun _ => ?_|refine Z82 fun _ => ?_);exact R.Zpx) fun _ => ?_|refine R.Zpo (by rfl) ?_)
  refine R.Zp0 ?_
  repeat (first|(refine st_load_GL (m := 24) (by rfl) (by repeat first|apply Find.here|apply Find.there) (by rfl) (by rfl) (by first|with_reducible assumption|simp) (by rfl) ?_)|(refine st_store_GL (m := 24) (by rfl) (by rfl) (by repeat first|apply Find.here|apply Find.there) (by rfl) (by first|with_reducible assumption|simp) (by first|with_reducible assumption|simp) ?_)|refine Z01 ?_|refine Z02 ?_|refine Z03 ?_|refine Z04 ?_|refine Z05 ?_|refine Z06 ?_|refine Z07 ?_|refine Z08 ?_|refine Z09 ?_|refine Z10 ?_|refine Z11 ?_|refine Z12 ?_|refine Z13 ?_|refine Z14 ?_|refine Z19 ?_|refine Z24 ?_|refine Z25 ?_|refine Z26 ?_|refine Z27 ?_|refine Z28 ?_|refine Z29 ?_|refine Z30 ?_|refine Z31 ?_|refine Z32 ?_|refine Z67 ?_|refine Z81 fun _ => ?_|refine Z82 fun _ => ?_)
  refine st_endc_GL (m := 24) (by rfl) (by rfl) (by repeat first|apply Find.here|apply Find.there) (by rfl) (by rfl) (by first|with_reducible assumption|simp) fun _ hw => post_of hw SubW.nil ⟨?_, rfl⟩
  rfl
end Go.Proofs.Ytbpmbdlgmmabcaa.L
namespace Go.Proofs.Ytbpmbdlgmmabcaa.L
open Go Go.Proofs
set_option maxRecDepth 100000
attribute [local irreducible] Code.wp wpList Af bodyPost L.Go
open Num
def kT : List Nat := [81, 85, 85, 88, 45, 86, 48, 49, 45, 67, 83, 48, 50, 45, 119, 105, 116, 104, 45, 66, 76, 83, 49, 50, 51, 56, 49, 71, 50, 95, 88, 77, 68, 58, 83, 72, 65, 45, 50, 53, 54, 95, 83, 83, 87, 85, 95, 82, 79, 95]
theorem kT_lt : Lt 256 kT := by unfold Lt kT; decide
theorem c0_eq : Kf.K2.neg (Kf.K2.mul bc (Kf.K2.inv ac)) = (k2 1267429692486861341248966778149702982909679559647352497021818409772610022655431990406851082557521626945333186310595 2734979862734806052168823047586201173647203260291655388310239726351421627835405874035836546571494037092561086249192) := by
  rw [Kf.K2.div_eq p_3 (x := Kf.K2.neg (k2 1267429692486861341248966778149702982909679559647352497021818409772610022655431990406851082557521626945333186310595 2734979862734806052168823047586201173647203260291655388310239726351421627835405874035836546571494037092561086249192)) ac_ne (by decide +kernel)]
  decide +kernel
theorem rootd_eq {g : Nat} {x y : F2} (hy : Kf.K2.mul y y = side x) (hs : Kf.K2.sgn y = g) : rootd g x = (y, true) := by
  have hq : Kf.K2.isq2 (side x) = true := (Kf.K2.isq2_iff p_3).2 ⟨y, hy⟩
  have h2 : (rootd g x).2 = true := by rw [rootd_2]; exact hq
  have hg : g < 2 := by rw [← hs]; exact Kf.K2.sgn_lt y
  have h1 := rootd_sq (g := g) hq
  have h3 := rootd_sgn hg hq (side_ne x)
  have e : Kf.K2.mul (Kf.K2.sub (rootd g x).1 y) (Kf.K2.add (rootd g x).1 y) = Kf.K2.zero := Kf.K2.sq_diff (h1.trans hy.symm)
  rcases Kf.K2.mul_zero_or p_3 e with e | e
  · have e1 := Kf.K2.sub_zero_eq e
    exact Prod.ext e1 h2
  · exfalso
    have e1 := Kf.K2.add_zero_neg e
    rw [e1, Kf.K2.sgn_flip p_3 (y_ne0 hy), hs] at h3
    omega
theorem mapP_cert {u x y t : F2} (ht : Kf.K2.mul t (tz (wz u)) = Kf.K2.one) (hx : x = Kf.K2.mul (k2 1267429692486861341248966778149702982909679559647352497021818409772610022655431990406851082557521626945333186310595 2734979862734806052168823047586201173647203260291655388310239726351421627835405874035836546571494037092561086249192) (Kf.K2.add Kf.K2.one t)) (hy : Kf.K2.mul y y = side x) (hs : Kf.K2.sgn y = Kf.K2.sgn u) : mapP u = (x, y) := by
  have h0 : ¬ tz (wz u) = Kf.K2.zero := fun e => by
    rw [e, Kf.K2.mul_zero2] at ht
    exact Kf.K2.one_ne2 p_3 ht.symm
  have hi : Kf.K2.inv (tz (wz u)) = t := by
    have := Kf.K2.div_eq p_3 h0 ht
    rwa [Kf.K2.one_mul'] at this
  have e1 := xone_0 (w := wz u) (t := tz (wz u)) rfl h0
  rw [hi, c0_eq, ← hx] at e1
  have e2 := rootd_eq hy hs
  have := mapP_1 (u := u) rfl e1.symm e2.symm rfl
  exact this
theorem phx_cert {x X : F2} (h0 : pol x Q2 ≠ Kf.K2.zero) (h : Kf.K2.mul X (pol x Q2) = pol x Q1) : phx x = X := Kf.K2.div_eq p_3 h0 h
theorem phy_cert {x y Y : F2} (h0 : pol x Q4 ≠ Kf.K2.zero) (h : Kf.K2.mul Y (pol x Q4) = Kf.K2.mul y (pol x Q3)) : phy x y = Y := by
  rw [phy, ← Kf.K2.mul_assoc']
  exact Kf.K2.div_eq p_3 h0 h
theorem stands_cert {S : Kf.K2.St} {P : Kf.K2.Pt p} {X Y : F2} (h : Kf.K2.Stands S P) (hz : Kf.K2.isz S.z = false) (hx : Kf.K2.mul X (Kf.K2.mul (Kf.K2.red p S.z) (Kf.K2.red p S.z)) = Kf.K2.red p S.x) (hy : Kf.K2.mul Y (Kf.K2.mul (Kf.K2.mul (Kf.K2.red p S.z) (Kf.K2.red p S.z)) (Kf.K2.red p S.z)) = Kf.K2.red p S.y) : P = some (X, Y) := by
  have z0 : Kf.K2.red p S.z ≠ Kf.K2.zero := fun e => by rw [(Kf.K2.isz_iff h.z).2 e] at hz; cases hz
  rw [← h.e, Kf.K2.jp_n z0]
  have hi := Kf.K2.inv_mul2 p_3 z0
  refine Kf.K2.some_pair ?_ ?_
  · rw [Kf.K2.jx, ← hx]
    generalize Kf.K2.inv (Kf.K2.red p S.z) = i at hi
    generalize Kf.K2.red p S.z = z at hi
    exact Kf.K2.cert_x hi
  · rw [Kf.K2.jy, ← hy]
    generalize Kf.K2.inv (Kf.K2.red p S.z) = i at hi
    generalize Kf.K2.red p S.z = z at hi
    exact Kf.K2.cert_y hi
def aU0 : F2 := (k2 593868448310005448561172252387029516360409945786457439875974315031640021389835649561235021338510064922970633805048 867375309489067512797459860887365951877054038763818448057326190302701649888849997836339069389536967202878289851290)
def aX0 : F2 := (k2 247000889425909073323253760662594248478519539052718751429094202182751397921429811614953873291195197910072700650892 3557179370195599083109501581838000826052321867195478666908439992121263526125384222649169667449608345548902519938077)
def aY0 : F2 := (k2 1789866621042807238102907475382506332034840965291028464945081245097279248221497616806901995510849528127582528143091 2261920060396917200558995605865363952988463533408187402812091326590595155556733986360256617149524560595567798206730)
theorem aM0 : mapP aU0 = ((k2 3942339120143403995959884458065911863622623490130179671696530864527894030375709350085997343451924840375271949093332 3523381697296058645143708860912139218718520142948191822158638626523448297128525915027995335789050238781038107799201), (k2 1842813153358560687634500333570189006426514559071004676715031705637331861897467026112259097700599015948196491964104 1919560373509329990190398196596248904228486898136222165059580822353869402983639316101175960854421770934878934628156)) := mapP_cert (t := (k2 1516481514946737989817691402502930166608728453590917569809237108048006962059989903273067253177416255699306394247410 1883201769330466065671958181559058082716285314217293419436581379803024778698693945944863852649598770086728047395995)) (by decide +kernel) (by decide +kernel) (by decide +kernel) (by decide +kernel)
theorem aS0 : sent aU0 = some (aX0, aY0) := by
  rw [sent, aM0]
  exact Kf.K2.some_pair (phx_cert (by decide +kernel) (by decide +kernel)) (phy_cert (by decide +kernel) (by decide +kernel))
def aU1 : F2 := (k2 457889704519948843474026022562641969443315715595459159112874498082953431971323809145630315884223143822925947137684 3132697209754082586339430915081913810572071485832539443682634025529375380328136128542015469873094481703191673087029)
def aX1 : F2 := (k2 2653316741049867356846339142779301820246227038474367602164293991028731662252487887055483099994673757855056102033598 3004540012464469496149443751502035824386563338581531881619960946487251912156763500062348703680303970725657264924210)
def aY1 : F2 := (k2 2436093761503339277710533452184041720241350573820092656898129088132931367043020801076222585008031239228777997258186 836535538336124528574557550904612322806859485510882466665227695209180661987073534533776044142505491651567017359628)
theorem aM1 : mapP aU1 = ((k2 1133312341110595205232359498620679734391514329429885310878552117098380600406185141389821276199340445849156426628096 2363721723854250884338572300341685530072160368677437549136086854319785634144151986552110912074825799079021304874889), (k2 2118805429048073078443247863779680561222250856781612015223057344889147526018767378659529981548751757045068950554072 1078123135037974527736698374119090217049035685701368399503148425326441759310804083797413869614596539324259578903443)) := mapP_cert (t := (k2 1221644787499537759389707874314907733265958153886478669368798400684096060258956443229136157537698125499892319689601 3745939490412463010995062332805027016761066959291460031786134864261167340089249978301062770010696175075576528609227)) (by decide +kernel) (by decide +kernel) (by decide +kernel) (by decide +kernel)
theorem aS1 : sent aU1 = some (aX1, aY1) := by
  rw [sent, aM1]
  exact Kf.K2.some_pair (phx_cert (by decide +kernel) (by decide +kernel)) (phy_cert (by decide +kernel) (by decide +kernel))
theorem aSum : Kf.K2.pa (sent aU0) (sent aU1) = some (Kf.K2.red p (3576151885263021554666466360124354942140430658677050297214825249193929326276001232684016772595994851360561464135332, 2821452142455083490153570410796418148166760451804282889064881665228653104709356527572157380768479422686350616979303), Kf.K2.red p (204426238800908771326099593274793100995261862686675333490147960949472289586605085902183772562124346335379785706955, 1180254684154351301219628970830457422655647890399642891246036584787950247155784104616427391263848867277680278603847)) := by
  rw [aS0, aS1]
  have hn : aX0 ≠ aX1 := by decide +kernel
  show (if aX0 = aX1 then _ else some (Kf.K2.cx (Kf.K2.chor aX0 aY0 aX1 aY1) aX0 aX1, Kf.K2.cy (Kf.K2.chor aX0 aY0 aX1 aY1) aX0 aY0 aX1)) = _
  rw [if_neg hn, show Kf.K2.chor aX0 aY0 aX1 aY1 = (k2 813407343316503122343618125947323733081000494002641918332160541389213006870747519354811795940129996079756878238568 932939667155273105386583493510855326449097869492041584584281924965215430616002529447181503234294049270605607533920) from Kf.K2.div_eq p_3 (by decide +kernel) (by decide +kernel)]
  exact Kf.K2.some_pair (by decide +kernel) (by decide +kernel)
def aRX : F2 := (k2 193548053368451749411421515628510806626565736652086807419354395577367693778571452628423727082668900187036482254730 891930009643099423308102777951250899694559203647724988361022851024990473423938537113948850338098230396747396259901)
def aRY : F2 := (k2 771717272055834152378281705972671257005357145478800908373659404991537354153455452961747174765859335819766715637138 2810310118582126634041133454180705304393079139103252956502404531123692847658283858246402311867775854528543237781718)
theorem hC_lt2 : V hC < 2 ^ 640 := by decide +kernel
theorem aSend : send aU0 aU1 = some (aRX, aRY) := by
  have ho : Kf.K2.Onc b2c (some (Kf.K2.red p (3576151885263021554666466360124354942140430658677050297214825249193929326276001232684016772595994851360561464135332, 2821452142455083490153570410796418148166760451804282889064881665228653104709356527572157380768479422686350616979303), Kf.K2.red p (204426238800908771326099593274793100995261862686675333490147960949472289586605085902183772562124346335379785706955, 1180254684154351301219628970830457422655647890399642891246036584787950247155784104616427391263848867277680278603847))) := by
    rw [← aSum]; exact Kf.K2.Onc_pa p_3 (sent_on _) (sent_on _)
  rw [send, aSum]
  exact stands_cert (Kf.K2.tim_jgo p_3 no2 (by unfold Kf.K2.ltP; decide +kernel) (by unfold Kf.K2.ltP; decide +kernel) ho hC_lt2 (by decide +kernel)) (by decide +kernel) (by decide +kernel) (by decide +kernel)
end Go.Proofs.Ytbpmbdlgmmabcaa.L
namespace Go.Proofs.Ytbpmbdlgmmabcaa.L
open Go Go.Proofs
set_option maxRecDepth 100000
attribute [local irreducible] Code.wp wpList Af bodyPost L.Go
open Num
attribute [local simp] D_len
section
variable {P : Program} {c : Cx} {n : Nat} {l : Sl} {W : List Res} {ops : Array Oper} {Q : Exit → Act → World → Prop} {rest : List Oper}
variable {d : Nat} {T : TypeId} {pos : String} {after : Array Edge}
theorem st_ldnG {x : Operand} {b off v : Nat} {ys : List Nat} {i : Bool} {E U : TypeId} {R : List Res} (hx : ev l x = some (pt b off)) (hf : Find W (.blk b (GL ys i) U) R) (hs : scal P E = true) (hv : ys[off]? = some v) (hn : Nat.blt d n = true)
    (hk : Go c n ((d, N .u64 v) :: l) W (wpList P ops Q rest)) : Go c n l W (wpList P ops Q (⟨some d, .load E x, T, pos, after, none⟩ :: rest)) :=
  st_val rfl rfl hn (fun a w ha hw => by
    have hh : w.heap[b]? = some (.cells (GL ys i).cells U (0, 0)) := hw.holds _ hf.mem
    rw [GL_cells] at hh
    have hlt : off < ys.length := (List.getElem?_eq_some_iff.1 hv).1
    have hc : w.cell? ⟨b, off, none⟩ = some (N .u64 v) := by
      rw [cell_of_row w b off _ U _ hh]
      rw [List.getElem?_toArray, List.getElem?_append_left (by simpa using hlt), List.getElem?_map, hv]; rfl
    simp [execOp, ha.ev hx, Instr.loadAt, Instr.sureAddr, run_loadVar_s hs hc]) hk
end
def hu (m d : List Nat) (i : Nat) : F2 := k2 (bval (((xpand m d (128 * 2)).drop (128 * i)).take 64)) (bval ((((xpand m d (128 * 2)).drop (128 * i)).take 128).drop 64))
theorem fel_hu (m d : List Nat) (i : Nat) : fel ((xpand m d (128 * 2)).drop (128 * i)) = E2 (hu m d i) := fel_def _
theorem sendE (x y : F2) : Spec Try.prog 50 [LV .u64 (E2 x), LV .u64 (E2 y)] NoPre [] (IsV (GV (send x y))) := by
  have := send_spec (val_lt x.re) (val_lt x.im) (val_lt y.re) (val_lt y.im); rwa [k2_val, k2_val] at this
set_option maxHeartbeats 8000000 in
theorem hash_ok (s1 s2 : Value) (m d : List Nat) (hm : Lt 256 m) (hd : Lt 256 d) (hl1 : m.length < 1073741824) (h1 : 1 ≤ d.length) (h2 : d.length ≤ 255) :
    Spec Try.prog 47 [s1, s2] (fun w => Rd w s1 (m.map (N .u8)) ∧ Rd w s2 (d.map (N .u8))) [] (IsV (.tuple [GV (send (hu m d 0) (hu m d 1)), N .i64 0].toArray)) := by
  refine mk_spec Try.func47 rfl rfl rfl fun w hr => ?_
  have hr1 := RdC.mk0 hr.1
  have hr2 := RdC.mk0 hr.2
  have hl0 := fun x => D_len 6 x
  have hle := fun x : F2 => E2_len x
  have hs := sendE (hu m d 0) (hu m d 1)
  have hfl : (((fels (xpand m d (128 * 2)) 2).flatten).map (N .u64)).length = 2 * 12 := by rw [List.length_map, fels_flat, fels_len]
  have g0 := fels_get (xpand m d (128 * 2)) (k := 2) (i := 0) (by decide)
  have g1 := fels_get (xpand m d (128 * 2)) (k := 2) (i := 1) (by decide)
  rw [fel_hu] at g0 g1
  have hE := fels_each (xpand m d (128 * 2)) 2
  obtain ⟨x1, y1, i1, hq⟩ : ∃ x1 y1 i1, GV (send (hu m d 0) (hu m d 1)) = GE x1 y1 i1 := ⟨_, _, _, rfl⟩
  rw [hq] at hs ⊢
  generalize hu m d 0 = u at *
  generalize hu m d 1 = v at *
  repeat (first|(refine st_alloc (E := 38) (v := GL (List.replicate 24 0) false) (by kernel_rfl) (by rfl) fun _ => ?_)|((refine st_call (by rfl) (by rfl) (by rfl) (fields_ok s1 s2 m d 2 hm hd hl1 h1 h2 (by decide) (by decide)) .nil (fun w hw => ⟨RdW.old hr1 w hw, RdW.old hr2 w hw⟩) (by rfl) ?_; rintro _ _ ⟨x, rfl, rfl⟩))|(refine st_cmp (r := false) (by rfl) (by rfl) (cmpN_f (by first | (simp only [cmpQ]; done) | (simp only [cmpQ]; omega))) (by rfl) ?_)|refine Z01 ?_|refine Z02 ?_|refine Z03 ?_|refine Z04 ?_|refine Z05 ?_|refine Z06 ?_|refine Z07 ?_|refine Z08 ?_|refine Z09 ?_|refine Z10 ?_|refine Z11 ?_|refine Z12 ?_|refine Z13 ?_|refine Z14 ?_|refine Z17 ?_|refine Z18 ?_|refine Z19 ?_|refine Z22 ?_|refine Z23 ?_|refine Z24 ?_|refine Z25 ?_|refine Z26 ?_|refine Z27 ?_|refine Z28 ?_|refine Z29 ?_|refine Z30 ?_|refine Z31 ?_|refine Z32 ?_|refine Z65 ?_|refine Z67 ?_|refine Z82 fun _ => ?_)
  generalize fels (xpand m d (128 * 2)) 2 = L at *
  refine R.st_perm [0, 1, 2, 3, 4, 5, 6, 7, 8] (by rfl) ?_
  repeat (first|refine R.Zpf (by rfl)
      (by intro _ _ _;(first|refine Z01 ?_|refine Z02 ?_|refine Z17 ?_|refine Z18 ?_|refine Z19 ?_|refine Z22 ?_|refine Z23 ?_|refine Z65 ?_);exact Zq) ?_|refine R.Zpp (by rfl)
      (by intro _ _ _;(first|refine Z24 ?_|refine Z25 ?_|refine Z26 ?_|refine Z27 ?_|refine Z28 ?_|refine Z67 ?_|refine Z23 ?_);exact Zq) ?_|refine R.Zpp (by rfl)
      (by intro _ _ _;(refine st_ia_M (m := 12) (s := x) (i := 0) (k := 2) (kk := .i64) (by rfl) (by rfl) (by rfl) (by rfl) (RdW.own (by repeat first|apply Find.here|apply Find.there)) (by decide) hfl (by decide) (by rfl) ?_);exact Zq) ?_|refine R.Zpp (by rfl)
      (by intro _ _ _;(refine st_ia_M (m := 12) (s := x) (i := 1) (k := 2) (kk := .i64) (by rfl) (by rfl) (by rfl) (by rfl) (RdW.own (by repeat first|apply Find.here|apply Find.there)) (by decide) hfl (by decide) (by rfl) ?_);exact Zq) ?_|refine R.Zpp (by rfl)
      (by intro _ _ _;(refine st_load_M (m := 12) (s := wide 12 x) (i := 0) (by rfl) (by rfl) (by rfl) (RdW.own (by repeat first|apply Find.here|apply Find.there)) hE g0 (by decide) (by rfl) ?_);exact Zq) ?_|refine R.Zpp (by rfl)
      (by intro _ _ _;(refine st_load_M (m := 12) (s := wide 12 x) (i := 1) (by rfl) (by rfl) (by rfl) (RdW.own (by repeat first|apply Find.here|apply Find.there)) hE g1 (by decide) (by rfl) ?_);exact Zq) ?_|refine R.Zpp (by rfl)
      (by intro _ _ _;refine st_callV (by rfl) (by rfl) (by rfl) (hs) (fun _ _ => trivial) (by rfl) ?_;exact Zq) ?_|refine R.Zps (by rfl)
      (by intro _ _ _;(first|refine Z29 ?_|refine Z30 ?_|refine Z31 ?_|refine Z32 ?_);exact Zqq) ?_|refine R.Zps (by rfl)
      (by intro _ _ _;refine st_store_GL (m := 24) (by rfl) (by rfl) (by repeat first|apply Find.here|apply Find.there) (by rfl) (by first|with_reducible assumption|simp) (by first|with_reducible assumption|simp) ?_;exact Zqq) ?_|refine R.Zpn (by rfl)
      (by intro _ _ _;(first|refine Z82 fun _ => ?_);exact R.Zpx) fun _ => ?_|refine R.Zpo (by rfl) ?_)
  refine R.Zp0 ?_
  repeat (first|refine Z01 ?_|refine Z02 ?_|refine Z03 ?_|refine Z04 ?_|refine Z05 ?_|refine Z06 ?_|refine Z07 ?_|refine Z08 ?_|refine Z09 ?_|refine Z10 ?_|refine Z11 ?_|refine Z12 ?_|refine Z13 ?_|refine Z14 ?_|refine Z17 ?_|refine Z18 ?_|refine Z19 ?_|refine Z22 ?_|refine Z23 ?_|refine Z24 ?_|refine Z25 ?_|refine Z26 ?_|refine Z27 ?_|refine Z28 ?_|refine Z29 ?_|refine Z30 ?_|refine Z31 ?_|refine Z32 ?_|refine Z65 ?_|refine Z67 ?_|refine Z82 fun _ => ?_)
  refine st_endc2_GL (m := 24) (by rfl) (by rfl) (by rfl) (by repeat first|apply Find.here|apply Find.there) (by rfl) (by rfl) (by first|with_reducible assumption|simp) fun _ hw => post_of hw SubW.nil ⟨?_, rfl⟩
  rfl
theorem hash_bad (s1 s2 : Value) (d : List Nat) (h : d.length < 1 ∨ 255 < d.length) :
    Spec Try.prog 47 [s1, s2] (fun w => Rd w s2 (d.map (N .u8))) [] (IsV (.tuple [GE Kf.K2.zero Kf.K2.zero false, N .i64 170].toArray)) := by
  refine mk_spec Try.func47 rfl rfl rfl fun w hr => ?_
  have hr2 := RdC.mk0 hr
  have hf := fields_bad s1 s2 d 2 256 170 (by decide) (xexpand_dst s1 s2 d 256 h)
  repeat (first|(refine st_alloc (E := 38) (v := GL (List.replicate 24 0) false) (by kernel_rfl) (by rfl) fun _ => ?_)|(refine st_callV (by rfl) (by rfl) (by rfl) (hf) (RdW.old hr2) (by rfl) ?_)|((refine st_build0G (t := 38) (m := 24) (by rfl) (by rfl) (by kernel_rfl) (by rfl) ?_; rw [zero24]))|(refine st_store_GL (m := 24) (by rfl) (by rfl) (by repeat first|apply Find.here|apply Find.there) (by rfl) (by first|with_reducible assumption|simp) (by first|with_reducible assumption|simp) ?_)|(refine st_cmp (r := true) (by rfl) (by rfl) (cmpN_t (by first | (simp only [cmpP]; done) | (simp only [cmpP]; omega))) (by rfl) ?_)|refine Z01 ?_|refine Z02 ?_|refine Z03 ?_|refine Z04 ?_|refine Z05 ?_|refine Z06 ?_|refine Z07 ?_|refine Z08 ?_|refine Z09 ?_|refine Z10 ?_|refine Z11 ?_|refine Z12 ?_|refine Z13 ?_|refine Z14 ?_|refine Z17 ?_|refine Z18 ?_|refine Z19 ?_|refine Z22 ?_|refine Z23 ?_|refine Z24 ?_|refine Z25 ?_|refine Z26 ?_|refine Z27 ?_|refine Z28 ?_|refine Z29 ?_|refine Z30 ?_|refine Z31 ?_|refine Z32 ?_|refine Z65 ?_|refine Z67 ?_|refine Z82 fun _ => ?_)
  refine st_endc2_GL (m := 24) (by rfl) (by rfl) (by rfl) (by repeat first|apply Find.here|apply Find.there) (by rfl) (by rfl) (by first|with_reducible assumption|simp) fun _ hw => post_of hw SubW.nil ⟨?_, rfl⟩
  rfl
theorem hu0_eq : hu [] kT 0 = aU0 := by decide +kernel
theorem hu1_eq : hu [] kT 1 = aU1 := by decide +kernel
theorem aw_w0 : (E2 aRX ++ E2 aRY)[0]? = some 6022433060188829578 := by decide +kernel
theorem aw_w5 : (E2 aRX ++ E2 aRY)[5]? = some 90612934495178424 := by decide +kernel
set_option maxHeartbeats 4000000 in
theorem awake19_spec : Spec Try.prog 45 [] NoPre [] (IsV (.bool true)) := by
  refine mk_spec Try.func45 rfl rfl rfl fun w hr => ?_
  have hl0 := fun x => D_len 6 x
  have hle := fun x : F2 => E2_len x
  have h1 := fun s => hash_ok (.slice none 0 0) s [] kT (fun x hx => by cases hx) kT_lt (by simp) (by simp [kT]) (by simp [kT])
  rw [hu0_eq, hu1_eq, aSend, GV_some] at h1
  have h2 := hash_bad (.slice none 0 0) (.slice none 0 0) [] (.inl (by decide))
  have w0 := aw_w0
  have w5 := aw_w5
  generalize aRX = x at *
  generalize aRY = y at *
  repeat (first|(refine st_alloc (E := 38) (v := GL (List.replicate 24 0) false) (by kernel_rfl) (by rfl) fun _ => ?_)|((refine st_buildSliceN (vs := kT) (kk := .u8) (by rfl) (by rfl) (by rfl) (by rfl) (by rfl) (by rfl) (by rfl) (by rfl) fun _ => ?_))|(refine st_conv_sl (xs := kT.map (N .u8)) (by rfl) (by repeat first|apply Find.here|apply Find.there) (by simp [kT]) (by rfl) (by rfl) (by rfl) ?_)|(refine st_callV (by rfl) (by rfl) (by rfl) (h1 _) (fun w hw => ⟨RdW.nil w hw, RdW.own (by repeat first|apply Find.here|apply Find.there) w hw⟩) (by rfl) ?_)|(refine st_callV (by rfl) (by rfl) (by rfl) (h2) (RdW.nil) (by rfl) ?_)|(refine st_store_GL (m := 24) (by rfl) (by rfl) (by repeat first|apply Find.here|apply Find.there) (by rfl) (by first|with_reducible assumption|simp) (by first|with_reducible assumption|simp) ?_)|(refine st_fld (by rfl) (by first | exact (show _ = some (0, 6) from rfl) | exact (show _ = some (6, 6) from rfl) | exact (show _ = some (0, 12) from rfl) | exact (show _ = some (12, 12) from rfl) | exact (show _ = some (24, 1) from rfl)) (by rfl) (by rfl) ?_)|((refine st_ldp (by rfl) (by repeat first|apply Find.here|apply Find.there) (by rfl) (by rfl) (by first | (refine PartAt.l ?_; (simp; done)) | (refine PartAt.r ?_ ?_ <;> (simp; done)) | (refine PartAt.all ?_; (simp; done))) (by rfl) ?_))|((refine st_ia_arr (i := 0) (k := .i64) (by rfl) (by rfl) (by rfl) (by rfl) (by decide) (by rfl) ?_))|((refine st_ia_arr (i := 5) (k := .i64) (by rfl) (by rfl) (by rfl) (by rfl) (by decide) (by rfl) ?_))|((refine st_ldnG (by rfl) (by repeat first|apply Find.here|apply Find.there) (by rfl) w0 (by rfl) ?_))|((refine st_ldnG (by rfl) (by repeat first|apply Find.here|apply Find.there) (by rfl) w5 (by rfl) ?_))|(refine st_shr (by rfl) (by rfl) (by decide) (by rfl) ?_)|refine Z01 ?_|refine Z02 ?_|refine Z03 ?_|refine Z04 ?_|refine Z05 ?_|refine Z06 ?_|refine Z07 ?_|refine Z08 ?_|refine Z09 ?_|refine Z10 ?_|refine Z11 ?_|refine Z12 ?_|refine Z13 ?_|refine Z14 ?_|refine Z17 ?_|refine Z18 ?_|refine Z19 ?_|refine Z22 ?_|refine Z23 ?_|refine Z24 ?_|refine Z25 ?_|refine Z26 ?_|refine Z27 ?_|refine Z28 ?_|refine Z29 ?_|refine Z30 ?_|refine Z31 ?_|refine Z32 ?_|refine Z40 ?_|refine Z42 ?_|refine Z44 ?_|refine Z45 ?_|refine Z49 ?_|refine Z50 ?_|refine Z51 ?_|refine Z52 ?_|refine Z53 ?_|refine Z67 ?_|refine Z74 ?_|refine Z80 ?_|refine Z82 fun _ => ?_|refine Z85 fun _ => ?_)
  refine Ze1 fun _ hw => post_of hw SubW.nil ⟨?_, rfl⟩
  rfl
end Go.Proofs.Ytbpmbdlgmmabcaa.L
namespace Go.Proofs.Ytbpmbdlgmmabcaa.L
open Go Go.Proofs
set_option maxRecDepth 100000
attribute [local irreducible] Code.wp wpList Af bodyPost L.Go
open Num
attribute [local simp] D_len
theorem few19_spec (s t : Value) (a b : List Nat) (h1 : a.length < 9223372036854775808) (h2 : b.length < 9223372036854775808) :
    Spec Try.prog 46 [s, t] (fun w => Rd w s (a.map (N .u8)) ∧ Rd w t (b.map (N .u8))) [] (IsV (.bool (decide (a.length ≤ 300 ∧ b.length ≤ 300)))) := by
  refine mk_spec Try.func46 rfl rfl rfl fun w hr => ?_
  have hr1 := RdC.mk0 hr.1
  have hr2 := RdC.mk0 hr.2
  by_cases ha : a.length ≤ 300
  · by_cases hb : b.length ≤ 300
    · repeat (first|(refine st_cmp (r := true) (by rfl) (by rfl) (cmpN_t (by first | (simp only [cmpP]; done) | (simp only [cmpP]; omega))) (by rfl) ?_)|refine Z01 ?_|refine Z02 ?_|refine Z03 ?_|refine Z04 ?_|refine Z05 ?_|refine Z06 ?_|refine Z07 ?_|refine Z08 ?_|refine Z09 ?_|refine Z10 ?_|refine Z11 ?_|refine Z12 ?_|refine Z13 ?_|refine Z14 ?_|refine Z17 ?_|refine Z18 ?_|refine Z20 ?_|refine Z21 ?_|refine Z49 ?_|refine Z50 ?_|refine Z51 ?_|refine Z52 ?_|refine Z53 ?_|refine Z58 ?_|refine Z59 ?_)
      refine Ze1 fun _ hw => post_of hw SubW.nil ⟨?_, rfl⟩
      rw [decide_eq_true ⟨ha, hb⟩]
    · repeat (first|(refine st_cmp (r := true) (by rfl) (by rfl) (cmpN_t (by first | (simp only [cmpP]; done) | (simp only [cmpP]; omega))) (by rfl) ?_)|(refine st_cmp (r := false) (by rfl) (by rfl) (cmpN_f (by first | (simp only [cmpQ]; done) | (simp only [cmpQ]; omega))) (by rfl) ?_)|refine Z01 ?_|refine Z02 ?_|refine Z03 ?_|refine Z04 ?_|refine Z05 ?_|refine Z06 ?_|refine Z07 ?_|refine Z08 ?_|refine Z09 ?_|refine Z10 ?_|refine Z11 ?_|refine Z12 ?_|refine Z13 ?_|refine Z14 ?_|refine Z17 ?_|refine Z18 ?_|refine Z20 ?_|refine Z21 ?_|refine Z49 ?_|refine Z50 ?_|refine Z51 ?_|refine Z52 ?_|refine Z53 ?_|refine Z58 ?_|refine Z59 ?_)
      refine Ze1 fun _ hw => post_of hw SubW.nil ⟨?_, rfl⟩
      rw [decide_eq_false (fun h => hb h.2)]
  · repeat (first|(refine st_cmp (r := false) (by rfl) (by rfl) (cmpN_f (by first | (simp only [cmpQ]; done) | (simp only [cmpQ]; omega))) (by rfl) ?_)|refine Z01 ?_|refine Z02 ?_|refine Z03 ?_|refine Z04 ?_|refine Z05 ?_|refine Z06 ?_|refine Z07 ?_|refine Z08 ?_|refine Z09 ?_|refine Z10 ?_|refine Z11 ?_|refine Z12 ?_|refine Z13 ?_|refine Z14 ?_|refine Z17 ?_|refine Z18 ?_|refine Z20 ?_|refine Z21 ?_|refine Z49 ?_|refine Z50 ?_|refine Z51 ?_|refine Z52 ?_|refine Z53 ?_|refine Z58 ?_|refine Z59 ?_)
    refine Ze1 fun _ hw => post_of hw SubW.nil ⟨?_, rfl⟩
    rw [decide_eq_false (fun h => ha h.1)]
set_option maxHeartbeats 8000000 in
theorem lawParts19_spec (s1 : Value) (m : List Nat) (hm : Lt 256 m) (m63 : m.length < 9223372036854775808) (s2 : Value) (d : List Nat) (hd : Lt 256 d) (d63 : d.length < 9223372036854775808) :
    Spec Try.prog 14 [s1, s2] (fun w => Rd w s1 (m.map (N .u8)) ∧ Rd w s2 (d.map (N .u8))) [] (IsV (.bool true)) := by
  refine mk_spec Try.func14 rfl rfl rfl fun w hr => ?_
  have hr1 := RdC.mk0 hr.1
  have hr2 := RdC.mk0 hr.2
  have hl0 := fun x => D_len 6 x
  have hle := fun x : F2 => E2_len x
  repeat (first|(refine st_callV (by rfl) (by rfl) (by rfl) (awake19_spec) (fun _ _ => trivial) (by rfl) ?_)|(refine st_callV (by rfl) (by rfl) (by rfl) (few19_spec s1 s2 m d m63 d63) (fun w hw => ⟨RdW.old hr1 w hw, RdW.old hr2 w hw⟩) (by rfl) ?_)|refine Z01 ?_|refine Z02 ?_|refine Z03 ?_|refine Z04 ?_|refine Z05 ?_|refine Z06 ?_|refine Z07 ?_|refine Z08 ?_|refine Z09 ?_|refine Z10 ?_|refine Z11 ?_|refine Z12 ?_|refine Z13 ?_|refine Z14 ?_|refine Z17 ?_|refine Z18 ?_|refine Z19 ?_|refine Z20 ?_|refine Z21 ?_|refine Z22 ?_|refine Z23 ?_|refine Z24 ?_|refine Z25 ?_|refine Z26 ?_|refine Z27 ?_|refine Z28 ?_|refine Z29 ?_|refine Z30 ?_|refine Z31 ?_|refine Z32 ?_|refine Z49 ?_|refine Z50 ?_|refine Z51 ?_|refine Z52 ?_|refine Z53 ?_|refine Z54 ?_|refine Z58 ?_|refine Z59 ?_|refine Z67 ?_|refine Z77 ?_|refine Z78 ?_|refine Z79 ?_|refine Z82 fun _ => ?_)
  by_cases hfew : m.length ≤ 300 ∧ d.length ≤ 300
  case neg =>
    rw [decide_eq_false hfew]
    repeat (first|refine Z01 ?_|refine Z02 ?_|refine Z03 ?_|refine Z04 ?_|refine Z05 ?_|refine Z06 ?_|refine Z07 ?_|refine Z08 ?_|refine Z09 ?_|refine Z10 ?_|refine Z11 ?_|refine Z12 ?_|refine Z13 ?_|refine Z14 ?_|refine Z17 ?_|refine Z18 ?_|refine Z19 ?_|refine Z20 ?_|refine Z21 ?_|refine Z22 ?_|refine Z23 ?_|refine Z24 ?_|refine Z25 ?_|refine Z26 ?_|refine Z27 ?_|refine Z28 ?_|refine Z29 ?_|refine Z30 ?_|refine Z31 ?_|refine Z32 ?_|refine Z49 ?_|refine Z50 ?_|refine Z51 ?_|refine Z52 ?_|refine Z53 ?_|refine Z54 ?_|refine Z58 ?_|refine Z59 ?_|refine Z67 ?_|refine Z77 ?_|refine Z78 ?_|refine Z79 ?_|refine Z82 fun _ => ?_)
    refine Ze1 fun _ hw => post_of hw SubW.nil ⟨?_, rfl⟩
    rfl
  rw [decide_eq_true hfew]
  have hm5 : m.length < 1073741824 := by omega
  clear hfew
  by_cases hdst : d.length < 1 ∨ 255 < d.length
  · have hb := hash_bad s1 s2 d hdst
    have hf := fields_bad s1 s2 d 2 256 170 (by decide) (xexpand_dst s1 s2 d 256 hdst)
    repeat (first|(refine st_alloc (E := 38) (v := GL (List.replicate 24 0) false) (by kernel_rfl) (by rfl) fun _ => ?_)|(refine st_callV (by rfl) (by rfl) (by rfl) (hb) (RdW.old hr2) (by rfl) ?_)|(refine st_callV (by rfl) (by rfl) (by rfl) (hf) (RdW.old hr2) (by rfl) ?_)|(refine st_store_GL (m := 24) (by rfl) (by rfl) (by repeat first|apply Find.here|apply Find.there) (by rfl) (by first|with_reducible assumption|simp) (by first|with_reducible assumption|simp) ?_)|(refine st_cmp (r := true) (by rfl) (by rfl) (cmpN_t (by first | (simp only [cmpP]; done) | (simp only [cmpP]; omega))) (by rfl) ?_)|(refine st_cmp (r := false) (by rfl) (by rfl) (cmpN_f (by first | (simp only [cmpQ]; done) | (simp only [cmpQ]; omega))) (by rfl) ?_)|refine Z01 ?_|refine Z02 ?_|refine Z03 ?_|refine Z04 ?_|refine Z05 ?_|refine Z06 ?_|refine Z07 ?_|refine Z08 ?_|refine Z09 ?_|refine Z10 ?_|refine Z11 ?_|refine Z12 ?_|refine Z13 ?_|refine Z14 ?_|refine Z17 ?_|refine Z18 ?_|refine Z19 ?_|refine Z20 ?_|refine Z21 ?_|refine Z22 ?_|refine Z23 ?_|refine Z24 ?_|refine Z25 ?_|refine Z26 ?_|refine Z27 ?_|refine Z28 ?_|refine Z29 ?_|refine Z30 ?_|refine Z31 ?_|refine Z32 ?_|refine Z49 ?_|refine Z50 ?_|refine Z51 ?_|refine Z52 ?_|refine Z53 ?_|refine Z54 ?_|refine Z58 ?_|refine Z59 ?_|refine Z67 ?_|refine Z77 ?_|refine Z78 ?_|refine Z79 ?_|refine Z82 fun _ => ?_)
    refine Ze1 fun _ hw => post_of hw SubW.nil ⟨?_, rfl⟩
    rfl
  have hd1 : 1 ≤ d.length := by omega
  have hd2 : d.length ≤ 255 := by omega
  clear hdst
  have hh := hash_ok s1 s2 m d hm hd hm5 hd1 hd2
  have hs := sendE (hu m d 0) (hu m d 1)
  have hfl : (((fels (xpand m d (128 * 2)) 2).flatten).map (N .u64)).length = 2 * 12 := by rw [List.length_map, fels_flat, fels_len]
  have g0 := fels_get (xpand m d (128 * 2)) (k := 2) (i := 0) (by decide)
  have g1 := fels_get (xpand m d (128 * 2)) (k := 2) (i := 1) (by decide)
  rw [fel_hu] at g0 g1
  have hE := fels_each (xpand m d (128 * 2)) 2
  have k1 := mapE (hu m d 0)
  have k2 := mapE (hu m d 1)
  have k3 := isoT (mapP_on (hu m d 0))
  have k4 := isoT (mapP_on (hu m d 1))
  have k5 := gaddE (sent (hu m d 0)) (sent (hu m d 1))
  have k6 := clearE (Kf.K2.Onc_pa p_3 (sent_on (hu m d 0)) (sent_on (hu m d 1)))
  rw [show Kf.K2.tim (Kf.K2.pa (sent (hu m d 0)) (sent (hu m d 1))) (V hC) = send (hu m d 0) (hu m d 1) from rfl] at k6
  obtain ⟨x1, y1, i1, hq⟩ : ∃ x1 y1 i1, GV (send (hu m d 0) (hu m d 1)) = GE x1 y1 i1 := ⟨_, _, _, rfl⟩
  obtain ⟨x2, y2, i2, hq2⟩ : ∃ x1 y1 i1, GV (Kf.K2.pa (sent (hu m d 0)) (sent (hu m d 1))) = GE x1 y1 i1 := ⟨_, _, _, rfl⟩
  rw [hq] at hs hh k6
  rw [hq2] at k5 k6
  rw [show GV (sent (hu m d 0)) = GE (phx (mapP (hu m d 0)).1) (phy (mapP (hu m d 0)).1 (mapP (hu m d 0)).2) false from rfl, show GV (sent (hu m d 1)) = GE (phx (mapP (hu m d 1)).1) (phy (mapP (hu m d 1)).1 (mapP (hu m d 1)).2) false from rfl] at k5
  clear hq hq2
  generalize mapP (hu m d 0) = q at *
  generalize mapP (hu m d 1) = r at *
  generalize hu m d 0 = u at *
  generalize hu m d 1 = v at *
  obtain ⟨a1, a2⟩ := q
  obtain ⟨c1, c2⟩ := r
  simp only at k1 k2 k3 k4 k5
  generalize phx a1 = e1 at *
  generalize phy a1 a2 = e2 at *
  generalize phx c1 = e3 at *
  generalize phy c1 c2 = e4 at *
  have hE2 := geq_same x1 y1 i1
  repeat (first|(refine st_alloc (v := LV .u64 (List.replicate 12 0)) (by rfl) (by rfl) fun _ => ?_)|(refine st_alloc (E := 38) (v := GL (List.replicate 24 0) false) (by kernel_rfl) (by rfl) fun _ => ?_)|(refine st_callV (by rfl) (by rfl) (by rfl) (hh) (fun w hw => ⟨RdW.old hr1 w hw, RdW.old hr2 w hw⟩) (by rfl) ?_)|(refine st_store_GL (m := 24) (by rfl) (by rfl) (by repeat first|apply Find.here|apply Find.there) (by rfl) (by first|with_reducible assumption|simp) (by first|with_reducible assumption|simp) ?_)|((refine st_call (by rfl) (by rfl) (by rfl) (fields_ok s1 s2 m d 2 hm hd hm5 hd1 hd2 (by decide) (by decide)) .nil (fun w hw => ⟨RdW.old hr1 w hw, RdW.old hr2 w hw⟩) (by rfl) ?_; rintro _ _ ⟨x, rfl, rfl⟩))|((refine st_len_M (m := 12) (k := 2) (by rfl) (by rfl) (RdW.own (by repeat first|apply Find.here|apply Find.there)) (by decide) hfl (by rfl) ?_))|refine Z01 ?_|refine Z02 ?_|refine Z03 ?_|refine Z04 ?_|refine Z05 ?_|refine Z06 ?_|refine Z07 ?_|refine Z08 ?_|refine Z09 ?_|refine Z10 ?_|refine Z11 ?_|refine Z12 ?_|refine Z13 ?_|refine Z14 ?_|refine Z17 ?_|refine Z18 ?_|refine Z19 ?_|refine Z20 ?_|refine Z21 ?_|refine Z22 ?_|refine Z23 ?_|refine Z24 ?_|refine Z25 ?_|refine Z26 ?_|refine Z27 ?_|refine Z28 ?_|refine Z29 ?_|refine Z30 ?_|refine Z31 ?_|refine Z32 ?_|refine Z49 ?_|refine Z50 ?_|refine Z51 ?_|refine Z52 ?_|refine Z53 ?_|refine Z54 ?_|refine Z58 ?_|refine Z59 ?_|refine Z67 ?_|refine Z77 ?_|refine Z78 ?_|refine Z79 ?_|refine Z82 fun _ => ?_)
  generalize fels (xpand m d (128 * 2)) 2 = L at *
  repeat (first|(refine st_alloc (v := LV .u64 (List.replicate 12 0)) (by rfl) (by rfl) fun _ => ?_)|((refine st_ia_M (m := 12) (s := x) (i := 0) (k := 2) (kk := .i64) (by rfl) (by rfl) (by rfl) (by rfl) (RdW.own (by repeat first|apply Find.here|apply Find.there)) (by decide) hfl (by decide) (by rfl) ?_))|((refine st_ia_M (m := 12) (s := x) (i := 1) (k := 2) (kk := .i64) (by rfl) (by rfl) (by rfl) (by rfl) (RdW.own (by repeat first|apply Find.here|apply Find.there)) (by decide) hfl (by decide) (by rfl) ?_))|((refine st_load_M (m := 12) (s := wide 12 x) (i := 0) (by rfl) (by rfl) (by rfl) (RdW.own (by repeat first|apply Find.here|apply Find.there)) hE g0 (by decide) (by rfl) ?_))|((refine st_load_M (m := 12) (s := wide 12 x) (i := 1) (by rfl) (by rfl) (by rfl) (RdW.own (by repeat first|apply Find.here|apply Find.there)) hE g1 (by decide) (by rfl) ?_))|(refine st_callV (by rfl) (by rfl) (by rfl) (k1) (fun _ _ => trivial) (by rfl) ?_)|(refine st_callV (by rfl) (by rfl) (by rfl) (k2) (fun _ _ => trivial) (by rfl) ?_)|refine Z01 ?_|refine Z02 ?_|refine Z03 ?_|refine Z04 ?_|refine Z05 ?_|refine Z06 ?_|refine Z07 ?_|refine Z08 ?_|refine Z09 ?_|refine Z10 ?_|refine Z11 ?_|refine Z12 ?_|refine Z13 ?_|refine Z14 ?_|refine Z17 ?_|refine Z18 ?_|refine Z19 ?_|refine Z20 ?_|refine Z21 ?_|refine Z22 ?_|refine Z23 ?_|refine Z24 ?_|refine Z25 ?_|refine Z26 ?_|refine Z27 ?_|refine Z28 ?_|refine Z29 ?_|refine Z30 ?_|refine Z31 ?_|refine Z32 ?_|refine Z49 ?_|refine Z50 ?_|refine Z51 ?_|refine Z52 ?_|refine Z53 ?_|refine Z54 ?_|refine Z58 ?_|refine Z59 ?_|refine Z67 ?_|refine Z77 ?_|refine Z78 ?_|refine Z79 ?_|refine Z82 fun _ => ?_)
  refine R.st_perm [0, 1, 2, 3, 4, 5, 6, 7, 8, 9, 10, 11, 12, 13] (by rfl) ?_
  repeat (first|refine R.Zpf (by rfl)
      (by intro _ _ _;(first|(refine st_eq2 (by rfl) (by rfl) (by rfl) (by kernel_rfl) (by rfl) (by rfl) (by rfl) (by rfl) (by rfl) (by rfl) (by rfl) (by rfl) (by rfl) (by rfl) (by kernel_rfl) (by simp; done) (by simp; done) (by simp; done) (by simp; done) (by rfl) ?_)|refine Z01 ?_|refine Z02 ?_|refine Z17 ?_|refine Z18 ?_|refine Z19 ?_|refine Z20 ?_|refine Z21 ?_|refine Z22 ?_|refine Z23 ?_|refine Z49 ?_|refine Z50 ?_|refine Z54 ?_|refine Z58 ?_|refine Z59 ?_|refine Z77 ?_|refine Z78 ?_|refine Z79 ?_);exact Zq) ?_|refine R.Zpp (by rfl)
      (by intro _ _ _;(first|refine Z24 ?_|refine Z25 ?_|refine Z26 ?_|refine Z27 ?_|refine Z28 ?_|refine Z67 ?_|refine Z23 ?_|refine Z20 ?_|refine Z21 ?_);exact Zq) ?_|refine R.Zpp (by rfl)
      (by intro _ _ _;(refine st_ldp (by rfl) (by repeat first|apply Find.here|apply Find.there) (by rfl) (by rfl) (by first | (refine PartAt.l ?_; (simp; done)) | (refine PartAt.r ?_ ?_ <;> (simp; done)) | (refine PartAt.all ?_; (simp; done))) (by rfl) ?_);exact Zq) ?_|refine R.Zpp (by rfl)
      (by intro _ _ _;refine st_callV (by rfl) (by rfl) (by rfl) (k3) (fun _ _ => trivial) (by rfl) ?_;exact Zq) ?_|refine R.Zpp (by rfl)
      (by intro _ _ _;refine st_callV (by rfl) (by rfl) (by rfl) (k4) (fun _ _ => trivial) (by rfl) ?_;exact Zq) ?_|refine R.Zpp (by rfl)
      (by intro _ _ _;refine st_callV (by rfl) (by rfl) (by rfl) (k5) (fun _ _ => trivial) (by rfl) ?_;exact Zq) ?_|refine R.Zpp (by rfl)
      (by intro _ _ _;refine st_callV (by rfl) (by rfl) (by rfl) (k6) (fun _ _ => trivial) (by rfl) ?_;exact Zq) ?_|refine R.Zps (by rfl)
      (by intro _ _ _;(first|refine Z29 ?_|refine Z30 ?_|refine Z31 ?_|refine Z32 ?_);exact Zqq) ?_|refine R.Zps (by rfl)
      (by intro _ _ _;refine st_store_GL (m := 24) (by rfl) (by rfl) (by repeat first|apply Find.here|apply Find.there) (by rfl) (by first|with_reducible assumption|simp) (by first|with_reducible assumption|simp) ?_;exact Zqq) ?_|refine R.Zpb (by rfl)
      (by intro _ _ _;refine st_alloc (E := 38) (v := GL (List.replicate 24 0) false) (by kernel_rfl) (by rfl) fun _ => ?_;exact R.Zpbx) fun _ => ?_|refine R.Zpn (by rfl)
      (by intro _ _ _;(first|refine Z82 fun _ => ?_);exact R.Zpx) fun _ => ?_|refine R.Zpo (by rfl) ?_)
  refine R.Zp0 ?_
  repeat (first|refine Z01 ?_|refine Z02 ?_|refine Z03 ?_|refine Z04 ?_|refine Z05 ?_|refine Z06 ?_|refine Z07 ?_|refine Z08 ?_|refine Z09 ?_|refine Z10 ?_|refine Z11 ?_|refine Z12 ?_|refine Z13 ?_|refine Z14 ?_|refine Z17 ?_|refine Z18 ?_|refine Z19 ?_|refine Z20 ?_|refine Z21 ?_|refine Z22 ?_|refine Z23 ?_|refine Z24 ?_|refine Z25 ?_|refine Z26 ?_|refine Z27 ?_|refine Z28 ?_|refine Z29 ?_|refine Z30 ?_|refine Z31 ?_|refine Z32 ?_|refine Z49 ?_|refine Z50 ?_|refine Z51 ?_|refine Z52 ?_|refine Z53 ?_|refine Z54 ?_|refine Z58 ?_|refine Z59 ?_|refine Z67 ?_|refine Z77 ?_|refine Z78 ?_|refine Z79 ?_|refine Z82 fun _ => ?_)
  refine st_draw1 (by rfl) ?_
  repeat (first|refine Zqf (by intro _ _ _;(first|((refine st_eqGv (m := 6) (hr := geq_same _ _ _) (by rfl) (by rfl) (by rfl) (by kernel_rfl) (by rfl) (by rfl) (by rfl) (by rfl) (by rfl) (by rfl) (by rfl) (by rfl) (by rfl) (by rfl) (by rfl) (by kernel_rfl) (by rfl) (by rfl) (by rfl) (by rfl) (by rfl) (by rfl) (by rfl) (by rfl) (by rfl) (by rfl) (by kernel_rfl) (by simp; done) (by simp; done) (by simp; done) (by simp; done) (by simp; done) (by simp; done) (by simp; done) (by simp; done) (by rfl) ?_))|(refine st_eq2 (by rfl) (by rfl) (by rfl) (by kernel_rfl) (by rfl) (by rfl) (by rfl) (by rfl) (by rfl) (by rfl) (by rfl) (by rfl) (by rfl) (by rfl) (by kernel_rfl) (by simp; done) (by simp; done) (by simp; done) (by simp; done) (by rfl) ?_)|(refine st_cmp (r := true) (by rfl) (by rfl) (cmpN_t (by first | (simp only [cmpP]; done) | (simp only [cmpP]; omega))) (by rfl) ?_)|refine Z01 ?_|refine Z02 ?_|refine Z17 ?_|refine Z18 ?_|refine Z19 ?_|refine Z20 ?_|refine Z21 ?_|refine Z22 ?_|refine Z23 ?_|refine Z49 ?_|refine Z50 ?_|refine Z54 ?_|refine Z58 ?_|refine Z59 ?_|refine Z77 ?_|refine Z78 ?_|refine Z79 ?_);exact Zq) ?_|refine Zqp (by intro _ _ _;(refine st_ldp (by rfl) (by repeat first|apply Find.here|apply Find.there) (by rfl) (by rfl) (by first | (refine PartAt.l ?_; (simp; done)) | (refine PartAt.r ?_ ?_ <;> (simp; done)) | (refine PartAt.all ?_; (simp; done))) (by rfl) ?_);exact Zq) ?_|refine Zqp (by intro _ _ _;refine st_load_GL (m := 24) (by rfl) (by repeat first|apply Find.here|apply Find.there) (by rfl) (by rfl) (by first|with_reducible assumption|simp) (by rfl) ?_;exact Zq) ?_|refine Zqp (by intro _ _ _;(refine st_ia_M (m := 12) (s := x) (i := 0) (k := 2) (kk := .i64) (by rfl) (by rfl) (by rfl) (by rfl) (RdW.own (by repeat first|apply Find.here|apply Find.there)) (by decide) hfl (by decide) (by rfl) ?_);exact Zq) ?_|refine Zqp (by intro _ _ _;(refine st_ia_M (m := 12) (s := x) (i := 1) (k := 2) (kk := .i64) (by rfl) (by rfl) (by rfl) (by rfl) (RdW.own (by repeat first|apply Find.here|apply Find.there)) (by decide) hfl (by decide) (by rfl) ?_);exact Zq) ?_|refine Zqp (by intro _ _ _;(refine st_load_M (m := 12) (s := wide 12 x) (i := 0) (by rfl) (by rfl) (by rfl) (RdW.own (by repeat first|apply Find.here|apply Find.there)) hE g0 (by decide) (by rfl) ?_);exact Zq) ?_|refine Zqp (by intro _ _ _;(refine st_load_M (m := 12) (s := wide 12 x) (i := 1) (by rfl) (by rfl) (by rfl) (RdW.own (by repeat first|apply Find.here|apply Find.there)) hE g1 (by decide) (by rfl) ?_);exact Zq) ?_|refine Zqp (by intro _ _ _;refine st_callV (by rfl) (by rfl) (by rfl) (hs) (fun _ _ => trivial) (by rfl) ?_;exact Zq) ?_|refine Zqp (by intro _ _ _;(first|refine Z24 ?_|refine Z25 ?_|refine Z26 ?_|refine Z27 ?_|refine Z28 ?_|refine Z67 ?_|refine Z23 ?_|refine Z20 ?_|refine Z21 ?_);exact Zq) ?_|refine Zqe (by intro _ _ _;(first|refine Z29 ?_|refine Z30 ?_|refine Z31 ?_|refine Z32 ?_);exact Zqq) ?_|refine Zqn ?_)
  refine Zq0 ?_ (by kernel_rfl)
  repeat (first|refine Z01 ?_|refine Z02 ?_|refine Z03 ?_|refine Z04 ?_|refine Z05 ?_|refine Z06 ?_|refine Z07 ?_|refine Z08 ?_|refine Z09 ?_|refine Z10 ?_|refine Z11 ?_|refine Z12 ?_|refine Z13 ?_|refine Z14 ?_|refine Z17 ?_|refine Z18 ?_|refine Z19 ?_|refine Z20 ?_|refine Z21 ?_|refine Z22 ?_|refine Z23 ?_|refine Z24 ?_|refine Z25 ?_|refine Z26 ?_|refine Z27 ?_|refine Z28 ?_|refine Z29 ?_|refine Z30 ?_|refine Z31 ?_|refine Z32 ?_|refine Z49 ?_|refine Z50 ?_|refine Z51 ?_|refine Z52 ?_|refine Z53 ?_|refine Z54 ?_|refine Z58 ?_|refine Z59 ?_|refine Z67 ?_|refine Z77 ?_|refine Z78 ?_|refine Z79 ?_|refine Z82 fun _ => ?_)
  refine Ze1 fun _ hw => post_of hw SubW.nil ⟨?_, rfl⟩
  rfl
end Go.Proofs.Ytbpmbdlgmmabcaa.L
namespace Go.Proofs.Ytbpmbdlgmmabcaa.L
open Go Go.Proofs
variable {P : Program}
theorem slice_spot {w : World} {r : Reach} {base : Nat} {t e : TypeId} {a : Option Addr} {len cap : Nat} (ht : P.underlying t = some (.slice e)) (h : Value.okWide P w r base t (.slice a len cap)) :
    ∀ x, a = some x → x.spot = none := by
  intro x hx
  subst hx
  simp only [Value.okWide, ht, Cell.okWide, Cell.ok, World.has] at h
  exact h.2.2.2.1
theorem row_nat {k : IntKind} {m : Nat} (hk : ub k = some m) {w : World} {a : Option Addr} {len cap : Nat} {zs : List Int}
    (h : (a = none ∧ len = 0 ∧ cap = 0 ∧ zs = []) ∨
      ∃ x, a = some x ∧ len ≤ cap ∧ cap ≤ maxLen ∧ zs.length = cap ∧ (∀ i, i < zs.length → w.cell? (x.add i) = some (.int k (zs.getD i 0))) ∧ ∀ n ∈ zs, (Lit.int k n).wf = true)
    (hs : ∀ x, a = some x → x.spot = none) : ∃ bs : List Nat, Rd w (.slice a len cap) (bs.map (N k)) ∧ (∀ x ∈ bs, x < m) ∧ bs.length < 9223372036854775808 := by
  rcases h with ⟨rfl, rfl, rfl, rfl⟩ | ⟨x, rfl, h1, h2, h3, h4, h5⟩
  · exact ⟨[], Rd.nil w, by simp, by decide⟩
  · have hn : ∀ n ∈ zs, 0 ≤ n ∧ n < (m : Int) := by
      intro n hn
      have := h5 n hn
      cases k <;> simp [ub] at hk <;> subst hk <;> simp [Lit.wf, IntKind.min, IntKind.max, IntKind.signed, IntKind.bits] at this ⊢ <;> omega
    have hg : ∀ i, i < zs.length → Int.ofNat (zs.getD i 0).toNat = zs.getD i 0 := by
      intro i hi
      have : zs.getD i 0 ∈ zs := by simp [List.getD_eq_getElem?_getD, hi]
      have := hn _ this
      show (((zs.getD i 0).toNat : Nat) : Int) = _
      omega
    refine ⟨(zs.take len).map Int.toNat, ⟨⟨some x, cap, ?_, ?_, by simp, by simpa using hs⟩, ?_⟩, ?_, ?_⟩
    · simp; omega
    · simp; omega
    · intro i v hv
      have hi : i < len ∧ i < zs.length := by
        have := (List.getElem?_eq_some_iff.mp hv).1
        simp at this; omega
      have e1 := h4 i hi.2
      rw [← hg i hi.2] at e1
      show w.cell? (x.add i) = _
      rw [e1]
      simp [hi.1, hi.2] at hv
      rw [← hv]
      simp [N, List.getD_eq_getElem?_getD, hi.2]
    · intro y hy
      simp only [List.mem_map] at hy
      obtain ⟨n, hn', rfl⟩ := hy
      have := hn n (List.mem_of_mem_take hn')
      omega
    · have : cap ≤ 2 ^ 63 - 1 := h2
      simp; omega
theorem post_bool {w w' : World} {e : Ending} (h : PostR (IsV (.bool true)) [] w e w') : e = .returned (.bool true) ∧ RowKit.Below w.heap.size w w' := by
  obtain ⟨v, Wout, ⟨rfl, _⟩, he, hx, _⟩ := h
  exact ⟨he, hx.below⟩
end Go.Proofs.Ytbpmbdlgmmabcaa.L
