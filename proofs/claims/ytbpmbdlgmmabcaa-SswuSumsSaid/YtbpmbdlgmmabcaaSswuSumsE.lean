/- What the proof of the statement about SswuSums stands on, part E. Conditions: as each statement says. -/
import Derived.Test.YtbpmbdlgmmabcaaSswuSumsD
import Derived.Below
import Derived.Laws.Externs
import Derived.Laws.Strings
import Derived.Laws.StructEq
import Derived.Orders
import Derived.ProofKit
import Derived.Scope
import Derived.Tactics
import Derived.Test.YtbpmbdlgmmabcaaProg
import Derived.WalkKit
namespace Go.Proofs.Ytbpmbdlgmmabcaa.L
open Go Go.Proofs
set_option maxRecDepth 100000
attribute [local irreducible] Code.wp wpList Af bodyPost L.Go
open Num
attribute [local simp] D_len
/-- A sum on the third curve. -/
def thrd (x y v z : F2) : Option (F2 × F2) :=
  if x = v then if y = z ∧ y ≠ Kf.K2.zero then some (Kf.K2.cx (Kf.K2.mul (Kf.K2.add (Kf.K2.q3 x x) ac) (Kf.K2.inv (Kf.K2.add y y))) x v, Kf.K2.cy (Kf.K2.mul (Kf.K2.add (Kf.K2.q3 x x) ac) (Kf.K2.inv (Kf.K2.add y y))) x y v) else none
  else some (Kf.K2.cx (Kf.K2.chor x y v z) x v, Kf.K2.cy (Kf.K2.chor x y v z) x y v)
set_option maxHeartbeats 8000000 in
theorem third_none {x y v z : F2} (h : thrd x y v z = none) : Spec Try.prog 40 [LV .u64 (E2 x), LV .u64 (E2 y), LV .u64 (E2 v), LV .u64 (E2 z)] NoPre [] (IsV (.tuple [LV .u64 (E2 x), LV .u64 (E2 y), .bool false].toArray)) := by
  refine mk_spec Try.func40 rfl rfl rfl fun w _ => ?_
  have hl0 := fun x => D_len 6 x
  have hle := fun x : F2 => E2_len x
  have m1 := ssubE z y
  have m2 := ssubE v x
  by_cases hx : x = v
  · subst hx
    by_cases hy : y = z
    · subst hy
      have hy2 : y = Kf.K2.zero := Classical.not_not.1 fun hn => by
        rw [thrd, if_pos rfl, if_pos ⟨rfl, hn⟩] at h
        cases h
      have hz2 : (decide (D 6 y.re.val = D 6 (Kf.K2.zero : F2).re.val) && decide (D 6 y.im.val = D 6 (Kf.K2.zero : F2).im.val)) = true := by rw [hy2]; exact E2_same _
      generalize Kf.K2.sub y y = u at m1
      generalize Kf.K2.sub x x = d at m2
      repeat (first
        
        |((refine st_ne2v (hr := E2_same _) (by rfl) (by rfl) (by rfl) (by kernel_rfl) (by rfl) (by rfl) (by rfl) (by rfl) (by rfl) (by rfl) (by rfl) (by rfl) (by rfl) (by rfl) (by kernel_rfl) (by first | exact D_len _ _ | (simp; done)) (by first | exact D_len _ _ | (simp; done)) (by first | exact D_len _ _ | (simp; done)) (by first | exact D_len _ _ | (simp; done)) (by rfl) ?_))
        |((refine st_eq2v (hr := E2_same _) (by rfl) (by rfl) (by rfl) (by kernel_rfl) (by rfl) (by rfl) (by rfl) (by rfl) (by rfl) (by rfl) (by rfl) (by rfl) (by rfl) (by rfl) (by kernel_rfl) (by first | exact D_len _ _ | (simp; done)) (by first | exact D_len _ _ | (simp; done)) (by first | exact D_len _ _ | (simp; done)) (by first | exact D_len _ _ | (simp; done)) (by rfl) ?_))
        |((refine st_eq2v (hr := hz2) (by rfl) (by rfl) (by rfl) (by kernel_rfl) (by rfl) (by rfl) (by rfl) (by rfl) (by rfl) (by rfl) (by rfl) (by rfl) (by rfl) (by rfl) (by kernel_rfl) (by first | exact D_len _ _ | (simp; done)) (by first | exact D_len _ _ | (simp; done)) (by first | exact D_len _ _ | (simp; done)) (by first | exact D_len _ _ | (simp; done)) (by rfl) ?_))
        |(refine st_alloc (v := LV .u64 (List.replicate 12 0)) (by rfl) (by rfl) fun _ => ?_)
        |((refine st_build20 (k := .u64) (z := List.replicate 12 0) (by rfl) (by rfl) (by rfl) (by rfl) ?_; rw [zero12]))
        |(refine st_callV (by rfl) (by rfl) (by rfl) (m1) (fun _ _ => trivial) (by rfl) ?_)
        |(refine st_callV (by rfl) (by rfl) (by rfl) (m2) (fun _ _ => trivial) (by rfl) ?_)|refine Z01 ?_|refine Z02 ?_|refine Z03 ?_|refine Z04 ?_|refine Z05 ?_
        |refine Z06 ?_|refine Z07 ?_|refine Z08 ?_|refine Z09 ?_|refine Z10 ?_|refine Z11 ?_|refine Z12 ?_|refine Z13 ?_|refine Z14 ?_|refine Z24 ?_|refine Z25 ?_
        |refine Z26 ?_|refine Z27 ?_|refine Z28 ?_|refine Z29 ?_|refine Z30 ?_|refine Z31 ?_|refine Z32 ?_|refine Z49 ?_|refine Z50 ?_|refine Z51 ?_|refine Z52 ?_
        |refine Z53 ?_|refine Z65 ?_|refine Z67 ?_|refine Z77 ?_|refine Z78 ?_|refine Z79 ?_|refine Z81 fun _ => ?_|refine Z82 fun _ => ?_)
      refine R.st_perm [0, 1, 2, 3, 4] (by rfl) ?_
      refine R.Zpp (by rfl) (by intro _ _ _;(first |refine Z24 ?_ |refine Z25 ?_ |refine Z26 ?_ |refine Z27 ?_ |refine Z28 ?_ |refine Z67 ?_);exact Zq) ?_
      refine R.Zpls [2, 3, 4] [1, 3, 4] (by rfl) (by rfl) (by intro _ _ _;(first |refine Z24 ?_ |refine Z25 ?_ |refine Z26 ?_ |refine Z27 ?_ |refine Z28 ?_ |refine Z67 ?_);exact Zq)
        (by intro _ _ _;(first |refine Z29 ?_ |refine Z30 ?_ |refine Z31 ?_ |refine Z32 ?_);exact Zqq) ?_ ?_
      case' refine_1 => refine R.Zps (by rfl) (by intro _ _ _;(first |refine Z29 ?_ |refine Z30 ?_ |refine Z31 ?_ |refine Z32 ?_);exact Zqq) ?_
      case' refine_2 => refine R.Zple (by rfl) (by intro _ _ _;(first |refine Z24 ?_ |refine Z25 ?_ |refine Z26 ?_ |refine Z27 ?_ |refine Z28 ?_ |refine Z67 ?_);exact Zq) ?_
      all_goals refine R.Zps (by rfl) (by intro _ _ _;(first |refine Z29 ?_ |refine Z30 ?_ |refine Z31 ?_ |refine Z32 ?_);exact Zqq) ?_
      all_goals refine R.Zpf (by rfl) (by intro _ _ _;refine Z02 ?_;exact Zq) ?_
      all_goals refine R.Zp0 ?_
      all_goals
        repeat (first
          |refine Z01 ?_|refine Z02 ?_|refine Z03 ?_|refine Z04 ?_|refine Z05 ?_|refine Z06 ?_|refine Z07 ?_|refine Z08 ?_|refine Z09 ?_|refine Z10 ?_|refine Z11 ?_
          |refine Z12 ?_|refine Z13 ?_|refine Z14 ?_|refine Z24 ?_|refine Z25 ?_|refine Z26 ?_|refine Z27 ?_|refine Z28 ?_|refine Z29 ?_|refine Z30 ?_|refine Z31 ?_
          |refine Z32 ?_|refine Z49 ?_|refine Z50 ?_|refine Z51 ?_|refine Z52 ?_|refine Z53 ?_|refine Z65 ?_|refine Z67 ?_|refine Z77 ?_|refine Z78 ?_|refine Z79 ?_
          |refine Z81 fun _ => ?_|refine Z82 fun _ => ?_)
        refine st_endc3 (by rfl) (by rfl) (by rfl) (by rfl) (by repeat (first | apply Find.here | apply Find.there)) (by repeat (first | apply Find.here | apply Find.there)) (by rfl) (by rfl) (by first | with_reducible assumption | (simp [*]; done)) (by rfl) (by rfl) (by first | with_reducible assumption | (simp [*]; done)) fun _ hw => post_of hw SubW.nil ⟨?_, rfl⟩
        rfl
    · generalize Kf.K2.sub z y = u at m1
      generalize Kf.K2.sub x x = d at m2
      repeat (first
        
        |((refine st_ne2v (hr := E2_diff hy) (by rfl) (by rfl) (by rfl) (by kernel_rfl) (by rfl) (by rfl) (by rfl) (by rfl) (by rfl) (by rfl) (by rfl) (by rfl) (by rfl) (by rfl) (by kernel_rfl) (by first | exact D_len _ _ | (simp; done)) (by first | exact D_len _ _ | (simp; done)) (by first | exact D_len _ _ | (simp; done)) (by first | exact D_len _ _ | (simp; done)) (by rfl) ?_))
        |((refine st_eq2v (hr := E2_same _) (by rfl) (by rfl) (by rfl) (by kernel_rfl) (by rfl) (by rfl) (by rfl) (by rfl) (by rfl) (by rfl) (by rfl) (by rfl) (by rfl) (by rfl) (by kernel_rfl) (by first | exact D_len _ _ | (simp; done)) (by first | exact D_len _ _ | (simp; done)) (by first | exact D_len _ _ | (simp; done)) (by first | exact D_len _ _ | (simp; done)) (by rfl) ?_))
        |(refine st_alloc (v := LV .u64 (List.replicate 12 0)) (by rfl) (by rfl) fun _ => ?_)
        |((refine st_build20 (k := .u64) (z := List.replicate 12 0) (by rfl) (by rfl) (by rfl) (by rfl) ?_; rw [zero12]))
        |(refine st_callV (by rfl) (by rfl) (by rfl) (m1) (fun _ _ => trivial) (by rfl) ?_)
        |(refine st_callV (by rfl) (by rfl) (by rfl) (m2) (fun _ _ => trivial) (by rfl) ?_)|refine Z01 ?_|refine Z02 ?_|refine Z03 ?_|refine Z04 ?_|refine Z05 ?_
        |refine Z06 ?_|refine Z07 ?_|refine Z08 ?_|refine Z09 ?_|refine Z10 ?_|refine Z11 ?_|refine Z12 ?_|refine Z13 ?_|refine Z14 ?_|refine Z24 ?_|refine Z25 ?_
        |refine Z26 ?_|refine Z27 ?_|refine Z28 ?_|refine Z29 ?_|refine Z30 ?_|refine Z31 ?_|refine Z32 ?_|refine Z49 ?_|refine Z50 ?_|refine Z51 ?_|refine Z52 ?_
        |refine Z53 ?_|refine Z65 ?_|refine Z67 ?_|refine Z77 ?_|refine Z78 ?_|refine Z79 ?_|refine Z81 fun _ => ?_|refine Z82 fun _ => ?_)
      refine R.st_perm [0, 1, 2, 3, 4] (by rfl) ?_
      refine R.Zpp (by rfl) (by intro _ _ _;(first |refine Z24 ?_ |refine Z25 ?_ |refine Z26 ?_ |refine Z27 ?_ |refine Z28 ?_ |refine Z67 ?_);exact Zq) ?_
      refine R.Zpls [2, 3, 4] [1, 3, 4] (by rfl) (by rfl) (by intro _ _ _;(first |refine Z24 ?_ |refine Z25 ?_ |refine Z26 ?_ |refine Z27 ?_ |refine Z28 ?_ |refine Z67 ?_);exact Zq)
        (by intro _ _ _;(first |refine Z29 ?_ |refine Z30 ?_ |refine Z31 ?_ |refine Z32 ?_);exact Zqq) ?_ ?_
      case' refine_1 => refine R.Zps (by rfl) (by intro _ _ _;(first |refine Z29 ?_ |refine Z30 ?_ |refine Z31 ?_ |refine Z32 ?_);exact Zqq) ?_
      case' refine_2 => refine R.Zple (by rfl) (by intro _ _ _;(first |refine Z24 ?_ |refine Z25 ?_ |refine Z26 ?_ |refine Z27 ?_ |refine Z28 ?_ |refine Z67 ?_);exact Zq) ?_
      all_goals refine R.Zps (by rfl) (by intro _ _ _;(first |refine Z29 ?_ |refine Z30 ?_ |refine Z31 ?_ |refine Z32 ?_);exact Zqq) ?_
      all_goals refine R.Zpf (by rfl) (by intro _ _ _;refine Z02 ?_;exact Zq) ?_
      all_goals refine R.Zp0 ?_
      all_goals
        repeat (first
          |refine Z01 ?_|refine Z02 ?_|refine Z03 ?_|refine Z04 ?_|refine Z05 ?_|refine Z06 ?_|refine Z07 ?_|refine Z08 ?_|refine Z09 ?_|refine Z10 ?_|refine Z11 ?_
          |refine Z12 ?_|refine Z13 ?_|refine Z14 ?_|refine Z24 ?_|refine Z25 ?_|refine Z26 ?_|refine Z27 ?_|refine Z28 ?_|refine Z29 ?_|refine Z30 ?_|refine Z31 ?_
          |refine Z32 ?_|refine Z49 ?_|refine Z50 ?_|refine Z51 ?_|refine Z52 ?_|refine Z53 ?_|refine Z65 ?_|refine Z67 ?_|refine Z77 ?_|refine Z78 ?_|refine Z79 ?_
          |refine Z81 fun _ => ?_|refine Z82 fun _ => ?_)
        refine st_endc3 (by rfl) (by rfl) (by rfl) (by rfl) (by repeat (first | apply Find.here | apply Find.there)) (by repeat (first | apply Find.here | apply Find.there)) (by rfl) (by rfl) (by first | with_reducible assumption | (simp [*]; done)) (by rfl) (by rfl) (by first | with_reducible assumption | (simp [*]; done)) fun _ hw => post_of hw SubW.nil ⟨?_, rfl⟩
        rfl
  · rw [thrd, if_neg hx] at h
    cases h
set_option maxHeartbeats 8000000 in
theorem third_some {x y v z : F2} {q : F2 × F2} (h : thrd x y v z = some q) : Spec Try.prog 40 [LV .u64 (E2 x), LV .u64 (E2 y), LV .u64 (E2 v), LV .u64 (E2 z)] NoPre [] (IsV (.tuple [LV .u64 (E2 q.1), LV .u64 (E2 q.2), .bool true].toArray)) := by
  refine mk_spec Try.func40 rfl rfl rfl fun w _ => ?_
  have hl0 := fun x => D_len 6 x
  have hle := fun x : F2 => E2_len x
  by_cases hx : x = v
  · subst hx
    by_cases hy : y = z ∧ y ≠ Kf.K2.zero
    · rw [thrd, if_pos rfl, if_pos hy] at h
      cases h
      obtain ⟨hy1, hy2⟩ := hy
      subst hy1
      have m1 := ssubE y y
      have m2 := ssubE x x
      generalize Kf.K2.sub y y = u0 at m1
      generalize Kf.K2.sub x x = d0 at m2
      have m3 := smulE x x
      have m4 := saddE (Kf.K2.mul x x) (Kf.K2.mul x x)
      have m5 := saddE (Kf.K2.add (Kf.K2.mul x x) (Kf.K2.mul x x)) (Kf.K2.mul x x)
      have m6 := saddE (Kf.K2.q3 x x) ac
      have m7 := saddE y y
      rw [show Kf.K2.add (Kf.K2.add (Kf.K2.mul x x) (Kf.K2.mul x x)) (Kf.K2.mul x x) = Kf.K2.q3 x x from rfl] at m5
      generalize Kf.K2.add (Kf.K2.q3 x x) ac = u at m6 ⊢
      generalize Kf.K2.q3 x x = u1 at m5 m6
      generalize Kf.K2.add (Kf.K2.mul x x) (Kf.K2.mul x x) = u2 at m4 m5
      generalize Kf.K2.mul x x = u3 at m3 m4 m5
      generalize Kf.K2.add y y = d at m7 ⊢
      repeat (first
        
        |((refine st_ne2v (hr := E2_same _) (by rfl) (by rfl) (by rfl) (by kernel_rfl) (by rfl) (by rfl) (by rfl) (by rfl) (by rfl) (by rfl) (by rfl) (by rfl) (by rfl) (by rfl) (by kernel_rfl) (by first | exact D_len _ _ | (simp; done)) (by first | exact D_len _ _ | (simp; done)) (by first | exact D_len _ _ | (simp; done)) (by first | exact D_len _ _ | (simp; done)) (by rfl) ?_))
        |((refine st_eq2v (hr := E2_same _) (by rfl) (by rfl) (by rfl) (by kernel_rfl) (by rfl) (by rfl) (by rfl) (by rfl) (by rfl) (by rfl) (by rfl) (by rfl) (by rfl) (by rfl) (by kernel_rfl) (by first | exact D_len _ _ | (simp; done)) (by first | exact D_len _ _ | (simp; done)) (by first | exact D_len _ _ | (simp; done)) (by first | exact D_len _ _ | (simp; done)) (by rfl) ?_))
        |((refine st_eq2v (hr := E2_diff hy2) (by rfl) (by rfl) (by rfl) (by kernel_rfl) (by rfl) (by rfl) (by rfl) (by rfl) (by rfl) (by rfl) (by rfl) (by rfl) (by rfl) (by rfl) (by kernel_rfl) (by first | exact D_len _ _ | (simp; done)) (by first | exact D_len _ _ | (simp; done)) (by first | exact D_len _ _ | (simp; done)) (by first | exact D_len _ _ | (simp; done)) (by rfl) ?_))
        |(refine st_alloc (v := LV .u64 (List.replicate 12 0)) (by rfl) (by rfl) fun _ => ?_)
        |((refine st_build20 (k := .u64) (z := List.replicate 12 0) (by rfl) (by rfl) (by rfl) (by rfl) ?_; rw [zero12]))
        |(refine st_callV (by rfl) (by rfl) (by rfl) (m1) (fun _ _ => trivial) (by rfl) ?_)
        |(refine st_callV (by rfl) (by rfl) (by rfl) (m2) (fun _ _ => trivial) (by rfl) ?_)
        |(refine st_callV (by rfl) (by rfl) (by rfl) (m3) (fun _ _ => trivial) (by rfl) ?_)|refine Z01 ?_|refine Z02 ?_|refine Z03 ?_|refine Z04 ?_|refine Z05 ?_
        |refine Z06 ?_|refine Z07 ?_|refine Z08 ?_|refine Z09 ?_|refine Z10 ?_|refine Z11 ?_|refine Z12 ?_|refine Z13 ?_|refine Z14 ?_|refine Z24 ?_|refine Z25 ?_
        |refine Z26 ?_|refine Z27 ?_|refine Z28 ?_|refine Z29 ?_|refine Z30 ?_|refine Z31 ?_|refine Z32 ?_|refine Z49 ?_|refine Z50 ?_|refine Z51 ?_|refine Z52 ?_
        |refine Z53 ?_|refine Z65 ?_|refine Z67 ?_|refine Z77 ?_|refine Z78 ?_|refine Z79 ?_|refine Z81 fun _ => ?_|refine Z82 fun _ => ?_)
      refine R.st_perm [0, 1, 2, 3, 4, 5, 6, 7, 8] (by rfl) ?_
      repeat (first
        |refine R.Zpf (by rfl)
          (by intro _ _ _;(first
          |(refine st_buildP (kk := .u64) (vs := [240]) (by rfl) (by rfl) (by rfl) (by rfl) (by rfl) (by rfl) (by rfl) (by rfl) ?_)
          |((refine st_build2b (by rfl) (by rfl) (by rfl) (by rfl) (by first | exact D_len _ _ | (simp; done)) (by rfl) ?_; rw [acE]))
          |(refine st_fld (by rfl) (by first | exact (show _ = some (0, 6) from rfl) | exact (show _ = some (6, 6) from rfl) | exact (show _ = some (0, 12) from rfl) | exact (show _ = some (12, 12) from rfl) | exact (show _ = some (24, 1) from rfl)) (by rfl) (by rfl) ?_)
          |(refine st_build2 (by rfl) (by rfl) (by rfl) (by rfl) (by first | exact D_len _ _ | (simp; done)) (by first | exact D_len _ _ | (simp; done)) (by rfl) ?_)
          |(refine st_build2a (by rfl) (by rfl) (by rfl) (by rfl) (by first | exact D_len _ _ | (simp; done)) (by rfl) ?_)
          |(refine st_build2b (by rfl) (by rfl) (by rfl) (by rfl) (by first | exact D_len _ _ | (simp; done)) (by rfl) ?_)
          |(refine st_build20 (by rfl) (by rfl) (by rfl) (by rfl) ?_)
          |(refine st_eq2 (by rfl) (by rfl) (by rfl) (by kernel_rfl) (by rfl) (by rfl) (by rfl) (by rfl) (by rfl) (by rfl) (by rfl) (by rfl) (by rfl) (by rfl) (by kernel_rfl) (by first | exact D_len _ _ | (simp; done)) (by first | exact D_len _ _ | (simp; done)) (by first | exact D_len _ _ | (simp; done)) (by first | exact D_len _ _ | (simp; done)) (by rfl) ?_)
          |(refine st_ne2 (by rfl) (by rfl) (by rfl) (by kernel_rfl) (by rfl) (by rfl) (by rfl) (by rfl) (by rfl) (by rfl) (by rfl) (by rfl) (by rfl) (by rfl) (by kernel_rfl) (by first | exact D_len _ _ | (simp; done)) (by first | exact D_len _ _ | (simp; done)) (by first | exact D_len _ _ | (simp; done)) (by first | exact D_len _ _ | (simp; done)) (by rfl) ?_)
          |(refine st_fieldLV (by rfl) (by first | exact (show _ = some (0, 6) from rfl) | exact (show _ = some (6, 6) from rfl) | exact (show _ = some (0, 12) from rfl) | exact (show _ = some (12, 12) from rfl) | exact (show _ = some (24, 1) from rfl)) (by first | (refine PartAt.l ?_; (first | exact D_len _ _ | (simp; done))) | (refine PartAt.r ?_ ?_ <;> (first | exact D_len _ _ | (simp; done))) | (refine PartAt.all ?_; (first | exact D_len _ _ | (simp; done)))) (by rfl) (by rfl) ?_)
          |refine Z01 ?_|refine Z02 ?_|refine Z49 ?_|refine Z50 ?_|refine Z65 ?_|refine Z77 ?_|refine Z78 ?_|refine Z79 ?_);exact Zq) ?_
        |refine R.Zpp (by rfl)
          (by intro _ _ _;(first
          |refine Z24 ?_|refine Z25 ?_|refine Z26 ?_|refine Z27 ?_|refine Z28 ?_|refine Z67 ?_);exact Zq) ?_
        |refine R.Zpp (by rfl)
          (by intro _ _ _;(refine st_ldp (by rfl) (by repeat (first | apply Find.here | apply Find.there)) (by rfl) (by rfl) (by first | (refine PartAt.l ?_; (first | exact D_len _ _ | (simp; done))) | (refine PartAt.r ?_ ?_ <;> (first | exact D_len _ _ | (simp; done))) | (refine PartAt.all ?_; (first | exact D_len _ _ | (simp; done)))) (by rfl) ?_);exact Zq) ?_
        |refine R.Zpp (by rfl)
          (by intro _ _ _;refine st_callV (by rfl) (by rfl) (by rfl) (m4) (fun _ _ => trivial) (by rfl) ?_;exact Zq) ?_
        |refine R.Zpp (by rfl)
          (by intro _ _ _;refine st_callV (by rfl) (by rfl) (by rfl) (m5) (fun _ _ => trivial) (by rfl) ?_;exact Zq) ?_
        |refine R.Zpp (by rfl)
          (by intro _ _ _;refine st_callV (by rfl) (by rfl) (by rfl) (m6) (fun _ _ => trivial) (by rfl) ?_;exact Zq) ?_
        |refine R.Zps (by rfl)
          (by intro _ _ _;(first
          |refine Z29 ?_|refine Z30 ?_|refine Z31 ?_|refine Z32 ?_);exact Zqq) ?_
        |refine R.Zpn (by rfl)
          (by intro _ _ _;(first
          |refine Z81 fun _ => ?_|refine Z82 fun _ => ?_);exact R.Zpx) fun _ => ?_
        |refine R.Zpo (by rfl) ?_)
      refine R.Zp0 ?_
      repeat (first
        |(refine st_callV (by rfl) (by rfl) (by rfl) (m7) (fun _ _ => trivial) (by rfl) ?_)|refine Z01 ?_|refine Z02 ?_|refine Z03 ?_|refine Z04 ?_|refine Z05 ?_
        |refine Z06 ?_|refine Z07 ?_|refine Z08 ?_|refine Z09 ?_|refine Z10 ?_|refine Z11 ?_|refine Z12 ?_|refine Z13 ?_|refine Z14 ?_|refine Z24 ?_|refine Z25 ?_
        |refine Z26 ?_|refine Z27 ?_|refine Z28 ?_|refine Z29 ?_|refine Z30 ?_|refine Z31 ?_|refine Z32 ?_|refine Z49 ?_|refine Z50 ?_|refine Z51 ?_|refine Z52 ?_
        |refine Z53 ?_|refine Z65 ?_|refine Z67 ?_|refine Z77 ?_|refine Z78 ?_|refine Z79 ?_|refine Z81 fun _ => ?_|refine Z82 fun _ => ?_)
      obtain ⟨l, hl⟩ : ∃ l : F2, l = Kf.K2.mul u (Kf.K2.inv d) := ⟨_, rfl⟩
      have k1 := sinvE d
      have k2 := smulE u (Kf.K2.inv d)
      rw [← hl] at k2 ⊢
      generalize Kf.K2.inv d = vi at k1 k2
      clear hl
      have k3 := smulE l l
      have k4 := ssubE (Kf.K2.mul l l) x
      have k5 := ssubE (Kf.K2.sub (Kf.K2.mul l l) x) x
      have k6 := ssubE x (Kf.K2.cx l x x)
      have k7 := smulE l (Kf.K2.sub x (Kf.K2.cx l x x))
      have k8 := ssubE (Kf.K2.mul l (Kf.K2.sub x (Kf.K2.cx l x x))) y
      rw [show Kf.K2.sub (Kf.K2.sub (Kf.K2.mul l l) x) x = Kf.K2.cx l x x from rfl] at k5
      rw [show Kf.K2.sub (Kf.K2.mul l (Kf.K2.sub x (Kf.K2.cx l x x))) y = Kf.K2.cy l x y x from rfl] at k8
      generalize Kf.K2.cy l x y x = yy at k8 ⊢
      generalize Kf.K2.mul l (Kf.K2.sub x (Kf.K2.cx l x x)) = g1 at k7 k8
      generalize Kf.K2.sub x (Kf.K2.cx l x x) = g2 at k6 k7
      generalize Kf.K2.cx l x x = xx at k5 k6 ⊢
      generalize Kf.K2.sub (Kf.K2.mul l l) x = g3 at k4 k5
      generalize Kf.K2.mul l l = g4 at k3 k4
      refine R.st_perm [0, 1, 2, 3, 4, 5] (by rfl) ?_
      repeat (first
        |refine R.Zpf (by rfl)
          (by intro _ _ _;(first
          
          |(refine st_fld (by rfl) (by first | exact (show _ = some (0, 6) from rfl) | exact (show _ = some (6, 6) from rfl) | exact (show _ = some (0, 12) from rfl) | exact (show _ = some (12, 12) from rfl) | exact (show _ = some (24, 1) from rfl)) (by rfl) (by rfl) ?_)
          |(refine st_build2 (by rfl) (by rfl) (by rfl) (by rfl) (by first | exact D_len _ _ | (simp; done)) (by first | exact D_len _ _ | (simp; done)) (by rfl) ?_)
          |(refine st_build2a (by rfl) (by rfl) (by rfl) (by rfl) (by first | exact D_len _ _ | (simp; done)) (by rfl) ?_)
          |(refine st_build2b (by rfl) (by rfl) (by rfl) (by rfl) (by first | exact D_len _ _ | (simp; done)) (by rfl) ?_)
          |(refine st_build20 (by rfl) (by rfl) (by rfl) (by rfl) ?_)
          |(refine st_eq2 (by rfl) (by rfl) (by rfl) (by kernel_rfl) (by rfl) (by rfl) (by rfl) (by rfl) (by rfl) (by rfl) (by rfl) (by rfl) (by rfl) (by rfl) (by kernel_rfl) (by first | exact D_len _ _ | (simp; done)) (by first | exact D_len _ _ | (simp; done)) (by first | exact D_len _ _ | (simp; done)) (by first | exact D_len _ _ | (simp; done)) (by rfl) ?_)
          |(refine st_ne2 (by rfl) (by rfl) (by rfl) (by kernel_rfl) (by rfl) (by rfl) (by rfl) (by rfl) (by rfl) (by rfl) (by rfl) (by rfl) (by rfl) (by rfl) (by kernel_rfl) (by first | exact D_len _ _ | (simp; done)) (by first | exact D_len _ _ | (simp; done)) (by first | exact D_len _ _ | (simp; done)) (by first | exact D_len _ _ | (simp; done)) (by rfl) ?_)
          |(refine st_fieldLV (by rfl) (by first | exact (show _ = some (0, 6) from rfl) | exact (show _ = some (6, 6) from rfl) | exact (show _ = some (0, 12) from rfl) | exact (show _ = some (12, 12) from rfl) | exact (show _ = some (24, 1) from rfl)) (by first | (refine PartAt.l ?_; (first | exact D_len _ _ | (simp; done))) | (refine PartAt.r ?_ ?_ <;> (first | exact D_len _ _ | (simp; done))) | (refine PartAt.all ?_; (first | exact D_len _ _ | (simp; done)))) (by rfl) (by rfl) ?_)
          |refine Z01 ?_|refine Z02 ?_|refine Z49 ?_|refine Z50 ?_|refine Z65 ?_|refine Z77 ?_|refine Z78 ?_|refine Z79 ?_);exact Zq) ?_
        |refine R.Zpp (by rfl)
          (by intro _ _ _;(first
          |refine Z24 ?_|refine Z25 ?_|refine Z26 ?_|refine Z27 ?_|refine Z28 ?_|refine Z67 ?_);exact Zq) ?_
        |refine R.Zpp (by rfl)
          (by intro _ _ _;(refine st_ldp (by rfl) (by repeat (first | apply Find.here | apply Find.there)) (by rfl) (by rfl) (by first | (refine PartAt.l ?_; (first | exact D_len _ _ | (simp; done))) | (refine PartAt.r ?_ ?_ <;> (first | exact D_len _ _ | (simp; done))) | (refine PartAt.all ?_; (first | exact D_len _ _ | (simp; done)))) (by rfl) ?_);exact Zq) ?_
        |refine R.Zpp (by rfl)
          (by intro _ _ _;refine st_callV (by rfl) (by rfl) (by rfl) (k1) (fun _ _ => trivial) (by rfl) ?_;exact Zq) ?_
        |refine R.Zpp (by rfl)
          (by intro _ _ _;refine st_callV (by rfl) (by rfl) (by rfl) (k2) (fun _ _ => trivial) (by rfl) ?_;exact Zq) ?_
        |refine R.Zps (by rfl)
          (by intro _ _ _;(first
          |refine Z29 ?_|refine Z30 ?_|refine Z31 ?_|refine Z32 ?_);exact Zqq) ?_
        |refine R.Zpb (by rfl)
          (by intro _ _ _;refine st_alloc (v := LV .u64 (List.replicate 12 0)) (by rfl) (by rfl) fun _ => ?_;exact R.Zpbx) fun _ => ?_
        |refine R.Zpn (by rfl)
          (by intro _ _ _;(first
          |refine Z81 fun _ => ?_|refine Z82 fun _ => ?_);exact R.Zpx) fun _ => ?_
        |refine R.Zpo (by rfl) ?_)
      refine R.Zp0 ?_
      repeat (first
        |refine Z01 ?_|refine Z02 ?_|refine Z03 ?_|refine Z04 ?_|refine Z05 ?_|refine Z06 ?_|refine Z07 ?_|refine Z08 ?_|refine Z09 ?_|refine Z10 ?_|refine Z11 ?_
        |refine Z12 ?_|refine Z13 ?_|refine Z14 ?_|refine Z24 ?_|refine Z25 ?_|refine Z26 ?_|refine Z27 ?_|refine Z28 ?_|refine Z29 ?_|refine Z30 ?_|refine Z31 ?_
        |refine Z32 ?_|refine Z49 ?_|refine Z50 ?_|refine Z51 ?_|refine Z52 ?_|refine Z53 ?_|refine Z65 ?_|refine Z67 ?_|refine Z77 ?_|refine Z78 ?_|refine Z79 ?_
        |refine Z81 fun _ => ?_|refine Z82 fun _ => ?_)
      refine R.st_perm [0, 1, 2, 3, 4, 5, 6, 7, 8] (by rfl) ?_
      repeat (first
        |refine R.Zpf (by rfl)
          (by intro _ _ _;(first
          
          |(refine st_fld (by rfl) (by first | exact (show _ = some (0, 6) from rfl) | exact (show _ = some (6, 6) from rfl) | exact (show _ = some (0, 12) from rfl) | exact (show _ = some (12, 12) from rfl) | exact (show _ = some (24, 1) from rfl)) (by rfl) (by rfl) ?_)
          |(refine st_build2 (by rfl) (by rfl) (by rfl) (by rfl) (by first | exact D_len _ _ | (simp; done)) (by first | exact D_len _ _ | (simp; done)) (by rfl) ?_)
          |(refine st_build2a (by rfl) (by rfl) (by rfl) (by rfl) (by first | exact D_len _ _ | (simp; done)) (by rfl) ?_)
          |(refine st_build2b (by rfl) (by rfl) (by rfl) (by rfl) (by first | exact D_len _ _ | (simp; done)) (by rfl) ?_)
          |(refine st_build20 (by rfl) (by rfl) (by rfl) (by rfl) ?_)
          |(refine st_eq2 (by rfl) (by rfl) (by rfl) (by kernel_rfl) (by rfl) (by rfl) (by rfl) (by rfl) (by rfl) (by rfl) (by rfl) (by rfl) (by rfl) (by rfl) (by kernel_rfl) (by first | exact D_len _ _ | (simp; done)) (by first | exact D_len _ _ | (simp; done)) (by first | exact D_len _ _ | (simp; done)) (by first | exact D_len _ _ | (simp; done)) (by rfl) ?_)
          |(refine st_ne2 (by rfl) (by rfl) (by rfl) (by kernel_rfl) (by rfl) (by rfl) (by rfl) (by rfl) (by rfl) (by rfl) (by rfl) (by rfl) (by rfl) (by rfl) (by kernel_rfl) (by first | exact D_len _ _ | (simp; done)) (by first | exact D_len _ _ | (simp; done)) (by first | exact D_len _ _ | (simp; done)) (by first | exact D_len _ _ | (simp; done)) (by rfl) ?_)
          |(refine st_fieldLV (by rfl) (by first | exact (show _ = some (0, 6) from rfl) | exact (show _ = some (6, 6) from rfl) | exact (show _ = some (0, 12) from rfl) | exact (show _ = some (12, 12) from rfl) | exact (show _ = some (24, 1) from rfl)) (by first | (refine PartAt.l ?_; (first | exact D_len _ _ | (simp; done))) | (refine PartAt.r ?_ ?_ <;> (first | exact D_len _ _ | (simp; done))) | (refine PartAt.all ?_; (first | exact D_len _ _ | (simp; done)))) (by rfl) (by rfl) ?_)
          |refine Z01 ?_|refine Z02 ?_|refine Z49 ?_|refine Z50 ?_|refine Z65 ?_|refine Z77 ?_|refine Z78 ?_|refine Z79 ?_);exact Zq) ?_
        |refine R.Zpp (by rfl)
          (by intro _ _ _;(first
          |refine Z24 ?_|refine Z25 ?_|refine Z26 ?_|refine Z27 ?_|refine Z28 ?_|refine Z67 ?_);exact Zq) ?_
        |refine R.Zpp (by rfl)
          (by intro _ _ _;(refine st_ldp (by rfl) (by repeat (first | apply Find.here | apply Find.there)) (by rfl) (by rfl) (by first | (refine PartAt.l ?_; (first | exact D_len _ _ | (simp; done))) | (refine PartAt.r ?_ ?_ <;> (first | exact D_len _ _ | (simp; done))) | (refine PartAt.all ?_; (first | exact D_len _ _ | (simp; done)))) (by rfl) ?_);exact Zq) ?_
        |refine R.Zpp (by rfl)
          (by intro _ _ _;refine st_callV (by rfl) (by rfl) (by rfl) (k3) (fun _ _ => trivial) (by rfl) ?_;exact Zq) ?_
        |refine R.Zpp (by rfl)
          (by intro _ _ _;refine st_callV (by rfl) (by rfl) (by rfl) (k4) (fun _ _ => trivial) (by rfl) ?_;exact Zq) ?_
        |refine R.Zpp (by rfl)
          (by intro _ _ _;refine st_callV (by rfl) (by rfl) (by rfl) (k5) (fun _ _ => trivial) (by rfl) ?_;exact Zq) ?_
        |refine R.Zps (by rfl)
          (by intro _ _ _;(first
          |refine Z29 ?_|refine Z30 ?_|refine Z31 ?_|refine Z32 ?_);exact Zqq) ?_
        |refine R.Zpb (by rfl)
          (by intro _ _ _;refine st_alloc (v := LV .u64 (List.replicate 12 0)) (by rfl) (by rfl) fun _ => ?_;exact R.Zpbx) fun _ => ?_
        |refine R.Zpn (by rfl)
          (by intro _ _ _;(first
          |refine Z81 fun _ => ?_|refine Z82 fun _ => ?_);exact R.Zpx) fun _ => ?_
        |refine R.Zpo (by rfl) ?_)
      refine R.Zp0 ?_
      repeat (first
        |refine Z01 ?_|refine Z02 ?_|refine Z03 ?_|refine Z04 ?_|refine Z05 ?_|refine Z06 ?_|refine Z07 ?_|refine Z08 ?_|refine Z09 ?_|refine Z10 ?_|refine Z11 ?_
        |refine Z12 ?_|refine Z13 ?_|refine Z14 ?_|refine Z24 ?_|refine Z25 ?_|refine Z26 ?_|refine Z27 ?_|refine Z28 ?_|refine Z29 ?_|refine Z30 ?_|refine Z31 ?_
        |refine Z32 ?_|refine Z49 ?_|refine Z50 ?_|refine Z51 ?_|refine Z52 ?_|refine Z53 ?_|refine Z65 ?_|refine Z67 ?_|refine Z77 ?_|refine Z78 ?_|refine Z79 ?_
        |refine Z81 fun _ => ?_|refine Z82 fun _ => ?_)
      refine R.st_perm [0, 1, 2, 3, 4, 5, 6, 7, 8, 9, 10] (by rfl) ?_
      repeat (first
        |refine R.Zpf (by rfl)
          (by intro _ _ _;(first
          
          |(refine st_fld (by rfl) (by first | exact (show _ = some (0, 6) from rfl) | exact (show _ = some (6, 6) from rfl) | exact (show _ = some (0, 12) from rfl) | exact (show _ = some (12, 12) from rfl) | exact (show _ = some (24, 1) from rfl)) (by rfl) (by rfl) ?_)
          |(refine st_build2 (by rfl) (by rfl) (by rfl) (by rfl) (by first | exact D_len _ _ | (simp; done)) (by first | exact D_len _ _ | (simp; done)) (by rfl) ?_)
          |(refine st_build2a (by rfl) (by rfl) (by rfl) (by rfl) (by first | exact D_len _ _ | (simp; done)) (by rfl) ?_)
          |(refine st_build2b (by rfl) (by rfl) (by rfl) (by rfl) (by first | exact D_len _ _ | (simp; done)) (by rfl) ?_)
          |(refine st_build20 (by rfl) (by rfl) (by rfl) (by rfl) ?_)
          |(refine st_eq2 (by rfl) (by rfl) (by rfl) (by kernel_rfl) (by rfl) (by rfl) (by rfl) (by rfl) (by rfl) (by rfl) (by rfl) (by rfl) (by rfl) (by rfl) (by kernel_rfl) (by first | exact D_len _ _ | (simp; done)) (by first | exact D_len _ _ | (simp; done)) (by first | exact D_len _ _ | (simp; done)) (by first | exact D_len _ _ | (simp; done)) (by rfl) ?_)
          |(refine st_ne2 (by rfl) (by rfl) (by rfl) (by kernel_rfl) (by rfl) (by rfl) (by rfl) (by rfl) (by rfl) (by rfl) (by rfl) (by rfl) (by rfl) (by rfl) (by kernel_rfl) (by first | exact D_len _ _ | (simp; done)) (by first | exact D_len _ _ | (simp; done)) (by first | exact D_len _ _ | (simp; done)) (by first | exact D_len _ _ | (simp; done)) (by rfl) ?_)
          |(refine st_fieldLV (by rfl) (by first | exact (show _ = some (0, 6) from rfl) | exact (show _ = some (6, 6) from rfl) | exact (show _ = some (0, 12) from rfl) | exact (show _ = some (12, 12) from rfl) | exact (show _ = some (24, 1) from rfl)) (by first | (refine PartAt.l ?_; (first | exact D_len _ _ | (simp; done))) | (refine PartAt.r ?_ ?_ <;> (first | exact D_len _ _ | (simp; done))) | (refine PartAt.all ?_; (first | exact D_len _ _ | (simp; done)))) (by rfl) (by rfl) ?_)
          |refine Z01 ?_|refine Z02 ?_|refine Z49 ?_|refine Z50 ?_|refine Z65 ?_|refine Z77 ?_|refine Z78 ?_|refine Z79 ?_);exact Zq) ?_
        |refine R.Zpp (by rfl)
          (by intro _ _ _;(first
          |refine Z24 ?_|refine Z25 ?_|refine Z26 ?_|refine Z27 ?_|refine Z28 ?_|refine Z67 ?_);exact Zq) ?_
        |refine R.Zpp (by rfl)
          (by intro _ _ _;(refine st_ldp (by rfl) (by repeat (first | apply Find.here | apply Find.there)) (by rfl) (by rfl) (by first | (refine PartAt.l ?_; (first | exact D_len _ _ | (simp; done))) | (refine PartAt.r ?_ ?_ <;> (first | exact D_len _ _ | (simp; done))) | (refine PartAt.all ?_; (first | exact D_len _ _ | (simp; done)))) (by rfl) ?_);exact Zq) ?_
        |refine R.Zpp (by rfl)
          (by intro _ _ _;refine st_callV (by rfl) (by rfl) (by rfl) (k6) (fun _ _ => trivial) (by rfl) ?_;exact Zq) ?_
        |refine R.Zpp (by rfl)
          (by intro _ _ _;refine st_callV (by rfl) (by rfl) (by rfl) (k7) (fun _ _ => trivial) (by rfl) ?_;exact Zq) ?_
        |refine R.Zpp (by rfl)
          (by intro _ _ _;refine st_callV (by rfl) (by rfl) (by rfl) (k8) (fun _ _ => trivial) (by rfl) ?_;exact Zq) ?_
        |refine R.Zps (by rfl)
          (by intro _ _ _;(first
          |refine Z29 ?_|refine Z30 ?_|refine Z31 ?_|refine Z32 ?_);exact Zqq) ?_
        |refine R.Zpn (by rfl)
          (by intro _ _ _;(first
          |refine Z81 fun _ => ?_|refine Z82 fun _ => ?_);exact R.Zpx) fun _ => ?_
        |refine R.Zpo (by rfl) ?_)
      refine R.Zp0 ?_
      repeat (first
        |refine Z01 ?_|refine Z02 ?_|refine Z03 ?_|refine Z04 ?_|refine Z05 ?_|refine Z06 ?_|refine Z07 ?_|refine Z08 ?_|refine Z09 ?_|refine Z10 ?_|refine Z11 ?_
        |refine Z12 ?_|refine Z13 ?_|refine Z14 ?_|refine Z24 ?_|refine Z25 ?_|refine Z26 ?_|refine Z27 ?_|refine Z28 ?_|refine Z29 ?_|refine Z30 ?_|refine Z31 ?_
        |refine Z32 ?_|refine Z49 ?_|refine Z50 ?_|refine Z51 ?_|refine Z52 ?_|refine Z53 ?_|refine Z65 ?_|refine Z67 ?_|refine Z77 ?_|refine Z78 ?_|refine Z79 ?_
        |refine Z81 fun _ => ?_|refine Z82 fun _ => ?_)
      refine st_endc3 (by rfl) (by rfl) (by rfl) (by rfl) (by repeat (first | apply Find.here | apply Find.there)) (by repeat (first | apply Find.here | apply Find.there)) (by rfl) (by rfl) (by first | with_reducible assumption | (simp [*]; done)) (by rfl) (by rfl) (by first | with_reducible assumption | (simp [*]; done)) fun _ hw => post_of hw SubW.nil ⟨?_, rfl⟩
      rfl
    · rw [thrd, if_pos rfl, if_neg hy] at h
      cases h
  · rw [thrd, if_neg hx] at h
    cases h
    have m1 := ssubE z y
    have m2 := ssubE v x
    rw [Kf.K2.chor]
    generalize Kf.K2.sub z y = u at m1 ⊢
    generalize Kf.K2.sub v x = d at m2 ⊢
    repeat (first
      
      |((refine st_eq2v (hr := E2_diff hx) (by rfl) (by rfl) (by rfl) (by kernel_rfl) (by rfl) (by rfl) (by rfl) (by rfl) (by rfl) (by rfl) (by rfl) (by rfl) (by rfl) (by rfl) (by kernel_rfl) (by first | exact D_len _ _ | (simp; done)) (by first | exact D_len _ _ | (simp; done)) (by first | exact D_len _ _ | (simp; done)) (by first | exact D_len _ _ | (simp; done)) (by rfl) ?_))
      |(refine st_alloc (v := LV .u64 (List.replicate 12 0)) (by rfl) (by rfl) fun _ => ?_)
      |(refine st_callV (by rfl) (by rfl) (by rfl) (m1) (fun _ _ => trivial) (by rfl) ?_)
      |(refine st_callV (by rfl) (by rfl) (by rfl) (m2) (fun _ _ => trivial) (by rfl) ?_)|refine Z01 ?_|refine Z02 ?_|refine Z03 ?_|refine Z04 ?_|refine Z05 ?_
      |refine Z06 ?_|refine Z07 ?_|refine Z08 ?_|refine Z09 ?_|refine Z10 ?_|refine Z11 ?_|refine Z12 ?_|refine Z13 ?_|refine Z14 ?_|refine Z24 ?_|refine Z25 ?_
      |refine Z26 ?_|refine Z27 ?_|refine Z28 ?_|refine Z29 ?_|refine Z30 ?_|refine Z31 ?_|refine Z32 ?_|refine Z49 ?_|refine Z50 ?_|refine Z51 ?_|refine Z52 ?_
      |refine Z53 ?_|refine Z65 ?_|refine Z67 ?_|refine Z77 ?_|refine Z78 ?_|refine Z79 ?_|refine Z81 fun _ => ?_|refine Z82 fun _ => ?_)
    obtain ⟨l, hl⟩ : ∃ l : F2, l = Kf.K2.mul u (Kf.K2.inv d) := ⟨_, rfl⟩
    have k1 := sinvE d
    have k2 := smulE u (Kf.K2.inv d)
    rw [← hl] at k2 ⊢
    generalize Kf.K2.inv d = vi at k1 k2
    clear hl
    have k3 := smulE l l
    have k4 := ssubE (Kf.K2.mul l l) x
    have k5 := ssubE (Kf.K2.sub (Kf.K2.mul l l) x) v
    have k6 := ssubE x (Kf.K2.cx l x v)
    have k7 := smulE l (Kf.K2.sub x (Kf.K2.cx l x v))
    have k8 := ssubE (Kf.K2.mul l (Kf.K2.sub x (Kf.K2.cx l x v))) y
    rw [show Kf.K2.sub (Kf.K2.sub (Kf.K2.mul l l) x) v = Kf.K2.cx l x v from rfl] at k5
    rw [show Kf.K2.sub (Kf.K2.mul l (Kf.K2.sub x (Kf.K2.cx l x v))) y = Kf.K2.cy l x y v from rfl] at k8
    generalize Kf.K2.cy l x y v = yy at k8 ⊢
    generalize Kf.K2.mul l (Kf.K2.sub x (Kf.K2.cx l x v)) = g1 at k7 k8
    generalize Kf.K2.sub x (Kf.K2.cx l x v) = g2 at k6 k7
    generalize Kf.K2.cx l x v = xx at k5 k6 ⊢
    generalize Kf.K2.sub (Kf.K2.mul l l) x = g3 at k4 k5
    generalize Kf.K2.mul l l = g4 at k3 k4
    refine R.st_perm [0, 1, 2, 3, 4, 5] (by rfl) ?_
    repeat (first
      |refine R.Zpf (by rfl)
        (by intro _ _ _;(first
        
        |(refine st_fld (by rfl) (by first | exact (show _ = some (0, 6) from rfl) | exact (show _ = some (6, 6) from rfl) | exact (show _ = some (0, 12) from rfl) | exact (show _ = some (12, 12) from rfl) | exact (show _ = some (24, 1) from rfl)) (by rfl) (by rfl) ?_)
        |(refine st_build2 (by rfl) (by rfl) (by rfl) (by rfl) (by first | exact D_len _ _ | (simp; done)) (by first | exact D_len _ _ | (simp; done)) (by rfl) ?_)
        |(refine st_build2a (by rfl) (by rfl) (by rfl) (by rfl) (by first | exact D_len _ _ | (simp; done)) (by rfl) ?_)
        |(refine st_build2b (by rfl) (by rfl) (by rfl) (by rfl) (by first | exact D_len _ _ | (simp; done)) (by rfl) ?_)
        |(refine st_build20 (by rfl) (by rfl) (by rfl) (by rfl) ?_)
        |(refine st_eq2 (by rfl) (by rfl) (by rfl) (by kernel_rfl) (by rfl) (by rfl) (by rfl) (by rfl) (by rfl) (by rfl) (by rfl) (by rfl) (by rfl) (by rfl) (by kernel_rfl) (by first | exact D_len _ _ | (simp; done)) (by first | exact D_len _ _ | (simp; done)) (by first | exact D_len _ _ | (simp; done)) (by first | exact D_len _ _ | (simp; done)) (by rfl) ?_)
        |(refine st_ne2 (by rfl) (by rfl) (by rfl) (by kernel_rfl) (by rfl) (by rfl) (by rfl) (by rfl) (by rfl) (by rfl) (by rfl) (by rfl) (by rfl) (by rfl) (by kernel_rfl) (by first | exact D_len _ _ | (simp; done)) (by first | exact D_len _ _ | (simp; done)) (by first | exact D_len _ _ | (simp; done)) (by first | exact D_len _ _ | (simp; done)) (by rfl) ?_)
        |(refine st_fieldLV (by rfl) (by first | exact (show _ = some (0, 6) from rfl) | exact (show _ = some (6, 6) from rfl) | exact (show _ = some (0, 12) from rfl) | exact (show _ = some (12, 12) from rfl) | exact (show _ = some (24, 1) from rfl)) (by first | (refine PartAt.l ?_; (first | exact D_len _ _ | (simp; done))) | (refine PartAt.r ?_ ?_ <;> (first | exact D_len _ _ | (simp; done))) | (refine PartAt.all ?_; (first | exact D_len _ _ | (simp; done)))) (by rfl) (by rfl) ?_)
        |refine Z01 ?_|refine Z02 ?_|refine Z49 ?_|refine Z50 ?_|refine Z65 ?_|refine Z77 ?_|refine Z78 ?_|refine Z79 ?_);exact Zq) ?_
      |refine R.Zpp (by rfl)
        (by intro _ _ _;(first
        |refine Z24 ?_|refine Z25 ?_|refine Z26 ?_|refine Z27 ?_|refine Z28 ?_|refine Z67 ?_);exact Zq) ?_
      |refine R.Zpp (by rfl)
        (by intro _ _ _;(refine st_ldp (by rfl) (by repeat (first | apply Find.here | apply Find.there)) (by rfl) (by rfl) (by first | (refine PartAt.l ?_; (first | exact D_len _ _ | (simp; done))) | (refine PartAt.r ?_ ?_ <;> (first | exact D_len _ _ | (simp; done))) | (refine PartAt.all ?_; (first | exact D_len _ _ | (simp; done)))) (by rfl) ?_);exact Zq) ?_
      |refine R.Zpp (by rfl)
        (by intro _ _ _;refine st_callV (by rfl) (by rfl) (by rfl) (k1) (fun _ _ => trivial) (by rfl) ?_;exact Zq) ?_
      |refine R.Zpp (by rfl)
        (by intro _ _ _;refine st_callV (by rfl) (by rfl) (by rfl) (k2) (fun _ _ => trivial) (by rfl) ?_;exact Zq) ?_
      |refine R.Zps (by rfl)
        (by intro _ _ _;(first
        |refine Z29 ?_|refine Z30 ?_|refine Z31 ?_|refine Z32 ?_);exact Zqq) ?_
      |refine R.Zpb (by rfl)
        (by intro _ _ _;refine st_alloc (v := LV .u64 (List.replicate 12 0)) (by rfl) (by rfl) fun _ => ?_;exact R.Zpbx) fun _ => ?_
      |refine R.Zpn (by rfl)
        (by intro _ _ _;(first
        |refine Z81 fun _ => ?_|refine Z82 fun _ => ?_);exact R.Zpx) fun _ => ?_
      |refine R.Zpo (by rfl) ?_)
    refine R.Zp0 ?_
    repeat (first
      |refine Z01 ?_|refine Z02 ?_|refine Z03 ?_|refine Z04 ?_|refine Z05 ?_|refine Z06 ?_|refine Z07 ?_|refine Z08 ?_|refine Z09 ?_|refine Z10 ?_|refine Z11 ?_
      |refine Z12 ?_|refine Z13 ?_|refine Z14 ?_|refine Z24 ?_|refine Z25 ?_|refine Z26 ?_|refine Z27 ?_|refine Z28 ?_|refine Z29 ?_|refine Z30 ?_|refine Z31 ?_
      |refine Z32 ?_|refine Z49 ?_|refine Z50 ?_|refine Z51 ?_|refine Z52 ?_|refine Z53 ?_|refine Z65 ?_|refine Z67 ?_|refine Z77 ?_|refine Z78 ?_|refine Z79 ?_
      |refine Z81 fun _ => ?_|refine Z82 fun _ => ?_)
    refine R.st_perm [0, 1, 2, 3, 4, 5, 6, 7, 8] (by rfl) ?_
    repeat (first
      |refine R.Zpf (by rfl)
        (by intro _ _ _;(first
        
        |(refine st_fld (by rfl) (by first | exact (show _ = some (0, 6) from rfl) | exact (show _ = some (6, 6) from rfl) | exact (show _ = some (0, 12) from rfl) | exact (show _ = some (12, 12) from rfl) | exact (show _ = some (24, 1) from rfl)) (by rfl) (by rfl) ?_)
        |(refine st_build2 (by rfl) (by rfl) (by rfl) (by rfl) (by first | exact D_len _ _ | (simp; done)) (by first | exact D_len _ _ | (simp; done)) (by rfl) ?_)
        |(refine st_build2a (by rfl) (by rfl) (by rfl) (by rfl) (by first | exact D_len _ _ | (simp; done)) (by rfl) ?_)
        |(refine st_build2b (by rfl) (by rfl) (by rfl) (by rfl) (by first | exact D_len _ _ | (simp; done)) (by rfl) ?_)
        |(refine st_build20 (by rfl) (by rfl) (by rfl) (by rfl) ?_)
        |(refine st_eq2 (by rfl) (by rfl) (by rfl) (by kernel_rfl) (by rfl) (by rfl) (by rfl) (by rfl) (by rfl) (by rfl) (by rfl) (by rfl) (by rfl) (by rfl) (by kernel_rfl) (by first | exact D_len _ _ | (simp; done)) (by first | exact D_len _ _ | (simp; done)) (by first | exact D_len _ _ | (simp; done)) (by first | exact D_len _ _ | (simp; done)) (by rfl) ?_)
        |(refine st_ne2 (by rfl) (by rfl) (by rfl) (by kernel_rfl) (by rfl) (by rfl) (by rfl) (by rfl) (by rfl) (by rfl) (by rfl) (by rfl) (by rfl) (by rfl) (by kernel_rfl) (by first | exact D_len _ _ | (simp; done)) (by first | exact D_len _ _ | (simp; done)) (by first | exact D_len _ _ | (simp; done)) (by first | exact D_len _ _ | (simp; done)) (by rfl) ?_)
        |(refine st_fieldLV (by rfl) (by first | exact (show _ = some (0, 6) from rfl) | exact (show _ = some (6, 6) from rfl) | exact (show _ = some (0, 12) from rfl) | exact (show _ = some (12, 12) from rfl) | exact (show _ = some (24, 1) from rfl)) (by first | (refine PartAt.l ?_; (first | exact D_len _ _ | (simp; done))) | (refine PartAt.r ?_ ?_ <;> (first | exact D_len _ _ | (simp; done))) | (refine PartAt.all ?_; (first | exact D_len _ _ | (simp; done)))) (by rfl) (by rfl) ?_)
        |refine Z01 ?_|refine Z02 ?_|refine Z49 ?_|refine Z50 ?_|refine Z65 ?_|refine Z77 ?_|refine Z78 ?_|refine Z79 ?_);exact Zq) ?_
      |refine R.Zpp (by rfl)
        (by intro _ _ _;(first
        |refine Z24 ?_|refine Z25 ?_|refine Z26 ?_|refine Z27 ?_|refine Z28 ?_|refine Z67 ?_);exact Zq) ?_
      |refine R.Zpp (by rfl)
        (by intro _ _ _;(refine st_ldp (by rfl) (by repeat (first | apply Find.here | apply Find.there)) (by rfl) (by rfl) (by first | (refine PartAt.l ?_; (first | exact D_len _ _ | (simp; done))) | (refine PartAt.r ?_ ?_ <;> (first | exact D_len _ _ | (simp; done))) | (refine PartAt.all ?_; (first | exact D_len _ _ | (simp; done)))) (by rfl) ?_);exact Zq) ?_
      |refine R.Zpp (by rfl)
        (by intro _ _ _;refine st_callV (by rfl) (by rfl) (by rfl) (k3) (fun _ _ => trivial) (by rfl) ?_;exact Zq) ?_
      |refine R.Zpp (by rfl)
        (by intro _ _ _;refine st_callV (by rfl) (by rfl) (by rfl) (k4) (fun _ _ => trivial) (by rfl) ?_;exact Zq) ?_
      |refine R.Zpp (by rfl)
        (by intro _ _ _;refine st_callV (by rfl) (by rfl) (by rfl) (k5) (fun _ _ => trivial) (by rfl) ?_;exact Zq) ?_
      |refine R.Zps (by rfl)
        (by intro _ _ _;(first
        |refine Z29 ?_|refine Z30 ?_|refine Z31 ?_|refine Z32 ?_);exact Zqq) ?_
      |refine R.Zpb (by rfl)
        (by intro _ _ _;refine st_alloc (v := LV .u64 (List.replicate 12 0)) (by rfl) (by rfl) fun _ => ?_;exact R.Zpbx) fun _ => ?_
      |refine R.Zpn (by rfl)
        (by intro _ _ _;(first
        |refine Z81 fun _ => ?_|refine Z82 fun _ => ?_);exact R.Zpx) fun _ => ?_
      |refine R.Zpo (by rfl) ?_)
    refine R.Zp0 ?_
    repeat (first
      |refine Z01 ?_|refine Z02 ?_|refine Z03 ?_|refine Z04 ?_|refine Z05 ?_|refine Z06 ?_|refine Z07 ?_|refine Z08 ?_|refine Z09 ?_|refine Z10 ?_|refine Z11 ?_
      |refine Z12 ?_|refine Z13 ?_|refine Z14 ?_|refine Z24 ?_|refine Z25 ?_|refine Z26 ?_|refine Z27 ?_|refine Z28 ?_|refine Z29 ?_|refine Z30 ?_|refine Z31 ?_
      |refine Z32 ?_|refine Z49 ?_|refine Z50 ?_|refine Z51 ?_|refine Z52 ?_|refine Z53 ?_|refine Z65 ?_|refine Z67 ?_|refine Z77 ?_|refine Z78 ?_|refine Z79 ?_
      |refine Z81 fun _ => ?_|refine Z82 fun _ => ?_)
    refine R.st_perm [0, 1, 2, 3, 4, 5, 6, 7, 8, 9, 10] (by rfl) ?_
    repeat (first
      |refine R.Zpf (by rfl)
        (by intro _ _ _;(first
        
        |(refine st_fld (by rfl) (by first | exact (show _ = some (0, 6) from rfl) | exact (show _ = some (6, 6) from rfl) | exact (show _ = some (0, 12) from rfl) | exact (show _ = some (12, 12) from rfl) | exact (show _ = some (24, 1) from rfl)) (by rfl) (by rfl) ?_)
        |(refine st_build2 (by rfl) (by rfl) (by rfl) (by rfl) (by first | exact D_len _ _ | (simp; done)) (by first | exact D_len _ _ | (simp; done)) (by rfl) ?_)
        |(refine st_build2a (by rfl) (by rfl) (by rfl) (by rfl) (by first | exact D_len _ _ | (simp; done)) (by rfl) ?_)
        |(refine st_build2b (by rfl) (by rfl) (by rfl) (by rfl) (by first | exact D_len _ _ | (simp; done)) (by rfl) ?_)
        |(refine st_build20 (by rfl) (by rfl) (by rfl) (by rfl) ?_)
        |(refine st_eq2 (by rfl) (by rfl) (by rfl) (by kernel_rfl) (by rfl) (by rfl) (by rfl) (by rfl) (by rfl) (by rfl) (by rfl) (by rfl) (by rfl) (by rfl) (by kernel_rfl) (by first | exact D_len _ _ | (simp; done)) (by first | exact D_len _ _ | (simp; done)) (by first | exact D_len _ _ | (simp; done)) (by first | exact D_len _ _ | (simp; done)) (by rfl) ?_)
        |(refine st_ne2 (by rfl) (by rfl) (by rfl) (by kernel_rfl) (by rfl) (by rfl) (by rfl) (by rfl) (by rfl) (by rfl) (by rfl) (by rfl) (by rfl) (by rfl) (by kernel_rfl) (by first | exact D_len _ _ | (simp; done)) (by first | exact D_len _ _ | (simp; done)) (by first | exact D_len _ _ | (simp; done)) (by first | exact D_len _ _ | (simp; done)) (by rfl) ?_)
        |(refine st_fieldLV (by rfl) (by first | exact (show _ = some (0, 6) from rfl) | exact (show _ = some (6, 6) from rfl) | exact (show _ = some (0, 12) from rfl) | exact (show _ = some (12, 12) from rfl) | exact (show _ = some (24, 1) from rfl)) (by first | (refine PartAt.l ?_; (first | exact D_len _ _ | (simp; done))) | (refine PartAt.r ?_ ?_ <;> (first | exact D_len _ _ | (simp; done))) | (refine PartAt.all ?_; (first | exact D_len _ _ | (simp; done)))) (by rfl) (by rfl) ?_)
        |refine Z01 ?_|refine Z02 ?_|refine Z49 ?_|refine Z50 ?_|refine Z65 ?_|refine Z77 ?_|refine Z78 ?_|refine Z79 ?_);exact Zq) ?_
      |refine R.Zpp (by rfl)
        (by intro _ _ _;(first
        |refine Z24 ?_|refine Z25 ?_|refine Z26 ?_|refine Z27 ?_|refine Z28 ?_|refine Z67 ?_);exact Zq) ?_
      |refine R.Zpp (by rfl)
        (by intro _ _ _;(refine st_ldp (by rfl) (by repeat (first | apply Find.here | apply Find.there)) (by rfl) (by rfl) (by first | (refine PartAt.l ?_; (first | exact D_len _ _ | (simp; done))) | (refine PartAt.r ?_ ?_ <;> (first | exact D_len _ _ | (simp; done))) | (refine PartAt.all ?_; (first | exact D_len _ _ | (simp; done)))) (by rfl) ?_);exact Zq) ?_
      |refine R.Zpp (by rfl)
        (by intro _ _ _;refine st_callV (by rfl) (by rfl) (by rfl) (k6) (fun _ _ => trivial) (by rfl) ?_;exact Zq) ?_
      |refine R.Zpp (by rfl)
        (by intro _ _ _;refine st_callV (by rfl) (by rfl) (by rfl) (k7) (fun _ _ => trivial) (by rfl) ?_;exact Zq) ?_
      |refine R.Zpp (by rfl)
        (by intro _ _ _;refine st_callV (by rfl) (by rfl) (by rfl) (k8) (fun _ _ => trivial) (by rfl) ?_;exact Zq) ?_
      |refine R.Zps (by rfl)
        (by intro _ _ _;(first
        |refine Z29 ?_|refine Z30 ?_|refine Z31 ?_|refine Z32 ?_);exact Zqq) ?_
      |refine R.Zpn (by rfl)
        (by intro _ _ _;(first
        |refine Z81 fun _ => ?_|refine Z82 fun _ => ?_);exact R.Zpx) fun _ => ?_
      |refine R.Zpo (by rfl) ?_)
    refine R.Zp0 ?_
    repeat (first
      |refine Z01 ?_|refine Z02 ?_|refine Z03 ?_|refine Z04 ?_|refine Z05 ?_|refine Z06 ?_|refine Z07 ?_|refine Z08 ?_|refine Z09 ?_|refine Z10 ?_|refine Z11 ?_
      |refine Z12 ?_|refine Z13 ?_|refine Z14 ?_|refine Z24 ?_|refine Z25 ?_|refine Z26 ?_|refine Z27 ?_|refine Z28 ?_|refine Z29 ?_|refine Z30 ?_|refine Z31 ?_
      |refine Z32 ?_|refine Z49 ?_|refine Z50 ?_|refine Z51 ?_|refine Z52 ?_|refine Z53 ?_|refine Z65 ?_|refine Z67 ?_|refine Z77 ?_|refine Z78 ?_|refine Z79 ?_
      |refine Z81 fun _ => ?_|refine Z82 fun _ => ?_)
    refine st_endc3 (by rfl) (by rfl) (by rfl) (by rfl) (by repeat (first | apply Find.here | apply Find.there)) (by repeat (first | apply Find.here | apply Find.there)) (by rfl) (by rfl) (by first | with_reducible assumption | (simp [*]; done)) (by rfl) (by rfl) (by first | with_reducible assumption | (simp [*]; done)) fun _ hw => post_of hw SubW.nil ⟨?_, rfl⟩
    rfl
theorem thrd_none {x y v z : F2} (h1 : Kf.K2.mul y y = side x) (h2 : Kf.K2.mul z z = side v) (h : thrd x y v z = none) : Kf.K2.pa (some (phx x, phy x y)) (some (phx v, phy v z)) = none := by
  by_cases hx : x = v
  · subst hx
    have hy : ¬ (y = z ∧ y ≠ Kf.K2.zero) := fun hy => by
      rw [thrd, if_pos rfl, if_pos hy] at h
      cases h
    have hyz : y ≠ z := fun e => hy ⟨e, y_ne0 h1⟩
    have hs : Kf.K2.add y z = Kf.K2.zero := by
      have e : Kf.K2.mul (Kf.K2.sub y z) (Kf.K2.add y z) = Kf.K2.zero := Kf.K2.sq_diff (h1.trans h2.symm)
      exact (Kf.K2.mul_zero_or p_3 e).resolve_left fun e2 => hyz (Kf.K2.sub_zero_eq e2)
    refine Kf.K2.pa_deg p_3 rfl ?_
    rw [Kf.K2.add_zero_neg hs, phy_neg, Kf.K2.add_comm', Kf.K2.add_neg']
  · rw [thrd, if_neg hx] at h
    cases h
theorem thrd_some {x y v z : F2} {q : F2 × F2} (h1 : Kf.K2.mul y y = side x) (h2 : Kf.K2.mul z z = side v) (h : thrd x y v z = some q) :
    Kf.K2.mul q.2 q.2 = side q.1 ∧ Kf.K2.pa (some (phx x, phy x y)) (some (phx v, phy v z)) = some (phx q.1, phy q.1 q.2) := by
  by_cases hx : x = v
  · subst hx
    by_cases hy : y = z ∧ y ≠ Kf.K2.zero
    · rw [thrd, if_pos rfl, if_pos hy] at h
      cases h
      obtain ⟨hy1, hy2⟩ := hy
      subst hy1
      have hl : Kf.K2.SlT ac (Kf.K2.mul (Kf.K2.add (Kf.K2.q3 x x) ac) (Kf.K2.inv (Kf.K2.add y y))) x y x y := Kf.K2.tangT ((Kf.K2.mul_inv2 p_3 (Kf.K2.dbl_ne p_3 hy2)).trans Kf.K2.ofZ_1.symm)
      exact ⟨on_third h1 hl, iso_hom h1 h1 hl⟩
    · rw [thrd, if_pos rfl, if_neg hy] at h
      cases h
  · rw [thrd, if_neg hx] at h
    cases h
    have hd : Kf.K2.sub v x ≠ Kf.K2.zero := fun e => hx (Kf.K2.sub_zero_eq e).symm
    have g1 := h1
    have g2 := h2
    rw [side_eq] at g1 g2
    have hl := Kf.K2.chordT p_3 hx ((Kf.K2.mul_inv2 p_3 hd).trans Kf.K2.ofZ_1.symm) g1 g2
    exact ⟨on_third h1 hl, iso_hom h1 h2 hl⟩
set_option maxHeartbeats 8000000 in
theorem lawSums18_spec (y : List Nat) (n1 : y.length = 12) (h1 : Lt 18446744073709551616 y) (z : List Nat) (n2 : z.length = 12) (h2 : Lt 18446744073709551616 z) :
    Spec Try.prog 11 [LV .u64 y, LV .u64 z] NoPre [] (IsV (.bool true)) := by
  obtain ⟨a, b, ha, hb, rfl⟩ := arr12 n1 h1
  obtain ⟨e, f, he, hf, rfl⟩ := arr12 n2 h2
  refine mk_spec Try.func11 rfl rfl rfl fun w hr => ?_
  have hl0 := fun x => D_len 6 x
  have hle := fun x : F2 => E2_len x
  have hm := map_spec ha hb
  have hn := map_spec he hf
  have ho := mapP_on (k2 a b)
  have hq := mapP_on (k2 e f)
  generalize mapP (k2 a b) = r at hm ho
  generalize mapP (k2 e f) = s at hn hq
  obtain ⟨x, y⟩ := r
  obtain ⟨v, z⟩ := s
  simp only at hm ho hn hq
  have k1 := isoT ho
  have k2 := isoT hq
  have k3 := gaddE (some (phx x, phy x y)) (some (phx v, phy v z))
  cases ht : thrd x y v z with
  | none =>
    rw [thrd_none ho hq ht, GV_none, GV_some, GV_some] at k3
    have k4 := third_none ht
    generalize phx x = c1 at k1 k3
    generalize phy x y = c2 at k1 k3
    generalize phx v = c3 at k2 k3
    generalize phy v z = c4 at k2 k3
    repeat (first
      
      |((refine st_eqGv (m := 6) (hr := geq_same _ _ _) (by rfl) (by rfl) (by rfl) (by kernel_rfl) (by rfl) (by rfl) (by rfl) (by rfl) (by rfl) (by rfl) (by rfl) (by rfl) (by rfl) (by rfl) (by rfl) (by kernel_rfl) (by rfl) (by rfl) (by rfl) (by rfl) (by rfl) (by rfl) (by rfl) (by rfl) (by rfl) (by rfl) (by kernel_rfl) (by first | exact D_len _ _ | (simp; done)) (by first | exact D_len _ _ | (simp; done)) (by first | exact D_len _ _ | (simp; done)) (by first | exact D_len _ _ | (simp; done)) (by first | exact D_len _ _ | (simp; done)) (by first | exact D_len _ _ | (simp; done)) (by first | exact D_len _ _ | (simp; done)) (by first | exact D_len _ _ | (simp; done)) (by rfl) ?_))
      |(refine st_alloc (v := LV .u64 (List.replicate 12 0)) (by rfl) (by rfl) fun _ => ?_)
      |(refine st_alloc (v := GL (List.replicate 24 0) false) (by kernel_rfl) (by rfl) fun _ => ?_)
      |(refine st_load_GL (m := 24) (by rfl) (by repeat (first | apply Find.here | apply Find.there)) (by rfl) (by rfl) (by first | with_reducible assumption | (simp; done)) (by rfl) ?_)
      |((refine st_buildGi (m := 12) (by rfl) (by rfl) (by kernel_rfl) (by rfl) (by rfl) ?_; rw [zero24']))
      |(refine st_callV (by rfl) (by rfl) (by rfl) (awake18_spec) (fun _ _ => trivial) (by rfl) ?_)
      |(refine st_callV (by rfl) (by rfl) (by rfl) (hm) (fun _ _ => trivial) (by rfl) ?_)
      |(refine st_callV (by rfl) (by rfl) (by rfl) (hn) (fun _ _ => trivial) (by rfl) ?_)
      |(refine st_callV (by rfl) (by rfl) (by rfl) (k4) (fun _ _ => trivial) (by rfl) ?_)|refine Z01 ?_|refine Z02 ?_|refine Z03 ?_|refine Z04 ?_|refine Z05 ?_
      |refine Z06 ?_|refine Z07 ?_|refine Z08 ?_|refine Z09 ?_|refine Z10 ?_|refine Z11 ?_|refine Z12 ?_|refine Z13 ?_|refine Z14 ?_|refine Z19 ?_|refine Z24 ?_
      |refine Z25 ?_|refine Z26 ?_|refine Z27 ?_|refine Z28 ?_|refine Z29 ?_|refine Z30 ?_|refine Z31 ?_|refine Z32 ?_|refine Z49 ?_|refine Z50 ?_|refine Z51 ?_
      |refine Z52 ?_|refine Z53 ?_|refine Z54 ?_|refine Z65 ?_|refine Z67 ?_|refine Z77 ?_|refine Z78 ?_|refine Z79 ?_|refine Z81 fun _ => ?_|refine Z82 fun _ => ?_)
    refine R.st_perm [0, 1, 2, 3, 4, 5, 6, 7, 8] (by rfl) ?_
    repeat (first
      |refine R.Zpf (by rfl)
        (by intro _ _ _;(first
        
        |(refine st_fld (by rfl) (by first | exact (show _ = some (0, 6) from rfl) | exact (show _ = some (6, 6) from rfl) | exact (show _ = some (0, 12) from rfl) | exact (show _ = some (12, 12) from rfl) | exact (show _ = some (24, 1) from rfl)) (by rfl) (by rfl) ?_)
        |(refine st_build2 (by rfl) (by rfl) (by rfl) (by rfl) (by first | exact D_len _ _ | (simp; done)) (by first | exact D_len _ _ | (simp; done)) (by rfl) ?_)
        |(refine st_build2a (by rfl) (by rfl) (by rfl) (by rfl) (by first | exact D_len _ _ | (simp; done)) (by rfl) ?_)
        |(refine st_build2b (by rfl) (by rfl) (by rfl) (by rfl) (by first | exact D_len _ _ | (simp; done)) (by rfl) ?_)
        |(refine st_build20 (by rfl) (by rfl) (by rfl) (by rfl) ?_)
        |(refine st_eq2 (by rfl) (by rfl) (by rfl) (by kernel_rfl) (by rfl) (by rfl) (by rfl) (by rfl) (by rfl) (by rfl) (by rfl) (by rfl) (by rfl) (by rfl) (by kernel_rfl) (by first | exact D_len _ _ | (simp; done)) (by first | exact D_len _ _ | (simp; done)) (by first | exact D_len _ _ | (simp; done)) (by first | exact D_len _ _ | (simp; done)) (by rfl) ?_)
        |(refine st_ne2 (by rfl) (by rfl) (by rfl) (by kernel_rfl) (by rfl) (by rfl) (by rfl) (by rfl) (by rfl) (by rfl) (by rfl) (by rfl) (by rfl) (by rfl) (by kernel_rfl) (by first | exact D_len _ _ | (simp; done)) (by first | exact D_len _ _ | (simp; done)) (by first | exact D_len _ _ | (simp; done)) (by first | exact D_len _ _ | (simp; done)) (by rfl) ?_)
        |(refine st_fieldLV (by rfl) (by first | exact (show _ = some (0, 6) from rfl) | exact (show _ = some (6, 6) from rfl) | exact (show _ = some (0, 12) from rfl) | exact (show _ = some (12, 12) from rfl) | exact (show _ = some (24, 1) from rfl)) (by first | (refine PartAt.l ?_; (first | exact D_len _ _ | (simp; done))) | (refine PartAt.r ?_ ?_ <;> (first | exact D_len _ _ | (simp; done))) | (refine PartAt.all ?_; (first | exact D_len _ _ | (simp; done)))) (by rfl) (by rfl) ?_)
        |refine Z01 ?_|refine Z02 ?_|refine Z19 ?_|refine Z49 ?_|refine Z50 ?_|refine Z54 ?_|refine Z65 ?_|refine Z77 ?_|refine Z78 ?_|refine Z79 ?_);exact Zq) ?_
      |refine R.Zpp (by rfl)
        (by intro _ _ _;(first
        |refine Z24 ?_|refine Z25 ?_|refine Z26 ?_|refine Z27 ?_|refine Z28 ?_|refine Z67 ?_);exact Zq) ?_
      |refine R.Zpp (by rfl)
        (by intro _ _ _;(refine st_ldp (by rfl) (by repeat (first | apply Find.here | apply Find.there)) (by rfl) (by rfl) (by first | (refine PartAt.l ?_; (first | exact D_len _ _ | (simp; done))) | (refine PartAt.r ?_ ?_ <;> (first | exact D_len _ _ | (simp; done))) | (refine PartAt.all ?_; (first | exact D_len _ _ | (simp; done)))) (by rfl) ?_);exact Zq) ?_
      |refine R.Zpp (by rfl)
        (by intro _ _ _;refine st_callV (by rfl) (by rfl) (by rfl) (k1) (fun _ _ => trivial) (by rfl) ?_;exact Zq) ?_
      |refine R.Zpp (by rfl)
        (by intro _ _ _;refine st_callV (by rfl) (by rfl) (by rfl) (k2) (fun _ _ => trivial) (by rfl) ?_;exact Zq) ?_
      |refine R.Zpp (by rfl)
        (by intro _ _ _;refine st_callV (by rfl) (by rfl) (by rfl) (k3) (fun _ _ => trivial) (by rfl) ?_;exact Zq) ?_
      |refine R.Zps (by rfl)
        (by intro _ _ _;(first
        |refine Z29 ?_|refine Z30 ?_|refine Z31 ?_|refine Z32 ?_);exact Zqq) ?_
      |refine R.Zps (by rfl)
        (by intro _ _ _;refine st_store_GL (m := 24) (by rfl) (by rfl) (by repeat (first | apply Find.here | apply Find.there)) (by rfl) (by first | with_reducible assumption | (simp; done)) (by first | with_reducible assumption | (simp; done)) ?_;exact Zqq) ?_
      |refine R.Zpb (by rfl)
        (by intro _ _ _;refine st_alloc (v := GL (List.replicate 24 0) false) (by kernel_rfl) (by rfl) fun _ => ?_;exact R.Zpbx) fun _ => ?_
      |refine R.Zpn (by rfl)
        (by intro _ _ _;(first
        |refine Z81 fun _ => ?_|refine Z82 fun _ => ?_);exact R.Zpx) fun _ => ?_
      |refine R.Zpo (by rfl) ?_)
    refine R.Zp0 ?_
    repeat (first
      
      |((refine st_eqGv (m := 6) (hr := geq_same _ _ _) (by rfl) (by rfl) (by rfl) (by kernel_rfl) (by rfl) (by rfl) (by rfl) (by rfl) (by rfl) (by rfl) (by rfl) (by rfl) (by rfl) (by rfl) (by rfl) (by kernel_rfl) (by rfl) (by rfl) (by rfl) (by rfl) (by rfl) (by rfl) (by rfl) (by rfl) (by rfl) (by rfl) (by kernel_rfl) (by first | exact D_len _ _ | (simp; done)) (by first | exact D_len _ _ | (simp; done)) (by first | exact D_len _ _ | (simp; done)) (by first | exact D_len _ _ | (simp; done)) (by first | exact D_len _ _ | (simp; done)) (by first | exact D_len _ _ | (simp; done)) (by first | exact D_len _ _ | (simp; done)) (by first | exact D_len _ _ | (simp; done)) (by rfl) ?_))
      |(refine st_load_GL (m := 24) (by rfl) (by repeat (first | apply Find.here | apply Find.there)) (by rfl) (by rfl) (by first | with_reducible assumption | (simp; done)) (by rfl) ?_)
      |((refine st_buildGi (m := 12) (by rfl) (by rfl) (by kernel_rfl) (by rfl) (by rfl) ?_; rw [zero24']))|refine Z01 ?_|refine Z02 ?_|refine Z03 ?_|refine Z04 ?_
      |refine Z05 ?_|refine Z06 ?_|refine Z07 ?_|refine Z08 ?_|refine Z09 ?_|refine Z10 ?_|refine Z11 ?_|refine Z12 ?_|refine Z13 ?_|refine Z14 ?_|refine Z19 ?_
      |refine Z24 ?_|refine Z25 ?_|refine Z26 ?_|refine Z27 ?_|refine Z28 ?_|refine Z29 ?_|refine Z30 ?_|refine Z31 ?_|refine Z32 ?_|refine Z49 ?_|refine Z50 ?_
      |refine Z51 ?_|refine Z52 ?_|refine Z53 ?_|refine Z54 ?_|refine Z65 ?_|refine Z67 ?_|refine Z77 ?_|refine Z78 ?_|refine Z79 ?_|refine Z81 fun _ => ?_
      |refine Z82 fun _ => ?_)
    refine Ze1 fun _ hw => post_of hw SubW.nil ⟨?_, rfl⟩
    rfl
  | some q =>
    have k4 := third_some ht
    obtain ⟨hq1, hq2⟩ := thrd_some ho hq ht
    rw [hq2, GV_some, GV_some, GV_some] at k3
    obtain ⟨q1, q2⟩ := q
    simp only at hq1 hq2 k3 k4
    have k5 := onT hq1
    have k6 := isoT hq1
    generalize phx x = c1 at k1 k3
    generalize phy x y = c2 at k1 k3
    generalize phx v = c3 at k2 k3
    generalize phy v z = c4 at k2 k3
    generalize phx q1 = c5 at k6 k3
    generalize phy q1 q2 = c6 at k6 k3
    repeat (first
      |(refine st_alloc (v := LV .u64 (List.replicate 12 0)) (by rfl) (by rfl) fun _ => ?_)
      |(refine st_alloc (v := GL (List.replicate 24 0) false) (by kernel_rfl) (by rfl) fun _ => ?_)
      |(refine st_callV (by rfl) (by rfl) (by rfl) (awake18_spec) (fun _ _ => trivial) (by rfl) ?_)
      |(refine st_callV (by rfl) (by rfl) (by rfl) (hm) (fun _ _ => trivial) (by rfl) ?_)
      |(refine st_callV (by rfl) (by rfl) (by rfl) (hn) (fun _ _ => trivial) (by rfl) ?_)
      |(refine st_callV (by rfl) (by rfl) (by rfl) (k4) (fun _ _ => trivial) (by rfl) ?_)|refine Z01 ?_|refine Z02 ?_|refine Z03 ?_|refine Z04 ?_|refine Z05 ?_
      |refine Z06 ?_|refine Z07 ?_|refine Z08 ?_|refine Z09 ?_|refine Z10 ?_|refine Z11 ?_|refine Z12 ?_|refine Z13 ?_|refine Z14 ?_|refine Z19 ?_|refine Z24 ?_
      |refine Z25 ?_|refine Z26 ?_|refine Z27 ?_|refine Z28 ?_|refine Z29 ?_|refine Z30 ?_|refine Z31 ?_|refine Z32 ?_|refine Z49 ?_|refine Z50 ?_|refine Z51 ?_
      |refine Z52 ?_|refine Z53 ?_|refine Z54 ?_|refine Z65 ?_|refine Z67 ?_|refine Z77 ?_|refine Z78 ?_|refine Z79 ?_|refine Z81 fun _ => ?_|refine Z82 fun _ => ?_)
    refine R.st_perm [0, 1, 2, 3, 4, 5, 6, 7, 8] (by rfl) ?_
    repeat (first
      |refine R.Zpf (by rfl)
        (by intro _ _ _;(first
        
        |(refine st_fld (by rfl) (by first | exact (show _ = some (0, 6) from rfl) | exact (show _ = some (6, 6) from rfl) | exact (show _ = some (0, 12) from rfl) | exact (show _ = some (12, 12) from rfl) | exact (show _ = some (24, 1) from rfl)) (by rfl) (by rfl) ?_)
        |(refine st_build2 (by rfl) (by rfl) (by rfl) (by rfl) (by first | exact D_len _ _ | (simp; done)) (by first | exact D_len _ _ | (simp; done)) (by rfl) ?_)
        |(refine st_build2a (by rfl) (by rfl) (by rfl) (by rfl) (by first | exact D_len _ _ | (simp; done)) (by rfl) ?_)
        |(refine st_build2b (by rfl) (by rfl) (by rfl) (by rfl) (by first | exact D_len _ _ | (simp; done)) (by rfl) ?_)
        |(refine st_build20 (by rfl) (by rfl) (by rfl) (by rfl) ?_)
        |(refine st_eq2 (by rfl) (by rfl) (by rfl) (by kernel_rfl) (by rfl) (by rfl) (by rfl) (by rfl) (by rfl) (by rfl) (by rfl) (by rfl) (by rfl) (by rfl) (by kernel_rfl) (by first | exact D_len _ _ | (simp; done)) (by first | exact D_len _ _ | (simp; done)) (by first | exact D_len _ _ | (simp; done)) (by first | exact D_len _ _ | (simp; done)) (by rfl) ?_)
        |(refine st_ne2 (by rfl) (by rfl) (by rfl) (by kernel_rfl) (by rfl) (by rfl) (by rfl) (by rfl) (by rfl) (by rfl) (by rfl) (by rfl) (by rfl) (by rfl) (by kernel_rfl) (by first | exact D_len _ _ | (simp; done)) (by first | exact D_len _ _ | (simp; done)) (by first | exact D_len _ _ | (simp; done)) (by first | exact D_len _ _ | (simp; done)) (by rfl) ?_)
        |(refine st_fieldLV (by rfl) (by first | exact (show _ = some (0, 6) from rfl) | exact (show _ = some (6, 6) from rfl) | exact (show _ = some (0, 12) from rfl) | exact (show _ = some (12, 12) from rfl) | exact (show _ = some (24, 1) from rfl)) (by first | (refine PartAt.l ?_; (first | exact D_len _ _ | (simp; done))) | (refine PartAt.r ?_ ?_ <;> (first | exact D_len _ _ | (simp; done))) | (refine PartAt.all ?_; (first | exact D_len _ _ | (simp; done)))) (by rfl) (by rfl) ?_)
        |refine Z01 ?_|refine Z02 ?_|refine Z19 ?_|refine Z49 ?_|refine Z50 ?_|refine Z54 ?_|refine Z65 ?_|refine Z77 ?_|refine Z78 ?_|refine Z79 ?_);exact Zq) ?_
      |refine R.Zpp (by rfl)
        (by intro _ _ _;(first
        |refine Z24 ?_|refine Z25 ?_|refine Z26 ?_|refine Z27 ?_|refine Z28 ?_|refine Z67 ?_);exact Zq) ?_
      |refine R.Zpp (by rfl)
        (by intro _ _ _;(refine st_ldp (by rfl) (by repeat (first | apply Find.here | apply Find.there)) (by rfl) (by rfl) (by first | (refine PartAt.l ?_; (first | exact D_len _ _ | (simp; done))) | (refine PartAt.r ?_ ?_ <;> (first | exact D_len _ _ | (simp; done))) | (refine PartAt.all ?_; (first | exact D_len _ _ | (simp; done)))) (by rfl) ?_);exact Zq) ?_
      |refine R.Zpp (by rfl)
        (by intro _ _ _;refine st_callV (by rfl) (by rfl) (by rfl) (k1) (fun _ _ => trivial) (by rfl) ?_;exact Zq) ?_
      |refine R.Zpp (by rfl)
        (by intro _ _ _;refine st_callV (by rfl) (by rfl) (by rfl) (k2) (fun _ _ => trivial) (by rfl) ?_;exact Zq) ?_
      |refine R.Zpp (by rfl)
        (by intro _ _ _;refine st_callV (by rfl) (by rfl) (by rfl) (k3) (fun _ _ => trivial) (by rfl) ?_;exact Zq) ?_
      |refine R.Zps (by rfl)
        (by intro _ _ _;(first
        |refine Z29 ?_|refine Z30 ?_|refine Z31 ?_|refine Z32 ?_);exact Zqq) ?_
      |refine R.Zps (by rfl)
        (by intro _ _ _;refine st_store_GL (m := 24) (by rfl) (by rfl) (by repeat (first | apply Find.here | apply Find.there)) (by rfl) (by first | with_reducible assumption | (simp; done)) (by first | with_reducible assumption | (simp; done)) ?_;exact Zqq) ?_
      |refine R.Zpb (by rfl)
        (by intro _ _ _;refine st_alloc (v := GL (List.replicate 24 0) false) (by kernel_rfl) (by rfl) fun _ => ?_;exact R.Zpbx) fun _ => ?_
      |refine R.Zpn (by rfl)
        (by intro _ _ _;(first
        |refine Z81 fun _ => ?_|refine Z82 fun _ => ?_);exact R.Zpx) fun _ => ?_
      |refine R.Zpo (by rfl) ?_)
    refine R.Zp0 ?_
    repeat (first
      |refine Z01 ?_|refine Z02 ?_|refine Z03 ?_|refine Z04 ?_|refine Z05 ?_|refine Z06 ?_|refine Z07 ?_|refine Z08 ?_|refine Z09 ?_|refine Z10 ?_|refine Z11 ?_
      |refine Z12 ?_|refine Z13 ?_|refine Z14 ?_|refine Z19 ?_|refine Z24 ?_|refine Z25 ?_|refine Z26 ?_|refine Z27 ?_|refine Z28 ?_|refine Z29 ?_|refine Z30 ?_
      |refine Z31 ?_|refine Z32 ?_|refine Z49 ?_|refine Z50 ?_|refine Z51 ?_|refine Z52 ?_|refine Z53 ?_|refine Z54 ?_|refine Z65 ?_|refine Z67 ?_|refine Z77 ?_
      |refine Z78 ?_|refine Z79 ?_|refine Z81 fun _ => ?_|refine Z82 fun _ => ?_)
    refine st_draw1 (by rfl) ?_
    repeat (first
      |refine Zqf (by intro _ _ _;(first
        
        |((refine st_eqGv (m := 6) (hr := geq_same _ _ _) (by rfl) (by rfl) (by rfl) (by kernel_rfl) (by rfl) (by rfl) (by rfl) (by rfl) (by rfl) (by rfl) (by rfl) (by rfl) (by rfl) (by rfl) (by rfl) (by kernel_rfl) (by rfl) (by rfl) (by rfl) (by rfl) (by rfl) (by rfl) (by rfl) (by rfl) (by rfl) (by rfl) (by kernel_rfl) (by first | exact D_len _ _ | (simp; done)) (by first | exact D_len _ _ | (simp; done)) (by first | exact D_len _ _ | (simp; done)) (by first | exact D_len _ _ | (simp; done)) (by first | exact D_len _ _ | (simp; done)) (by first | exact D_len _ _ | (simp; done)) (by first | exact D_len _ _ | (simp; done)) (by first | exact D_len _ _ | (simp; done)) (by rfl) ?_))
        |(refine st_fld (by rfl) (by first | exact (show _ = some (0, 6) from rfl) | exact (show _ = some (6, 6) from rfl) | exact (show _ = some (0, 12) from rfl) | exact (show _ = some (12, 12) from rfl) | exact (show _ = some (24, 1) from rfl)) (by rfl) (by rfl) ?_)
        |(refine st_build2 (by rfl) (by rfl) (by rfl) (by rfl) (by first | exact D_len _ _ | (simp; done)) (by first | exact D_len _ _ | (simp; done)) (by rfl) ?_)
        |(refine st_build2a (by rfl) (by rfl) (by rfl) (by rfl) (by first | exact D_len _ _ | (simp; done)) (by rfl) ?_)
        |(refine st_build2b (by rfl) (by rfl) (by rfl) (by rfl) (by first | exact D_len _ _ | (simp; done)) (by rfl) ?_)
        |(refine st_build20 (by rfl) (by rfl) (by rfl) (by rfl) ?_)
        |(refine st_eq2 (by rfl) (by rfl) (by rfl) (by kernel_rfl) (by rfl) (by rfl) (by rfl) (by rfl) (by rfl) (by rfl) (by rfl) (by rfl) (by rfl) (by rfl) (by kernel_rfl) (by first | exact D_len _ _ | (simp; done)) (by first | exact D_len _ _ | (simp; done)) (by first | exact D_len _ _ | (simp; done)) (by first | exact D_len _ _ | (simp; done)) (by rfl) ?_)
        |(refine st_ne2 (by rfl) (by rfl) (by rfl) (by kernel_rfl) (by rfl) (by rfl) (by rfl) (by rfl) (by rfl) (by rfl) (by rfl) (by rfl) (by rfl) (by rfl) (by kernel_rfl) (by first | exact D_len _ _ | (simp; done)) (by first | exact D_len _ _ | (simp; done)) (by first | exact D_len _ _ | (simp; done)) (by first | exact D_len _ _ | (simp; done)) (by rfl) ?_)
        |(refine st_fieldLV (by rfl) (by first | exact (show _ = some (0, 6) from rfl) | exact (show _ = some (6, 6) from rfl) | exact (show _ = some (0, 12) from rfl) | exact (show _ = some (12, 12) from rfl) | exact (show _ = some (24, 1) from rfl)) (by first | (refine PartAt.l ?_; (first | exact D_len _ _ | (simp; done))) | (refine PartAt.r ?_ ?_ <;> (first | exact D_len _ _ | (simp; done))) | (refine PartAt.all ?_; (first | exact D_len _ _ | (simp; done)))) (by rfl) (by rfl) ?_)
        |refine Z01 ?_|refine Z02 ?_|refine Z19 ?_|refine Z49 ?_|refine Z50 ?_|refine Z54 ?_|refine Z65 ?_|refine Z77 ?_|refine Z78 ?_|refine Z79 ?_);exact Zq) ?_
      |refine Zqp (by intro _ _ _;(refine st_ldp (by rfl) (by repeat (first | apply Find.here | apply Find.there)) (by rfl) (by rfl) (by first | (refine PartAt.l ?_; (first | exact D_len _ _ | (simp; done))) | (refine PartAt.r ?_ ?_ <;> (first | exact D_len _ _ | (simp; done))) | (refine PartAt.all ?_; (first | exact D_len _ _ | (simp; done)))) (by rfl) ?_);exact Zq) ?_
      |refine Zqp (by intro _ _ _;refine st_load_GL (m := 24) (by rfl) (by repeat (first | apply Find.here | apply Find.there)) (by rfl) (by rfl) (by first | with_reducible assumption | (simp; done)) (by rfl) ?_;exact Zq) ?_
      |refine Zqp (by intro _ _ _;refine st_callV (by rfl) (by rfl) (by rfl) (k5) (fun _ _ => trivial) (by rfl) ?_;exact Zq) ?_
      |refine Zqp (by intro _ _ _;refine st_callV (by rfl) (by rfl) (by rfl) (k6) (fun _ _ => trivial) (by rfl) ?_;exact Zq) ?_
      |refine Zqp (by intro _ _ _;(first
        |refine Z24 ?_|refine Z25 ?_|refine Z26 ?_|refine Z27 ?_|refine Z28 ?_|refine Z67 ?_);exact Zq) ?_
      |refine Zqe (by intro _ _ _;(first
        |refine Z29 ?_|refine Z30 ?_|refine Z31 ?_|refine Z32 ?_);exact Zqq) ?_
      |refine Zqn ?_)
    refine Zq0 ?_ (by kernel_rfl)
    repeat (first
      |refine Z01 ?_|refine Z02 ?_|refine Z03 ?_|refine Z04 ?_|refine Z05 ?_|refine Z06 ?_|refine Z07 ?_|refine Z08 ?_|refine Z09 ?_|refine Z10 ?_|refine Z11 ?_
      |refine Z12 ?_|refine Z13 ?_|refine Z14 ?_|refine Z19 ?_|refine Z24 ?_|refine Z25 ?_|refine Z26 ?_|refine Z27 ?_|refine Z28 ?_|refine Z29 ?_|refine Z30 ?_
      |refine Z31 ?_|refine Z32 ?_|refine Z49 ?_|refine Z50 ?_|refine Z51 ?_|refine Z52 ?_|refine Z53 ?_|refine Z54 ?_|refine Z65 ?_|refine Z67 ?_|refine Z77 ?_
      |refine Z78 ?_|refine Z79 ?_|refine Z81 fun _ => ?_|refine Z82 fun _ => ?_)
    refine Ze1 fun _ hw => post_of hw SubW.nil ⟨?_, rfl⟩
    rfl
end Go.Proofs.Ytbpmbdlgmmabcaa.L
namespace Go.Proofs.Ytbpmbdlgmmabcaa.L
open Go Go.Proofs
variable {P : Program}
theorem nat_of_has {k : IntKind} {m : Nat} (hk : ub k = some m) {x : Int} (h : k.has x) : ∃ y : Nat, x = Int.ofNat y ∧ y < m := by
  have : 0 ≤ x ∧ x < (m : Int) := by
    cases k <;> simp [ub] at hk <;> subst hk <;> simp [IntKind.has, IntKind.min, IntKind.max, IntKind.signed, IntKind.bits] at h ⊢ <;> omega
  exact ⟨x.toNat, by show x = ((x.toNat : Nat) : Int); omega, by omega⟩
/-- An array, or a struct of arrays, of numbers of one kind. -/
theorem okWide_LV {k : IntKind} {m n : Nat} {t e : TypeId} {w : World} {r : Reach} {base : Nat} {v : Value} (hk : ub k = some m) (hs : aggT P t = true) (hcell : P.cellTypes P.depth t = some (List.replicate n e))
    (he : P.underlying e = some (.int k)) (hc : P.cellsOf t = n) (h : Value.okWide P w r base t v) : ∃ ys : List Nat, v = LV k ys ∧ ys.length = n ∧ ∀ x ∈ ys, x < m := by
  have h' : ∃ cs, v = .agg cs ∧ cs.size = P.cellsOf t ∧ Row.okWide P w r base t cs := by
    unfold aggT at hs
    unfold Value.okWide at h
    cases hu : P.underlying t with
    | none => rw [hu] at hs; simp at hs
    | some d =>
      rw [hu] at hs h
      cases d <;> simp at hs <;> simpa using h
  obtain ⟨cs, rfl, hcs, ts, hts, _, hrow⟩ := h'
  rw [hcell] at hts; cases hts
  have key : ∀ l : List Value, (∀ (i : Nat) (v : Value), l[i]? = some v → ∃ y : Nat, v = N k y ∧ y < m) → ∃ ys : List Nat, l = ys.map (N k) ∧ ∀ x ∈ ys, x < m := by
    intro l
    induction l with
    | nil => intro _; exact ⟨[], rfl, by simp⟩
    | cons v l ih =>
      intro hl
      obtain ⟨ys, h1, h2⟩ := ih (fun i v hv => hl (i + 1) v (by simpa using hv))
      obtain ⟨y, h3, h4⟩ := hl 0 v rfl
      exact ⟨y :: ys, by simp [h1, h3], by simpa using ⟨h4, h2⟩⟩
  obtain ⟨ys, h1, h2⟩ := key cs.toList (fun i v hv => by
    obtain ⟨u, hu, hok⟩ := hrow i v (by simpa using hv)
    have hu' : u = e := by
      rw [List.getElem?_replicate] at hu
      split at hu
      · exact (Option.some.inj hu).symm
      · cases hu
    subst hu'
    unfold Cell.okWide Cell.ok at hok
    rw [he] at hok
    cases v <;> simp at hok
    obtain ⟨rfl, hok⟩ := hok
    obtain ⟨y, hy, hlt⟩ := nat_of_has hk hok
    exact ⟨y, by rw [hy], hlt⟩)
  refine ⟨ys, ?_, ?_, h2⟩
  · unfold LV; rw [← h1]
  · have := congrArg List.length h1
    simp at this; omega
theorem post_bool {w w' : World} {e : Ending} (h : PostR (IsV (.bool true)) [] w e w') : e = .returned (.bool true) ∧ RowKit.Below w.heap.size w w' := by
  obtain ⟨v, Wout, ⟨rfl, _⟩, he, hx, _⟩ := h
  exact ⟨he, hx.below⟩
end Go.Proofs.Ytbpmbdlgmmabcaa.L
