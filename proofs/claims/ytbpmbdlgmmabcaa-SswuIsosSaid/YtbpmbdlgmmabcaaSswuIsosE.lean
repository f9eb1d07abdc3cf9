/- What the proof of the statement about SswuIsos stands on, part E. Conditions: as each statement says. -/
import Derived.Test.YtbpmbdlgmmabcaaSswuIsosD
import Derived.Below
import Derived.Laws.Externs
import Derived.Laws.Strings
import Derived.Laws.StructEq
import Derived.Orders
import Derived.ProofKit
import Derived.Scope
import Derived.Tactics
import Derived.Test.YtbpmbdlgmmabcaaProg
import Derived.WalkKit
namespace Go.Proofs.Ytbpmbdlgmmabcaa.L
open Go Go.Proofs
set_option maxRecDepth 100000
attribute [local irreducible] Code.wp wpList Af bodyPost L.Go
open Num
attribute [local simp] D_len
def Q2z : List F2 := [c20, c21, c22, Kf.K2.zero]
theorem zz12E : ([0, 0, 0, 0, 0, 0] ++ List.replicate (6 - [0, 0, 0, 0, 0, 0].length) 0) ++ ([0, 0, 0, 0, 0, 0] ++ List.replicate (6 - [0, 0, 0, 0, 0, 0].length) 0) = E2 (Kf.K2.zero : F2) := by decide +kernel
theorem pol_Q2z (x : F2) : pol x Q2z = pol x Q2 := by
  rw [show pol x Q2z = Kf.K2.add (Kf.K2.mul (Kf.K2.add (Kf.K2.mul (Kf.K2.add (Kf.K2.mul (Kf.K2.add (Kf.K2.mul Kf.K2.zero x) Kf.K2.zero) x) c22) x) c21) x) c20 from rfl, show pol x Q2 = Kf.K2.add (Kf.K2.mul (Kf.K2.add (Kf.K2.mul (Kf.K2.add (Kf.K2.mul Kf.K2.zero x) c22) x) c21) x) c20 from rfl, Kf.K2.zero_mul2, Kf.K2.zero_add', Kf.K2.zero_mul2]
theorem flatM12 {l : List (List Nat)} (h : ∀ v ∈ l, v.length = 12) : l.flatten.length = l.length * 12 := by
  induction l with
  | nil => rfl
  | cons a r ih =>
    rw [List.flatten_cons, List.length_append, ih fun v hv => h v (List.mem_cons_of_mem _ hv), h a (List.mem_cons_self ..), List.length_cons]
    omega
def numL (w : Nat) : List F2 := if w = 1 then Q1 else Q3
def undL (w : Nat) : List F2 := if w = 2 then Q2z else Q4
set_option maxHeartbeats 8000000 in
theorem rnum_spec (wh k : Nat) (hk : k < 4) (c : F2) (hc : (numL wh)[k]? = some c) : Spec Try.prog 120 [N .i64 wh, N .i64 k] NoPre [] (IsV (LV .u64 (E2 c))) := by
  refine mk_spec Try.func120 rfl rfl rfl fun w _ => ?_
  have hle := fun x : F2 => E2_len x
  have hE1 : ∀ v ∈ Q1.map E2, v.length = 12 := poly_len
  have hE2 : ∀ v ∈ Q3.map E2, v.length = 12 := poly_len
  have hL1 : (Q1.map E2).flatten.length = 48 := flatM12 hE1
  have hL2 : (Q3.map E2).flatten.length = 48 := flatM12 hE2
  repeat (first
    |(refine st_alloc (v := LV .u64 (List.replicate 12 0)) (by rfl) (by rfl) fun _ => ?_)
    |((refine st_store_LV (m := 48) (by rfl) (by rfl) (by repeat (first | apply Find.here | apply Find.there)) (by rfl) (by simp) hL1 ?_))
    |((refine st_store_LV (m := 48) (by rfl) (by rfl) (by repeat (first | apply Find.here | apply Find.there)) (by rfl) (by simp) hL2 ?_))
    |((refine st_alloc (v := LV .u64 (List.replicate 48 0)) (by kernel_rfl) (by rfl) fun _ => ?_))
    |(refine st_buildC (m := 6) (kk := .u64) (by rfl) (by rfl) (by rfl) (by rfl) (by rfl) (by rfl) (by rfl) (by rfl) ?_)
    |((refine st_build2 (by rfl) (by rfl) (by rfl) (by rfl) (by first | exact D_len _ _ | (simp; done)) (by first | exact D_len _ _ | (simp; done)) (by rfl) ?_; first | rw [c10E] | rw [c11E] | rw [c12E] | rw [c13E] | rw [c20E] | rw [c21E] | rw [c22E] | rw [c30E] | rw [c31E] | rw [c32E] | rw [c33E] | rw [c40E] | rw [c41E] | rw [c42E] | rw [zz12E]))
    |((refine st_buildM (k := 4) (m := 12) (kk := .u64) (vss := Q1.map E2) (by rfl) (by kernel_rfl) (by rfl) (by rfl) (by rfl) (by rfl) poly_len (by rfl) ?_))
    |((refine st_buildM (k := 4) (m := 12) (kk := .u64) (vss := Q3.map E2) (by rfl) (by kernel_rfl) (by rfl) (by rfl) (by rfl) (by rfl) poly_len (by rfl) ?_))
    |refine Z01 ?_|refine Z03 ?_|refine Z04 ?_|refine Z05 ?_|refine Z06 ?_|refine Z07 ?_|refine Z08 ?_|refine Z09 ?_|refine Z10 ?_|refine Z11 ?_|refine Z12 ?_
    |refine Z13 ?_|refine Z14 ?_|refine Z17 ?_|refine Z18 ?_|refine Z22 ?_|refine Z23 ?_|refine Z24 ?_|refine Z25 ?_|refine Z26 ?_|refine Z27 ?_|refine Z28 ?_
    |refine Z29 ?_|refine Z30 ?_|refine Z31 ?_|refine Z32 ?_|refine Z65 ?_|refine Z67 ?_|refine Z82 fun _ => ?_)
  refine st_cond (by rfl) (fun h => ?_) (fun h => ?_)
  · rw [numL, if_pos h] at hc
    have hp : PartAt (Q1.map E2).flatten (0 + k * 12) 12 (E2 c) := by
      rw [Nat.zero_add]; exact PartAt.nth hE1 (by rw [List.getElem?_map, hc]; rfl)
    repeat (first
      |((refine st_ia_arr (by rfl) (by rfl) (by rfl) (by rfl) hk (by rfl) ?_))
      |((refine st_ldp (by rfl) (by repeat (first | apply Find.here | apply Find.there)) (by rfl) (by rfl) hp (by rfl) ?_))|refine Z01 ?_|refine Z03 ?_|refine Z04 ?_
      |refine Z05 ?_|refine Z06 ?_|refine Z07 ?_|refine Z08 ?_|refine Z09 ?_|refine Z10 ?_|refine Z11 ?_|refine Z12 ?_|refine Z13 ?_|refine Z14 ?_|refine Z17 ?_
      |refine Z18 ?_|refine Z22 ?_|refine Z23 ?_|refine Z24 ?_|refine Z25 ?_|refine Z26 ?_|refine Z27 ?_|refine Z28 ?_|refine Z29 ?_|refine Z30 ?_|refine Z31 ?_
      |refine Z32 ?_|refine Z65 ?_|refine Z67 ?_|refine Z82 fun _ => ?_)
    refine Zec fun _ hw => post_of hw SubW.nil ⟨?_, rfl⟩
    rfl
  · rw [numL, if_neg h] at hc
    have hp : PartAt (Q3.map E2).flatten (0 + k * 12) 12 (E2 c) := by
      rw [Nat.zero_add]; exact PartAt.nth hE2 (by rw [List.getElem?_map, hc]; rfl)
    repeat (first
      |((refine st_ia_arr (by rfl) (by rfl) (by rfl) (by rfl) hk (by rfl) ?_))
      |((refine st_ldp (by rfl) (by repeat (first | apply Find.here | apply Find.there)) (by rfl) (by rfl) hp (by rfl) ?_))|refine Z01 ?_|refine Z03 ?_|refine Z04 ?_
      |refine Z05 ?_|refine Z06 ?_|refine Z07 ?_|refine Z08 ?_|refine Z09 ?_|refine Z10 ?_|refine Z11 ?_|refine Z12 ?_|refine Z13 ?_|refine Z14 ?_|refine Z17 ?_
      |refine Z18 ?_|refine Z22 ?_|refine Z23 ?_|refine Z24 ?_|refine Z25 ?_|refine Z26 ?_|refine Z27 ?_|refine Z28 ?_|refine Z29 ?_|refine Z30 ?_|refine Z31 ?_
      |refine Z32 ?_|refine Z65 ?_|refine Z67 ?_|refine Z82 fun _ => ?_)
    refine Zec fun _ hw => post_of hw SubW.nil ⟨?_, rfl⟩
    rfl
set_option maxHeartbeats 8000000 in
theorem rund_spec (wh k : Nat) (hk : k < 4) (c : F2) (hc : (undL wh)[k]? = some c) : Spec Try.prog 121 [N .i64 wh, N .i64 k] NoPre [] (IsV (LV .u64 (E2 c))) := by
  refine mk_spec Try.func121 rfl rfl rfl fun w _ => ?_
  have hle := fun x : F2 => E2_len x
  have hE1 : ∀ v ∈ Q2z.map E2, v.length = 12 := poly_len
  have hE2 : ∀ v ∈ Q4.map E2, v.length = 12 := poly_len
  have hL1 : (Q2z.map E2).flatten.length = 48 := flatM12 hE1
  have hL2 : (Q4.map E2).flatten.length = 48 := flatM12 hE2
  repeat (first
    |(refine st_alloc (v := LV .u64 (List.replicate 12 0)) (by rfl) (by rfl) fun _ => ?_)
    |((refine st_store_LV (m := 48) (by rfl) (by rfl) (by repeat (first | apply Find.here | apply Find.there)) (by rfl) (by simp) hL1 ?_))
    |((refine st_store_LV (m := 48) (by rfl) (by rfl) (by repeat (first | apply Find.here | apply Find.there)) (by rfl) (by simp) hL2 ?_))
    |((refine st_alloc (v := LV .u64 (List.replicate 48 0)) (by kernel_rfl) (by rfl) fun _ => ?_))
    |(refine st_buildC (m := 6) (kk := .u64) (by rfl) (by rfl) (by rfl) (by rfl) (by rfl) (by rfl) (by rfl) (by rfl) ?_)
    |((refine st_build2 (by rfl) (by rfl) (by rfl) (by rfl) (by first | exact D_len _ _ | (simp; done)) (by first | exact D_len _ _ | (simp; done)) (by rfl) ?_; first | rw [c10E] | rw [c11E] | rw [c12E] | rw [c13E] | rw [c20E] | rw [c21E] | rw [c22E] | rw [c30E] | rw [c31E] | rw [c32E] | rw [c33E] | rw [c40E] | rw [c41E] | rw [c42E] | rw [zz12E]))
    |((refine st_buildM (k := 4) (m := 12) (kk := .u64) (vss := Q2z.map E2) (by rfl) (by kernel_rfl) (by rfl) (by rfl) (by rfl) (by rfl) poly_len (by rfl) ?_))
    |((refine st_buildM (k := 4) (m := 12) (kk := .u64) (vss := Q4.map E2) (by rfl) (by kernel_rfl) (by rfl) (by rfl) (by rfl) (by rfl) poly_len (by rfl) ?_))
    |refine Z01 ?_|refine Z03 ?_|refine Z04 ?_|refine Z05 ?_|refine Z06 ?_|refine Z07 ?_|refine Z08 ?_|refine Z09 ?_|refine Z10 ?_|refine Z11 ?_|refine Z12 ?_
    |refine Z13 ?_|refine Z14 ?_|refine Z17 ?_|refine Z18 ?_|refine Z22 ?_|refine Z23 ?_|refine Z24 ?_|refine Z25 ?_|refine Z26 ?_|refine Z27 ?_|refine Z28 ?_
    |refine Z29 ?_|refine Z30 ?_|refine Z31 ?_|refine Z32 ?_|refine Z65 ?_|refine Z67 ?_|refine Z82 fun _ => ?_)
  refine st_cond (by rfl) (fun h => ?_) (fun h => ?_)
  · rw [undL, if_pos h] at hc
    have hp : PartAt (Q2z.map E2).flatten (0 + k * 12) 12 (E2 c) := by
      rw [Nat.zero_add]; exact PartAt.nth hE1 (by rw [List.getElem?_map, hc]; rfl)
    repeat (first
      |((refine st_ia_arr (by rfl) (by rfl) (by rfl) (by rfl) hk (by rfl) ?_))
      |((refine st_ldp (by rfl) (by repeat (first | apply Find.here | apply Find.there)) (by rfl) (by rfl) hp (by rfl) ?_))|refine Z01 ?_|refine Z03 ?_|refine Z04 ?_
      |refine Z05 ?_|refine Z06 ?_|refine Z07 ?_|refine Z08 ?_|refine Z09 ?_|refine Z10 ?_|refine Z11 ?_|refine Z12 ?_|refine Z13 ?_|refine Z14 ?_|refine Z17 ?_
      |refine Z18 ?_|refine Z22 ?_|refine Z23 ?_|refine Z24 ?_|refine Z25 ?_|refine Z26 ?_|refine Z27 ?_|refine Z28 ?_|refine Z29 ?_|refine Z30 ?_|refine Z31 ?_
      |refine Z32 ?_|refine Z65 ?_|refine Z67 ?_|refine Z82 fun _ => ?_)
    refine Zec fun _ hw => post_of hw SubW.nil ⟨?_, rfl⟩
    rfl
  · rw [undL, if_neg h] at hc
    have hp : PartAt (Q4.map E2).flatten (0 + k * 12) 12 (E2 c) := by
      rw [Nat.zero_add]; exact PartAt.nth hE2 (by rw [List.getElem?_map, hc]; rfl)
    repeat (first
      |((refine st_ia_arr (by rfl) (by rfl) (by rfl) (by rfl) hk (by rfl) ?_))
      |((refine st_ldp (by rfl) (by repeat (first | apply Find.here | apply Find.there)) (by rfl) (by rfl) hp (by rfl) ?_))|refine Z01 ?_|refine Z03 ?_|refine Z04 ?_
      |refine Z05 ?_|refine Z06 ?_|refine Z07 ?_|refine Z08 ?_|refine Z09 ?_|refine Z10 ?_|refine Z11 ?_|refine Z12 ?_|refine Z13 ?_|refine Z14 ?_|refine Z17 ?_
      |refine Z18 ?_|refine Z22 ?_|refine Z23 ?_|refine Z24 ?_|refine Z25 ?_|refine Z26 ?_|refine Z27 ?_|refine Z28 ?_|refine Z29 ?_|refine Z30 ?_|refine Z31 ?_
      |refine Z32 ?_|refine Z65 ?_|refine Z67 ?_|refine Z82 fun _ => ?_)
    refine Zec fun _ hw => post_of hw SubW.nil ⟨?_, rfl⟩
    rfl
def rL (w : Nat) : List F2 := if w % 2 = 0 then undL w else numL w
theorem numL_len (w : Nat) : (numL w).length = 4 := by unfold numL; split <;> rfl
theorem undL_len (w : Nat) : (undL w).length = 4 := by unfold undL; split <;> rfl
set_option maxHeartbeats 8000000 in
theorem rpoly_spec {a e : Nat} (ha : a < W ^ 6) (he : e < W ^ 6) (wh : Nat) : Spec Try.prog 85 [N .i64 wh, LV .u64 (D 6 a ++ D 6 e)] NoPre [] (IsV (LV .u64 (E2 (pol (k2 a e) (rL wh))))) := by
  refine mk_spec Try.func85 rfl rfl rfl fun w hr => ?_
  have hl0 := fun x => D_len 6 x
  have hle := fun x : F2 => E2_len x
  have hz12 := zero12
  have hm := fun x => tmulX ha he x
  generalize k2 a e = x at hm ⊢
  have hlen : (rL wh).length = 4 := by
    by_cases h : wh % 2 = 0
    · rw [rL, if_pos h]; exact undL_len _
    · rw [rL, if_neg h]; exact numL_len _
  repeat (first
    |(refine st_alloc (v := LV .u64 (List.replicate 12 0)) (by rfl) (by rfl) fun _ => ?_)|refine Z01 ?_|refine Z02 ?_|refine Z03 ?_|refine Z04 ?_|refine Z05 ?_
    |refine Z06 ?_|refine Z07 ?_|refine Z08 ?_|refine Z09 ?_|refine Z10 ?_|refine Z11 ?_|refine Z12 ?_|refine Z13 ?_|refine Z14 ?_|refine Z16 ?_|refine Z17 ?_
    |refine Z18 ?_|refine Z24 ?_|refine Z25 ?_|refine Z26 ?_|refine Z27 ?_|refine Z28 ?_|refine Z29 ?_|refine Z30 ?_|refine Z31 ?_|refine Z32 ?_|refine Z38 ?_
    |refine Z67 ?_|refine Z71 ?_|refine Z81 fun _ => ?_|refine Z82 fun _ => ?_)
  rename_i b3 b4 b5
  refine st_loop (ι := Nat) (fun j => j ≤ 4) (fun j => [(0, N .i64 wh), (3, pt b3 0), (4, pt b4 0), (5, pt b5 0), (6, .int .i64 ((j : Int) - 1))])
    (fun j => [.blk b5 (LV .u64 (E2 (pol x ((rL wh).drop j)))) 26, .blk b4 (LV .u64 (List.replicate 12 0)) 26, .blk b3 (LV .u64 (D 6 a ++ D 6 e)) 26]) (fun j => j) 4 (Nat.le_refl _) (by repeat (first | apply subL.nil | refine subL.cons (by rfl) ?_)) (by rw [← hlen, List.drop_length, show pol x [] = Kf.K2.zero from rfl, ← hz12]; exact (by repeat (first | apply SubW.nil | refine SubW.cons (by repeat (first | apply Find.here | apply Find.there)) ?_))) ?_
  intro j hj
  repeat (first
    |refine Z01 ?_|refine Z02 ?_|refine Z03 ?_|refine Z04 ?_|refine Z05 ?_|refine Z06 ?_|refine Z07 ?_|refine Z08 ?_|refine Z09 ?_|refine Z10 ?_|refine Z11 ?_
    |refine Z12 ?_|refine Z13 ?_|refine Z14 ?_|refine Z16 ?_|refine Z17 ?_|refine Z18 ?_|refine Z24 ?_|refine Z25 ?_|refine Z26 ?_|refine Z27 ?_|refine Z28 ?_
    |refine Z29 ?_|refine Z30 ?_|refine Z31 ?_|refine Z32 ?_|refine Z38 ?_|refine Z67 ?_|refine Z71 ?_|refine Z81 fun _ => ?_|refine Z82 fun _ => ?_)
  refine st_cond (by rfl) (fun h => ?_) (fun h => ?_)
  · have h0 : (0 : Int) ≤ (j : Int) - 1 := h
    obtain ⟨i, rfl⟩ : ∃ i, j = i + 1 := ⟨j - 1, by omega⟩
    rw [show ((i + 1 : Nat) : Int) - 1 = Int.ofNat i by simp]
    have hi : i < 4 := by omega
    obtain ⟨c, hc⟩ : ∃ c, (rL wh)[i]? = some c := ⟨_, List.getElem?_eq_getElem (by omega)⟩
    obtain ⟨c', hc'⟩ : ∃ c, (numL wh)[i]? = some c := ⟨_, List.getElem?_eq_getElem (by rw [numL_len]; omega)⟩
    have hn := rnum_spec wh i hi c' hc'
    have had := taddE (Kf.K2.mul (pol x ((rL wh).drop (i + 1))) x) c
    rw [← pol_drop x hc] at had
    repeat (first
      |(refine st_alloc (v := LV .u64 (List.replicate 12 0)) (by rfl) (by rfl) fun _ => ?_)
      |(refine st_callV (by rfl) (by rfl) (by rfl) (hn) (fun _ _ => trivial) (by rfl) ?_)|refine Z01 ?_|refine Z02 ?_|refine Z03 ?_|refine Z04 ?_|refine Z05 ?_
      |refine Z06 ?_|refine Z07 ?_|refine Z08 ?_|refine Z09 ?_|refine Z10 ?_|refine Z11 ?_|refine Z12 ?_|refine Z13 ?_|refine Z14 ?_|refine Z16 ?_|refine Z17 ?_
      |refine Z18 ?_|refine Z24 ?_|refine Z25 ?_|refine Z26 ?_|refine Z27 ?_|refine Z28 ?_|refine Z29 ?_|refine Z30 ?_|refine Z31 ?_|refine Z32 ?_|refine Z38 ?_
      |refine Z67 ?_|refine Z71 ?_|refine Z81 fun _ => ?_|refine Z82 fun _ => ?_)
    refine st_cond (by rfl) (fun hev => ?_) (fun hev => ?_)
    · rw [rL, if_pos hev] at hc
      have hu := rund_spec wh i hi c hc
      repeat (first
        |(refine st_callV (by rfl) (by rfl) (by rfl) (hu) (fun _ _ => trivial) (by rfl) ?_)|refine Z01 ?_|refine Z02 ?_|refine Z03 ?_|refine Z04 ?_|refine Z05 ?_
        |refine Z06 ?_|refine Z07 ?_|refine Z08 ?_|refine Z09 ?_|refine Z10 ?_|refine Z11 ?_|refine Z12 ?_|refine Z13 ?_|refine Z14 ?_|refine Z16 ?_|refine Z17 ?_
        |refine Z18 ?_|refine Z24 ?_|refine Z25 ?_|refine Z26 ?_|refine Z27 ?_|refine Z28 ?_|refine Z29 ?_|refine Z30 ?_|refine Z31 ?_|refine Z32 ?_|refine Z38 ?_
        |refine Z67 ?_|refine Z71 ?_|refine Z81 fun _ => ?_|refine Z82 fun _ => ?_)
      refine R.st_perm [0, 1, 2, 3, 4, 5] (by rfl) ?_
      repeat (first
        |refine R.Zpf (by rfl)
          (by intro _ _ _;(first
          
          |(refine st_fld (by rfl) (by first | exact (show _ = some (0, 6) from rfl) | exact (show _ = some (6, 6) from rfl) | exact (show _ = some (0, 12) from rfl) | exact (show _ = some (12, 12) from rfl) | exact (show _ = some (24, 1) from rfl)) (by rfl) (by rfl) ?_)
          |(refine st_build2 (by rfl) (by rfl) (by rfl) (by rfl) (by first | exact D_len _ _ | (simp; done)) (by first | exact D_len _ _ | (simp; done)) (by rfl) ?_)
          |(refine st_build2a (by rfl) (by rfl) (by rfl) (by rfl) (by first | exact D_len _ _ | (simp; done)) (by rfl) ?_)
          |(refine st_build2b (by rfl) (by rfl) (by rfl) (by rfl) (by first | exact D_len _ _ | (simp; done)) (by rfl) ?_)
          |(refine st_build20 (by rfl) (by rfl) (by rfl) (by rfl) ?_)
          |(refine st_eq2 (by rfl) (by rfl) (by rfl) (by kernel_rfl) (by rfl) (by rfl) (by rfl) (by rfl) (by rfl) (by rfl) (by rfl) (by rfl) (by rfl) (by rfl) (by kernel_rfl) (by first | exact D_len _ _ | (simp; done)) (by first | exact D_len _ _ | (simp; done)) (by first | exact D_len _ _ | (simp; done)) (by first | exact D_len _ _ | (simp; done)) (by rfl) ?_)
          |(refine st_ne2 (by rfl) (by rfl) (by rfl) (by kernel_rfl) (by rfl) (by rfl) (by rfl) (by rfl) (by rfl) (by rfl) (by rfl) (by rfl) (by rfl) (by rfl) (by kernel_rfl) (by first | exact D_len _ _ | (simp; done)) (by first | exact D_len _ _ | (simp; done)) (by first | exact D_len _ _ | (simp; done)) (by first | exact D_len _ _ | (simp; done)) (by rfl) ?_)
          |(refine st_fieldLV (by rfl) (by first | exact (show _ = some (0, 6) from rfl) | exact (show _ = some (6, 6) from rfl) | exact (show _ = some (0, 12) from rfl) | exact (show _ = some (12, 12) from rfl) | exact (show _ = some (24, 1) from rfl)) (by first | (refine PartAt.l ?_; (first | exact D_len _ _ | (simp; done))) | (refine PartAt.r ?_ ?_ <;> (first | exact D_len _ _ | (simp; done))) | (refine PartAt.all ?_; (first | exact D_len _ _ | (simp; done)))) (by rfl) (by rfl) ?_)
          |refine Z01 ?_|refine Z02 ?_|refine Z16 ?_|refine Z17 ?_|refine Z18 ?_|refine Z38 ?_|refine Z71 ?_);exact Zq) ?_
        |refine R.Zpp (by rfl)
          (by intro _ _ _;(first
          |refine Z24 ?_|refine Z25 ?_|refine Z26 ?_|refine Z27 ?_|refine Z28 ?_|refine Z67 ?_);exact Zq) ?_
        |refine R.Zpp (by rfl)
          (by intro _ _ _;(refine st_ldp (by rfl) (by repeat (first | apply Find.here | apply Find.there)) (by rfl) (by rfl) (by first | (refine PartAt.l ?_; (first | exact D_len _ _ | (simp; done))) | (refine PartAt.r ?_ ?_ <;> (first | exact D_len _ _ | (simp; done))) | (refine PartAt.all ?_; (first | exact D_len _ _ | (simp; done)))) (by rfl) ?_);exact Zq) ?_
        |refine R.Zpp (by rfl)
          (by intro _ _ _;refine st_callV (by rfl) (by rfl) (by rfl) (hm _) (fun _ _ => trivial) (by rfl) ?_;exact Zq) ?_
        |refine R.Zpp (by rfl)
          (by intro _ _ _;refine st_callV (by rfl) (by rfl) (by rfl) (had) (fun _ _ => trivial) (by rfl) ?_;exact Zq) ?_
        |refine R.Zps (by rfl)
          (by intro _ _ _;(first
          |refine Z29 ?_|refine Z30 ?_|refine Z31 ?_|refine Z32 ?_);exact Zqq) ?_
        |refine R.Zpn (by rfl)
          (by intro _ _ _;(first
          |refine Z81 fun _ => ?_|refine Z82 fun _ => ?_);exact R.Zpx) fun _ => ?_
        |refine R.Zpo (by rfl) ?_)
      refine R.Zp0 ?_
      repeat (first
        |refine Z01 ?_|refine Z02 ?_|refine Z03 ?_|refine Z04 ?_|refine Z05 ?_|refine Z06 ?_|refine Z07 ?_|refine Z08 ?_|refine Z09 ?_|refine Z10 ?_|refine Z11 ?_
        |refine Z12 ?_|refine Z13 ?_|refine Z14 ?_|refine Z16 ?_|refine Z17 ?_|refine Z18 ?_|refine Z24 ?_|refine Z25 ?_|refine Z26 ?_|refine Z27 ?_|refine Z28 ?_
        |refine Z29 ?_|refine Z30 ?_|refine Z31 ?_|refine Z32 ?_|refine Z38 ?_|refine Z67 ?_|refine Z71 ?_|refine Z81 fun _ => ?_|refine Z82 fun _ => ?_)
      refine st_round i (by omega) (by omega) ?_ (by repeat (first | apply SubW.nil | refine SubW.cons (by repeat (first | apply Find.here | apply Find.there)) ?_))
      rw [show ((i : Int) - 1) = Int.ofNat i - Int.ofNat 1 from rfl]
      exact (by repeat (first | apply subL.nil | refine subL.cons (by rfl) ?_))
    · rw [rL, if_neg hev, hc'] at hc
      cases hc
      repeat (first
        |refine Z01 ?_|refine Z02 ?_|refine Z03 ?_|refine Z04 ?_|refine Z05 ?_|refine Z06 ?_|refine Z07 ?_|refine Z08 ?_|refine Z09 ?_|refine Z10 ?_|refine Z11 ?_
        |refine Z12 ?_|refine Z13 ?_|refine Z14 ?_|refine Z16 ?_|refine Z17 ?_|refine Z18 ?_|refine Z24 ?_|refine Z25 ?_|refine Z26 ?_|refine Z27 ?_|refine Z28 ?_
        |refine Z29 ?_|refine Z30 ?_|refine Z31 ?_|refine Z32 ?_|refine Z38 ?_|refine Z67 ?_|refine Z71 ?_|refine Z81 fun _ => ?_|refine Z82 fun _ => ?_)
      refine R.st_perm [0, 1, 2, 3, 4, 5] (by rfl) ?_
      repeat (first
        |refine R.Zpf (by rfl)
          (by intro _ _ _;(first
          
          |(refine st_fld (by rfl) (by first | exact (show _ = some (0, 6) from rfl) | exact (show _ = some (6, 6) from rfl) | exact (show _ = some (0, 12) from rfl) | exact (show _ = some (12, 12) from rfl) | exact (show _ = some (24, 1) from rfl)) (by rfl) (by rfl) ?_)
          |(refine st_build2 (by rfl) (by rfl) (by rfl) (by rfl) (by first | exact D_len _ _ | (simp; done)) (by first | exact D_len _ _ | (simp; done)) (by rfl) ?_)
          |(refine st_build2a (by rfl) (by rfl) (by rfl) (by rfl) (by first | exact D_len _ _ | (simp; done)) (by rfl) ?_)
          |(refine st_build2b (by rfl) (by rfl) (by rfl) (by rfl) (by first | exact D_len _ _ | (simp; done)) (by rfl) ?_)
          |(refine st_build20 (by rfl) (by rfl) (by rfl) (by rfl) ?_)
          |(refine st_eq2 (by rfl) (by rfl) (by rfl) (by kernel_rfl) (by rfl) (by rfl) (by rfl) (by rfl) (by rfl) (by rfl) (by rfl) (by rfl) (by rfl) (by rfl) (by kernel_rfl) (by first | exact D_len _ _ | (simp; done)) (by first | exact D_len _ _ | (simp; done)) (by first | exact D_len _ _ | (simp; done)) (by first | exact D_len _ _ | (simp; done)) (by rfl) ?_)
          |(refine st_ne2 (by rfl) (by rfl) (by rfl) (by kernel_rfl) (by rfl) (by rfl) (by rfl) (by rfl) (by rfl) (by rfl) (by rfl) (by rfl) (by rfl) (by rfl) (by kernel_rfl) (by first | exact D_len _ _ | (simp; done)) (by first | exact D_len _ _ | (simp; done)) (by first | exact D_len _ _ | (simp; done)) (by first | exact D_len _ _ | (simp; done)) (by rfl) ?_)
          |(refine st_fieldLV (by rfl) (by first | exact (show _ = some (0, 6) from rfl) | exact (show _ = some (6, 6) from rfl) | exact (show _ = some (0, 12) from rfl) | exact (show _ = some (12, 12) from rfl) | exact (show _ = some (24, 1) from rfl)) (by first | (refine PartAt.l ?_; (first | exact D_len _ _ | (simp; done))) | (refine PartAt.r ?_ ?_ <;> (first | exact D_len _ _ | (simp; done))) | (refine PartAt.all ?_; (first | exact D_len _ _ | (simp; done)))) (by rfl) (by rfl) ?_)
          |refine Z01 ?_|refine Z02 ?_|refine Z16 ?_|refine Z17 ?_|refine Z18 ?_|refine Z38 ?_|refine Z71 ?_);exact Zq) ?_
        |refine R.Zpp (by rfl)
          (by intro _ _ _;(first
          |refine Z24 ?_|refine Z25 ?_|refine Z26 ?_|refine Z27 ?_|refine Z28 ?_|refine Z67 ?_);exact Zq) ?_
        |refine R.Zpp (by rfl)
          (by intro _ _ _;(refine st_ldp (by rfl) (by repeat (first | apply Find.here | apply Find.there)) (by rfl) (by rfl) (by first | (refine PartAt.l ?_; (first | exact D_len _ _ | (simp; done))) | (refine PartAt.r ?_ ?_ <;> (first | exact D_len _ _ | (simp; done))) | (refine PartAt.all ?_; (first | exact D_len _ _ | (simp; done)))) (by rfl) ?_);exact Zq) ?_
        |refine R.Zpp (by rfl)
          (by intro _ _ _;refine st_callV (by rfl) (by rfl) (by rfl) (hm _) (fun _ _ => trivial) (by rfl) ?_;exact Zq) ?_
        |refine R.Zpp (by rfl)
          (by intro _ _ _;refine st_callV (by rfl) (by rfl) (by rfl) (had) (fun _ _ => trivial) (by rfl) ?_;exact Zq) ?_
        |refine R.Zps (by rfl)
          (by intro _ _ _;(first
          |refine Z29 ?_|refine Z30 ?_|refine Z31 ?_|refine Z32 ?_);exact Zqq) ?_
        |refine R.Zpn (by rfl)
          (by intro _ _ _;(first
          |refine Z81 fun _ => ?_|refine Z82 fun _ => ?_);exact R.Zpx) fun _ => ?_
        |refine R.Zpo (by rfl) ?_)
      refine R.Zp0 ?_
      repeat (first
        |refine Z01 ?_|refine Z02 ?_|refine Z03 ?_|refine Z04 ?_|refine Z05 ?_|refine Z06 ?_|refine Z07 ?_|refine Z08 ?_|refine Z09 ?_|refine Z10 ?_|refine Z11 ?_
        |refine Z12 ?_|refine Z13 ?_|refine Z14 ?_|refine Z16 ?_|refine Z17 ?_|refine Z18 ?_|refine Z24 ?_|refine Z25 ?_|refine Z26 ?_|refine Z27 ?_|refine Z28 ?_
        |refine Z29 ?_|refine Z30 ?_|refine Z31 ?_|refine Z32 ?_|refine Z38 ?_|refine Z67 ?_|refine Z71 ?_|refine Z81 fun _ => ?_|refine Z82 fun _ => ?_)
      refine st_round i (by omega) (by omega) ?_ (by repeat (first | apply SubW.nil | refine SubW.cons (by repeat (first | apply Find.here | apply Find.there)) ?_))
      rw [show ((i : Int) - 1) = Int.ofNat i - Int.ofNat 1 from rfl]
      exact (by repeat (first | apply subL.nil | refine subL.cons (by rfl) ?_))
  · have hp0 : ¬ (0 : Int) ≤ (j : Int) - 1 := h
    have hj0 : j = 0 := by omega
    subst hj0
    rw [List.drop_zero]
    repeat (first
      |refine Z01 ?_|refine Z02 ?_|refine Z03 ?_|refine Z04 ?_|refine Z05 ?_|refine Z06 ?_|refine Z07 ?_|refine Z08 ?_|refine Z09 ?_|refine Z10 ?_|refine Z11 ?_
      |refine Z12 ?_|refine Z13 ?_|refine Z14 ?_|refine Z16 ?_|refine Z17 ?_|refine Z18 ?_|refine Z24 ?_|refine Z25 ?_|refine Z26 ?_|refine Z27 ?_|refine Z28 ?_
      |refine Z29 ?_|refine Z30 ?_|refine Z31 ?_|refine Z32 ?_|refine Z38 ?_|refine Z67 ?_|refine Z71 ?_|refine Z81 fun _ => ?_|refine Z82 fun _ => ?_)
    refine Zec fun _ hw => post_of hw SubW.nil ⟨?_, rfl⟩
    rfl
set_option maxHeartbeats 8000000 in
theorem riso_spec {a e f g : Nat} (ha : a < W ^ 6) (he : e < W ^ 6) (hf : f < W ^ 6) (hg : g < W ^ 6) : Spec Try.prog 43 [LV .u64 (D 6 a ++ D 6 e), LV .u64 (D 6 f ++ D 6 g)] NoPre [] (IsV (GE (isoP (k2 a e) (k2 f g)).1 (isoP (k2 a e) (k2 f g)).2.1 (isoP (k2 a e) (k2 f g)).2.2)) := by
  refine mk_spec Try.func43 rfl rfl rfl fun w _ => ?_
  have hl0 := fun x => D_len 6 x
  have hle := fun x : F2 => E2_len x
  have hp1 : Spec Try.prog 85 [N .i64 1, LV .u64 (D 6 a ++ D 6 e)] NoPre [] (IsV (LV .u64 (E2 (pol (k2 a e) Q1)))) := rpoly_spec ha he 1
  have hp2 : Spec Try.prog 85 [N .i64 2, LV .u64 (D 6 a ++ D 6 e)] NoPre [] (IsV (LV .u64 (E2 (pol (k2 a e) Q2z)))) := rpoly_spec ha he 2
  have hp3 : Spec Try.prog 85 [N .i64 3, LV .u64 (D 6 a ++ D 6 e)] NoPre [] (IsV (LV .u64 (E2 (pol (k2 a e) Q3)))) := rpoly_spec ha he 3
  have hp4 : Spec Try.prog 85 [N .i64 4, LV .u64 (D 6 a ++ D 6 e)] NoPre [] (IsV (LV .u64 (E2 (pol (k2 a e) Q4)))) := rpoly_spec ha he 4
  rw [pol_Q2z] at hp2
  have hmy := fun x => tmulY hf hg x
  generalize k2 a e = x at hp1 hp2 hp3 hp4 ⊢
  generalize k2 f g = y at hmy ⊢
  have hI1 := isoP_1 (x := x) (y := y) rfl rfl
  have hI0 := isoP_0 (x := x) (y := y) rfl rfl rfl rfl
  generalize pol x Q1 = q1 at *
  generalize pol x Q2 = q2 at *
  generalize pol x Q3 = q3 at *
  generalize pol x Q4 = q4 at *
  repeat (first
    |(refine st_alloc (v := LV .u64 (List.replicate 12 0)) (by rfl) (by rfl) fun _ => ?_)
    |(refine st_alloc (v := GL (List.replicate 24 0) false) (by kernel_rfl) (by rfl) fun _ => ?_)
    |(refine st_callV (by rfl) (by rfl) (by rfl) (hp2) (fun _ _ => trivial) (by rfl) ?_)
    |(refine st_callV (by rfl) (by rfl) (by rfl) (hp4) (fun _ _ => trivial) (by rfl) ?_)|refine Z01 ?_|refine Z03 ?_|refine Z04 ?_|refine Z05 ?_|refine Z06 ?_
    |refine Z07 ?_|refine Z08 ?_|refine Z09 ?_|refine Z10 ?_|refine Z11 ?_|refine Z12 ?_|refine Z13 ?_|refine Z14 ?_|refine Z24 ?_|refine Z25 ?_|refine Z26 ?_
    |refine Z27 ?_|refine Z28 ?_|refine Z29 ?_|refine Z30 ?_|refine Z31 ?_|refine Z32 ?_|refine Z49 ?_|refine Z50 ?_|refine Z51 ?_|refine Z52 ?_|refine Z53 ?_
    |refine Z65 ?_|refine Z67 ?_|refine Z77 ?_|refine Z78 ?_|refine Z79 ?_|refine Z81 fun _ => ?_|refine Z82 fun _ => ?_)
  by_cases z2 : q2 = Kf.K2.zero
  · have hz2 : (decide (D 6 q2.re.val = D 6 (Kf.K2.zero : F2).re.val) && decide (D 6 q2.im.val = D 6 (Kf.K2.zero : F2).im.val)) = true := by rw [z2]; exact E2_same _
    rw [hI1 (.inl z2)]
    repeat (first
      |((refine st_build20 (k := .u64) (z := List.replicate 12 0) (by rfl) (by rfl) (by rfl) (by rfl) ?_; rw [zero12]))
      |((refine st_eq2v (hr := hz2) (by rfl) (by rfl) (by rfl) (by kernel_rfl) (by rfl) (by rfl) (by rfl) (by rfl) (by rfl) (by rfl) (by rfl) (by rfl) (by rfl) (by rfl) (by kernel_rfl) (by first | exact D_len _ _ | (simp; done)) (by first | exact D_len _ _ | (simp; done)) (by first | exact D_len _ _ | (simp; done)) (by first | exact D_len _ _ | (simp; done)) (by rfl) ?_))
      |((refine st_buildGi (m := 12) (by rfl) (by rfl) (by kernel_rfl) (by rfl) (by rfl) ?_; rw [zero24']))
      |(refine st_store_GL (m := 24) (by rfl) (by rfl) (by repeat (first | apply Find.here | apply Find.there)) (by rfl) (by first | with_reducible assumption | (simp; done)) (by first | with_reducible assumption | (simp; done)) ?_)
      |refine Z01 ?_|refine Z03 ?_|refine Z04 ?_|refine Z05 ?_|refine Z06 ?_|refine Z07 ?_|refine Z08 ?_|refine Z09 ?_|refine Z10 ?_|refine Z11 ?_|refine Z12 ?_
      |refine Z13 ?_|refine Z14 ?_|refine Z24 ?_|refine Z25 ?_|refine Z26 ?_|refine Z27 ?_|refine Z28 ?_|refine Z29 ?_|refine Z30 ?_|refine Z31 ?_|refine Z32 ?_
      |refine Z49 ?_|refine Z50 ?_|refine Z51 ?_|refine Z52 ?_|refine Z53 ?_|refine Z65 ?_|refine Z67 ?_|refine Z77 ?_|refine Z78 ?_|refine Z79 ?_|refine Z81 fun _ => ?_
      |refine Z82 fun _ => ?_)
    refine st_endc_GL (m := 24) (by rfl) (by rfl) (by repeat (first | apply Find.here | apply Find.there)) (by rfl) (by rfl) (by first | with_reducible assumption | (simp; done)) fun _ hw => post_of hw SubW.nil ⟨?_, rfl⟩
    rfl
  · by_cases z4 : q4 = Kf.K2.zero
    · have hz4 : (decide (D 6 q4.re.val = D 6 (Kf.K2.zero : F2).re.val) && decide (D 6 q4.im.val = D 6 (Kf.K2.zero : F2).im.val)) = true := by rw [z4]; exact E2_same _
      rw [hI1 (.inr z4)]
      repeat (first
        |((refine st_build20 (k := .u64) (z := List.replicate 12 0) (by rfl) (by rfl) (by rfl) (by rfl) ?_; rw [zero12]))
        |((refine st_eq2v (hr := E2_diff z2) (by rfl) (by rfl) (by rfl) (by kernel_rfl) (by rfl) (by rfl) (by rfl) (by rfl) (by rfl) (by rfl) (by rfl) (by rfl) (by rfl) (by rfl) (by kernel_rfl) (by first | exact D_len _ _ | (simp; done)) (by first | exact D_len _ _ | (simp; done)) (by first | exact D_len _ _ | (simp; done)) (by first | exact D_len _ _ | (simp; done)) (by rfl) ?_))
        |((refine st_eq2v (hr := hz4) (by rfl) (by rfl) (by rfl) (by kernel_rfl) (by rfl) (by rfl) (by rfl) (by rfl) (by rfl) (by rfl) (by rfl) (by rfl) (by rfl) (by rfl) (by kernel_rfl) (by first | exact D_len _ _ | (simp; done)) (by first | exact D_len _ _ | (simp; done)) (by first | exact D_len _ _ | (simp; done)) (by first | exact D_len _ _ | (simp; done)) (by rfl) ?_))
        |((refine st_buildGi (m := 12) (by rfl) (by rfl) (by kernel_rfl) (by rfl) (by rfl) ?_; rw [zero24']))
        |(refine st_store_GL (m := 24) (by rfl) (by rfl) (by repeat (first | apply Find.here | apply Find.there)) (by rfl) (by first | with_reducible assumption | (simp; done)) (by first | with_reducible assumption | (simp; done)) ?_)
        |refine Z01 ?_|refine Z03 ?_|refine Z04 ?_|refine Z05 ?_|refine Z06 ?_|refine Z07 ?_|refine Z08 ?_|refine Z09 ?_|refine Z10 ?_|refine Z11 ?_|refine Z12 ?_
        |refine Z13 ?_|refine Z14 ?_|refine Z24 ?_|refine Z25 ?_|refine Z26 ?_|refine Z27 ?_|refine Z28 ?_|refine Z29 ?_|refine Z30 ?_|refine Z31 ?_|refine Z32 ?_
        |refine Z49 ?_|refine Z50 ?_|refine Z51 ?_|refine Z52 ?_|refine Z53 ?_|refine Z65 ?_|refine Z67 ?_|refine Z77 ?_|refine Z78 ?_|refine Z79 ?_
        |refine Z81 fun _ => ?_|refine Z82 fun _ => ?_)
      refine st_endc_GL (m := 24) (by rfl) (by rfl) (by repeat (first | apply Find.here | apply Find.there)) (by rfl) (by rfl) (by first | with_reducible assumption | (simp; done)) fun _ hw => post_of hw SubW.nil ⟨?_, rfl⟩
      rfl
    · rw [hI0 z2 z4]
      have hi2 := tinvE q2
      have hm2 := tmulE q1 (Kf.K2.inv q2)
      have hi4 := tinvE q4
      have hm4 := tmulE q3 (Kf.K2.inv q4)
      have hmm := hmy (Kf.K2.mul q3 (Kf.K2.inv q4))
      generalize Kf.K2.mul y (Kf.K2.mul q3 (Kf.K2.inv q4)) = s1 at hmm ⊢
      generalize Kf.K2.mul q3 (Kf.K2.inv q4) = s2 at hm4 hmm
      generalize Kf.K2.inv q4 = s3 at hi4 hm4
      generalize Kf.K2.mul q1 (Kf.K2.inv q2) = s4 at hm2 ⊢
      generalize Kf.K2.inv q2 = s5 at hi2 hm2
      clear hI0 hI1
      repeat (first
        |((refine st_build20 (k := .u64) (z := List.replicate 12 0) (by rfl) (by rfl) (by rfl) (by rfl) ?_; rw [zero12]))
        |((refine st_eq2v (hr := E2_diff z2) (by rfl) (by rfl) (by rfl) (by kernel_rfl) (by rfl) (by rfl) (by rfl) (by rfl) (by rfl) (by rfl) (by rfl) (by rfl) (by rfl) (by rfl) (by kernel_rfl) (by first | exact D_len _ _ | (simp; done)) (by first | exact D_len _ _ | (simp; done)) (by first | exact D_len _ _ | (simp; done)) (by first | exact D_len _ _ | (simp; done)) (by rfl) ?_))
        |((refine st_eq2v (hr := E2_diff z4) (by rfl) (by rfl) (by rfl) (by kernel_rfl) (by rfl) (by rfl) (by rfl) (by rfl) (by rfl) (by rfl) (by rfl) (by rfl) (by rfl) (by rfl) (by kernel_rfl) (by first | exact D_len _ _ | (simp; done)) (by first | exact D_len _ _ | (simp; done)) (by first | exact D_len _ _ | (simp; done)) (by first | exact D_len _ _ | (simp; done)) (by rfl) ?_))
        |refine Z01 ?_|refine Z03 ?_|refine Z04 ?_|refine Z05 ?_|refine Z06 ?_|refine Z07 ?_|refine Z08 ?_|refine Z09 ?_|refine Z10 ?_|refine Z11 ?_|refine Z12 ?_
        |refine Z13 ?_|refine Z14 ?_|refine Z24 ?_|refine Z25 ?_|refine Z26 ?_|refine Z27 ?_|refine Z28 ?_|refine Z29 ?_|refine Z30 ?_|refine Z31 ?_|refine Z32 ?_
        |refine Z49 ?_|refine Z50 ?_|refine Z51 ?_|refine Z52 ?_|refine Z53 ?_|refine Z65 ?_|refine Z67 ?_|refine Z77 ?_|refine Z78 ?_|refine Z79 ?_
        |refine Z81 fun _ => ?_|refine Z82 fun _ => ?_)
      refine R.st_perm [0, 1, 2, 3, 4, 5, 6, 7, 8, 9, 10, 11, 12, 13] (by rfl) ?_
      repeat (first
        |refine R.Zpf (by rfl)
          (by intro _ _ _;(first
          
          |(refine st_fld (by rfl) (by first | exact (show _ = some (0, 6) from rfl) | exact (show _ = some (6, 6) from rfl) | exact (show _ = some (0, 12) from rfl) | exact (show _ = some (12, 12) from rfl) | exact (show _ = some (24, 1) from rfl)) (by rfl) (by rfl) ?_)
          |(refine st_build2 (by rfl) (by rfl) (by rfl) (by rfl) (by first | exact D_len _ _ | (simp; done)) (by first | exact D_len _ _ | (simp; done)) (by rfl) ?_)
          |(refine st_build2a (by rfl) (by rfl) (by rfl) (by rfl) (by first | exact D_len _ _ | (simp; done)) (by rfl) ?_)
          |(refine st_build2b (by rfl) (by rfl) (by rfl) (by rfl) (by first | exact D_len _ _ | (simp; done)) (by rfl) ?_)
          |(refine st_build20 (by rfl) (by rfl) (by rfl) (by rfl) ?_)
          |(refine st_eq2 (by rfl) (by rfl) (by rfl) (by kernel_rfl) (by rfl) (by rfl) (by rfl) (by rfl) (by rfl) (by rfl) (by rfl) (by rfl) (by rfl) (by rfl) (by kernel_rfl) (by first | exact D_len _ _ | (simp; done)) (by first | exact D_len _ _ | (simp; done)) (by first | exact D_len _ _ | (simp; done)) (by first | exact D_len _ _ | (simp; done)) (by rfl) ?_)
          |(refine st_ne2 (by rfl) (by rfl) (by rfl) (by kernel_rfl) (by rfl) (by rfl) (by rfl) (by rfl) (by rfl) (by rfl) (by rfl) (by rfl) (by rfl) (by rfl) (by kernel_rfl) (by first | exact D_len _ _ | (simp; done)) (by first | exact D_len _ _ | (simp; done)) (by first | exact D_len _ _ | (simp; done)) (by first | exact D_len _ _ | (simp; done)) (by rfl) ?_)
          |(refine st_fieldLV (by rfl) (by first | exact (show _ = some (0, 6) from rfl) | exact (show _ = some (6, 6) from rfl) | exact (show _ = some (0, 12) from rfl) | exact (show _ = some (12, 12) from rfl) | exact (show _ = some (24, 1) from rfl)) (by first | (refine PartAt.l ?_; (first | exact D_len _ _ | (simp; done))) | (refine PartAt.r ?_ ?_ <;> (first | exact D_len _ _ | (simp; done))) | (refine PartAt.all ?_; (first | exact D_len _ _ | (simp; done)))) (by rfl) (by rfl) ?_)
          |(refine st_buildG (m := 12) (by rfl) (by rfl) (by kernel_rfl) (by rfl) (by first | exact D_len _ _ | (simp; done)) (by first | exact D_len _ _ | (simp; done)) (by rfl) ?_)
          |refine Z01 ?_|refine Z49 ?_|refine Z50 ?_|refine Z65 ?_|refine Z77 ?_|refine Z78 ?_|refine Z79 ?_);exact Zq) ?_
        |refine R.Zpp (by rfl)
          (by intro _ _ _;(first
          |refine Z24 ?_|refine Z25 ?_|refine Z26 ?_|refine Z27 ?_|refine Z28 ?_|refine Z67 ?_);exact Zq) ?_
        |refine R.Zpp (by rfl)
          (by intro _ _ _;(refine st_ldp (by rfl) (by repeat (first | apply Find.here | apply Find.there)) (by rfl) (by rfl) (by first | (refine PartAt.l ?_; (first | exact D_len _ _ | (simp; done))) | (refine PartAt.r ?_ ?_ <;> (first | exact D_len _ _ | (simp; done))) | (refine PartAt.all ?_; (first | exact D_len _ _ | (simp; done)))) (by rfl) ?_);exact Zq) ?_
        |refine R.Zpp (by rfl)
          (by intro _ _ _;refine st_callV (by rfl) (by rfl) (by rfl) (hp1) (fun _ _ => trivial) (by rfl) ?_;exact Zq) ?_
        |refine R.Zpp (by rfl)
          (by intro _ _ _;refine st_callV (by rfl) (by rfl) (by rfl) (hi2) (fun _ _ => trivial) (by rfl) ?_;exact Zq) ?_
        |refine R.Zpp (by rfl)
          (by intro _ _ _;refine st_callV (by rfl) (by rfl) (by rfl) (hm2) (fun _ _ => trivial) (by rfl) ?_;exact Zq) ?_
        |refine R.Zpp (by rfl)
          (by intro _ _ _;refine st_callV (by rfl) (by rfl) (by rfl) (hp3) (fun _ _ => trivial) (by rfl) ?_;exact Zq) ?_
        |refine R.Zpp (by rfl)
          (by intro _ _ _;refine st_callV (by rfl) (by rfl) (by rfl) (hi4) (fun _ _ => trivial) (by rfl) ?_;exact Zq) ?_
        |refine R.Zpp (by rfl)
          (by intro _ _ _;refine st_callV (by rfl) (by rfl) (by rfl) (hm4) (fun _ _ => trivial) (by rfl) ?_;exact Zq) ?_
        |refine R.Zpp (by rfl)
          (by intro _ _ _;refine st_callV (by rfl) (by rfl) (by rfl) (hmm) (fun _ _ => trivial) (by rfl) ?_;exact Zq) ?_
        |refine R.Zps (by rfl)
          (by intro _ _ _;(first
          |refine Z29 ?_|refine Z30 ?_|refine Z31 ?_|refine Z32 ?_);exact Zqq) ?_
        |refine R.Zps (by rfl)
          (by intro _ _ _;refine st_store_GL (m := 24) (by rfl) (by rfl) (by repeat (first | apply Find.here | apply Find.there)) (by rfl) (by first | with_reducible assumption | (simp; done)) (by first | with_reducible assumption | (simp; done)) ?_;exact Zqq) ?_
        |refine R.Zpn (by rfl)
          (by intro _ _ _;(first
          |refine Z81 fun _ => ?_|refine Z82 fun _ => ?_);exact R.Zpx) fun _ => ?_
        |refine R.Zpo (by rfl) ?_)
      refine R.Zp0 ?_
      repeat (first
        |refine Z01 ?_|refine Z03 ?_|refine Z04 ?_|refine Z05 ?_|refine Z06 ?_|refine Z07 ?_|refine Z08 ?_|refine Z09 ?_|refine Z10 ?_|refine Z11 ?_|refine Z12 ?_
        |refine Z13 ?_|refine Z14 ?_|refine Z24 ?_|refine Z25 ?_|refine Z26 ?_|refine Z27 ?_|refine Z28 ?_|refine Z29 ?_|refine Z30 ?_|refine Z31 ?_|refine Z32 ?_
        |refine Z49 ?_|refine Z50 ?_|refine Z51 ?_|refine Z52 ?_|refine Z53 ?_|refine Z65 ?_|refine Z67 ?_|refine Z77 ?_|refine Z78 ?_|refine Z79 ?_
        |refine Z81 fun _ => ?_|refine Z82 fun _ => ?_)
      refine st_endc_GL (m := 24) (by rfl) (by rfl) (by repeat (first | apply Find.here | apply Find.there)) (by rfl) (by rfl) (by first | with_reducible assumption | (simp; done)) fun _ hw => post_of hw SubW.nil ⟨?_, rfl⟩
      rfl
end Go.Proofs.Ytbpmbdlgmmabcaa.L
namespace Go.Proofs.Ytbpmbdlgmmabcaa.L
open Go Go.Proofs
set_option maxRecDepth 100000
attribute [local irreducible] Code.wp wpList Af bodyPost L.Go
open Num
attribute [local simp] D_len
/-- A point's words, ars they may be given. -/
abbrev G4 (a b e f : Nat) (i : Bool) : Value := GL ((D 6 a ++ D 6 b) ++ (D 6 e ++ D 6 f)) i
theorem b4E : (D 6 4 ++ D 6 4 : List Nat) = E2 b2c := by decide +kernel
theorem four6 : [4] ++ List.replicate (6 - [4].length) 0 = D 6 4 := by decide +kernel
theorem gb_spec : Spec Try.prog 80 [] NoPre [] (IsV (LV .u64 (E2 b2c))) := by
  refine mk_spec Try.func80 rfl rfl rfl fun w _ => ?_
  repeat (first
    |(refine st_alloc (v := LV .u64 (List.replicate 12 0)) (by rfl) (by rfl) fun _ => ?_)
    |((refine st_buildP (kk := .u64) (vs := [4]) (by rfl) (by rfl) (by rfl) (by rfl) (by rfl) (by rfl) (by rfl) (by rfl) ?_; rw [four6]))
    |(refine st_fld (by rfl) (by first | exact (show _ = some (0, 6) from rfl) | exact (show _ = some (6, 6) from rfl) | exact (show _ = some (0, 12) from rfl) | exact (show _ = some (12, 12) from rfl) | exact (show _ = some (24, 1) from rfl)) (by rfl) (by rfl) ?_)
    |((refine st_ldp (by rfl) (by repeat (first | apply Find.here | apply Find.there)) (by rfl) (by rfl) (by first | (refine PartAt.l ?_; (first | exact D_len _ _ | (simp; done))) | (refine PartAt.r ?_ ?_ <;> (first | exact D_len _ _ | (simp; done))) | (refine PartAt.all ?_; (first | exact D_len _ _ | (simp; done)))) (by rfl) ?_))
    |(refine st_build2 (by rfl) (by rfl) (by rfl) (by rfl) (by first | exact D_len _ _ | (simp; done)) (by first | exact D_len _ _ | (simp; done)) (by rfl) ?_)
    |(refine st_build2a (by rfl) (by rfl) (by rfl) (by rfl) (by first | exact D_len _ _ | (simp; done)) (by rfl) ?_)
    |(refine st_build2b (by rfl) (by rfl) (by rfl) (by rfl) (by first | exact D_len _ _ | (simp; done)) (by rfl) ?_)
    |(refine st_build20 (by rfl) (by rfl) (by rfl) (by rfl) ?_)
    |(refine st_eq2 (by rfl) (by rfl) (by rfl) (by kernel_rfl) (by rfl) (by rfl) (by rfl) (by rfl) (by rfl) (by rfl) (by rfl) (by rfl) (by rfl) (by rfl) (by kernel_rfl) (by first | exact D_len _ _ | (simp; done)) (by first | exact D_len _ _ | (simp; done)) (by first | exact D_len _ _ | (simp; done)) (by first | exact D_len _ _ | (simp; done)) (by rfl) ?_)
    |(refine st_ne2 (by rfl) (by rfl) (by rfl) (by kernel_rfl) (by rfl) (by rfl) (by rfl) (by rfl) (by rfl) (by rfl) (by rfl) (by rfl) (by rfl) (by rfl) (by kernel_rfl) (by first | exact D_len _ _ | (simp; done)) (by first | exact D_len _ _ | (simp; done)) (by first | exact D_len _ _ | (simp; done)) (by first | exact D_len _ _ | (simp; done)) (by rfl) ?_)
    |(refine st_fieldLV (by rfl) (by first | exact (show _ = some (0, 6) from rfl) | exact (show _ = some (6, 6) from rfl) | exact (show _ = some (0, 12) from rfl) | exact (show _ = some (12, 12) from rfl) | exact (show _ = some (24, 1) from rfl)) (by first | (refine PartAt.l ?_; (first | exact D_len _ _ | (simp; done))) | (refine PartAt.r ?_ ?_ <;> (first | exact D_len _ _ | (simp; done))) | (refine PartAt.all ?_; (first | exact D_len _ _ | (simp; done)))) (by rfl) (by rfl) ?_)
    |refine Z03 ?_|refine Z04 ?_|refine Z05 ?_|refine Z06 ?_|refine Z07 ?_|refine Z08 ?_|refine Z09 ?_|refine Z10 ?_|refine Z11 ?_|refine Z12 ?_|refine Z13 ?_
    |refine Z14 ?_|refine Z29 ?_|refine Z30 ?_|refine Z31 ?_|refine Z32 ?_|refine Z65 ?_|refine Z82 fun _ => ?_)
  refine Zec fun _ hw => post_of hw SubW.nil ⟨?_, rfl⟩
  rw [← b4E]
theorem gon_spec {a b e f : Nat} (ha : a < W ^ 6) (hb : b < W ^ 6) (he : e < W ^ 6) (hf : f < W ^ 6) (i : Bool) : Spec Try.prog 37 [G4 a b e f i] NoPre [] (IsV (.bool (i || decide (Kf.K2.mul (k2 e f) (k2 e f) = Kf.K2.add (Kf.K2.mul (Kf.K2.mul (k2 a b) (k2 a b)) (k2 a b)) b2c)))) := by
  refine mk_spec Try.func37 rfl rfl rfl fun w _ => ?_
  have hl0 := fun x => D_len 6 x
  have hle := fun x : F2 => E2_len x
  cases i with
  | true =>
    repeat (first
      |refine Z01 ?_|refine Z02 ?_|refine Z03 ?_|refine Z04 ?_|refine Z05 ?_|refine Z06 ?_|refine Z07 ?_|refine Z08 ?_|refine Z09 ?_|refine Z10 ?_|refine Z11 ?_
      |refine Z12 ?_|refine Z13 ?_|refine Z14 ?_|refine Z24 ?_|refine Z25 ?_|refine Z26 ?_|refine Z27 ?_|refine Z28 ?_|refine Z49 ?_|refine Z50 ?_|refine Z51 ?_
      |refine Z52 ?_|refine Z53 ?_|refine Z67 ?_|refine Z77 ?_|refine Z78 ?_|refine Z79 ?_|refine Z81 fun _ => ?_)
    refine st_draw1 (by rfl) ?_
    repeat (first
      |refine Zqf (by intro _ _ _;(first
        
        |(refine st_fld (by rfl) (by first | exact (show _ = some (0, 6) from rfl) | exact (show _ = some (6, 6) from rfl) | exact (show _ = some (0, 12) from rfl) | exact (show _ = some (12, 12) from rfl) | exact (show _ = some (24, 1) from rfl)) (by rfl) (by rfl) ?_)
        |(refine st_build2 (by rfl) (by rfl) (by rfl) (by rfl) (by first | exact D_len _ _ | (simp; done)) (by first | exact D_len _ _ | (simp; done)) (by rfl) ?_)
        |(refine st_build2a (by rfl) (by rfl) (by rfl) (by rfl) (by first | exact D_len _ _ | (simp; done)) (by rfl) ?_)
        |(refine st_build2b (by rfl) (by rfl) (by rfl) (by rfl) (by first | exact D_len _ _ | (simp; done)) (by rfl) ?_)
        |(refine st_build20 (by rfl) (by rfl) (by rfl) (by rfl) ?_)
        |(refine st_eq2 (by rfl) (by rfl) (by rfl) (by kernel_rfl) (by rfl) (by rfl) (by rfl) (by rfl) (by rfl) (by rfl) (by rfl) (by rfl) (by rfl) (by rfl) (by kernel_rfl) (by first | exact D_len _ _ | (simp; done)) (by first | exact D_len _ _ | (simp; done)) (by first | exact D_len _ _ | (simp; done)) (by first | exact D_len _ _ | (simp; done)) (by rfl) ?_)
        |(refine st_ne2 (by rfl) (by rfl) (by rfl) (by kernel_rfl) (by rfl) (by rfl) (by rfl) (by rfl) (by rfl) (by rfl) (by rfl) (by rfl) (by rfl) (by rfl) (by kernel_rfl) (by first | exact D_len _ _ | (simp; done)) (by first | exact D_len _ _ | (simp; done)) (by first | exact D_len _ _ | (simp; done)) (by first | exact D_len _ _ | (simp; done)) (by rfl) ?_)
        |(refine st_fieldLV (by rfl) (by first | exact (show _ = some (0, 6) from rfl) | exact (show _ = some (6, 6) from rfl) | exact (show _ = some (0, 12) from rfl) | exact (show _ = some (12, 12) from rfl) | exact (show _ = some (24, 1) from rfl)) (by first | (refine PartAt.l ?_; (first | exact D_len _ _ | (simp; done))) | (refine PartAt.r ?_ ?_ <;> (first | exact D_len _ _ | (simp; done))) | (refine PartAt.all ?_; (first | exact D_len _ _ | (simp; done)))) (by rfl) (by rfl) ?_)
        |refine Z01 ?_|refine Z02 ?_|refine Z49 ?_|refine Z50 ?_|refine Z77 ?_|refine Z78 ?_|refine Z79 ?_);exact Zq) ?_
      |refine Zqp (by intro _ _ _;(refine st_ldp (by rfl) (by repeat (first | apply Find.here | apply Find.there)) (by rfl) (by rfl) (by first | (refine PartAt.l ?_; (first | exact D_len _ _ | (simp; done))) | (refine PartAt.r ?_ ?_ <;> (first | exact D_len _ _ | (simp; done))) | (refine PartAt.all ?_; (first | exact D_len _ _ | (simp; done)))) (by rfl) ?_);exact Zq) ?_
      |refine Zqp (by intro _ _ _;refine st_ldbG (by rfl) (by repeat (first | apply Find.here | apply Find.there)) (by rfl) (by first | with_reducible assumption | (simp; done)) (by rfl) ?_;exact Zq) ?_
      |refine Zqp (by intro _ _ _;(first
        |refine Z24 ?_|refine Z25 ?_|refine Z26 ?_|refine Z27 ?_|refine Z28 ?_|refine Z67 ?_);exact Zq) ?_
      |refine Zqn ?_)
    refine Zq0 ?_ (by kernel_rfl)
    repeat (first
      |refine Z01 ?_|refine Z02 ?_|refine Z03 ?_|refine Z04 ?_|refine Z05 ?_|refine Z06 ?_|refine Z07 ?_|refine Z08 ?_|refine Z09 ?_|refine Z10 ?_|refine Z11 ?_
      |refine Z12 ?_|refine Z13 ?_|refine Z14 ?_|refine Z24 ?_|refine Z25 ?_|refine Z26 ?_|refine Z27 ?_|refine Z28 ?_|refine Z49 ?_|refine Z50 ?_|refine Z51 ?_
      |refine Z52 ?_|refine Z53 ?_|refine Z67 ?_|refine Z77 ?_|refine Z78 ?_|refine Z79 ?_|refine Z81 fun _ => ?_)
    refine Ze1 fun _ hw => post_of hw SubW.nil ⟨?_, rfl⟩
    rfl
  | false =>
    rw [Bool.false_or]
    have hm1 := smul_spec he hf he hf
    have hm2 := smul_spec ha hb ha hb
    have hm3 := smulX ha hb (Kf.K2.mul (k2 a b) (k2 a b))
    generalize k2 a b = x at hm2 hm3 ⊢
    generalize k2 e f = y at hm1 ⊢
    have had := saddE (Kf.K2.mul (Kf.K2.mul x x) x) b2c
    generalize Kf.K2.add (Kf.K2.mul (Kf.K2.mul x x) x) b2c = r at had ⊢
    generalize Kf.K2.mul (Kf.K2.mul x x) x = r1 at hm3 had
    generalize Kf.K2.mul x x = r2 at hm2 hm3
    generalize Kf.K2.mul y y = q at hm1 ⊢
    repeat (first
      |refine Z01 ?_|refine Z02 ?_|refine Z03 ?_|refine Z04 ?_|refine Z05 ?_|refine Z06 ?_|refine Z07 ?_|refine Z08 ?_|refine Z09 ?_|refine Z10 ?_|refine Z11 ?_
      |refine Z12 ?_|refine Z13 ?_|refine Z14 ?_|refine Z24 ?_|refine Z25 ?_|refine Z26 ?_|refine Z27 ?_|refine Z28 ?_|refine Z49 ?_|refine Z50 ?_|refine Z51 ?_
      |refine Z52 ?_|refine Z53 ?_|refine Z67 ?_|refine Z77 ?_|refine Z78 ?_|refine Z79 ?_|refine Z81 fun _ => ?_)
    refine st_draw1 (by rfl) ?_
    repeat (first
      |refine Zqf (by intro _ _ _;(first
        
        |((refine st_eq2v (hr := E2_iff q r) (by rfl) (by rfl) (by rfl) (by kernel_rfl) (by rfl) (by rfl) (by rfl) (by rfl) (by rfl) (by rfl) (by rfl) (by rfl) (by rfl) (by rfl) (by kernel_rfl) (by first | exact D_len _ _ | (simp; done)) (by first | exact D_len _ _ | (simp; done)) (by first | exact D_len _ _ | (simp; done)) (by first | exact D_len _ _ | (simp; done)) (by rfl) ?_))
        |(refine st_fld (by rfl) (by first | exact (show _ = some (0, 6) from rfl) | exact (show _ = some (6, 6) from rfl) | exact (show _ = some (0, 12) from rfl) | exact (show _ = some (12, 12) from rfl) | exact (show _ = some (24, 1) from rfl)) (by rfl) (by rfl) ?_)
        |(refine st_build2 (by rfl) (by rfl) (by rfl) (by rfl) (by first | exact D_len _ _ | (simp; done)) (by first | exact D_len _ _ | (simp; done)) (by rfl) ?_)
        |(refine st_build2a (by rfl) (by rfl) (by rfl) (by rfl) (by first | exact D_len _ _ | (simp; done)) (by rfl) ?_)
        |(refine st_build2b (by rfl) (by rfl) (by rfl) (by rfl) (by first | exact D_len _ _ | (simp; done)) (by rfl) ?_)
        |(refine st_build20 (by rfl) (by rfl) (by rfl) (by rfl) ?_)
        |(refine st_eq2 (by rfl) (by rfl) (by rfl) (by kernel_rfl) (by rfl) (by rfl) (by rfl) (by rfl) (by rfl) (by rfl) (by rfl) (by rfl) (by rfl) (by rfl) (by kernel_rfl) (by first | exact D_len _ _ | (simp; done)) (by first | exact D_len _ _ | (simp; done)) (by first | exact D_len _ _ | (simp; done)) (by first | exact D_len _ _ | (simp; done)) (by rfl) ?_)
        |(refine st_ne2 (by rfl) (by rfl) (by rfl) (by kernel_rfl) (by rfl) (by rfl) (by rfl) (by rfl) (by rfl) (by rfl) (by rfl) (by rfl) (by rfl) (by rfl) (by kernel_rfl) (by first | exact D_len _ _ | (simp; done)) (by first | exact D_len _ _ | (simp; done)) (by first | exact D_len _ _ | (simp; done)) (by first | exact D_len _ _ | (simp; done)) (by rfl) ?_)
        |(refine st_fieldLV (by rfl) (by first | exact (show _ = some (0, 6) from rfl) | exact (show _ = some (6, 6) from rfl) | exact (show _ = some (0, 12) from rfl) | exact (show _ = some (12, 12) from rfl) | exact (show _ = some (24, 1) from rfl)) (by first | (refine PartAt.l ?_; (first | exact D_len _ _ | (simp; done))) | (refine PartAt.r ?_ ?_ <;> (first | exact D_len _ _ | (simp; done))) | (refine PartAt.all ?_; (first | exact D_len _ _ | (simp; done)))) (by rfl) (by rfl) ?_)
        |refine Z01 ?_|refine Z02 ?_|refine Z49 ?_|refine Z50 ?_|refine Z77 ?_|refine Z78 ?_|refine Z79 ?_);exact Zq) ?_
      |refine Zqp (by intro _ _ _;(refine st_ldp (by rfl) (by repeat (first | apply Find.here | apply Find.there)) (by rfl) (by rfl) (by first | (refine PartAt.l ?_; (first | exact D_len _ _ | (simp; done))) | (refine PartAt.r ?_ ?_ <;> (first | exact D_len _ _ | (simp; done))) | (refine PartAt.all ?_; (first | exact D_len _ _ | (simp; done)))) (by rfl) ?_);exact Zq) ?_
      |refine Zqp (by intro _ _ _;refine st_ldbG (by rfl) (by repeat (first | apply Find.here | apply Find.there)) (by rfl) (by first | with_reducible assumption | (simp; done)) (by rfl) ?_;exact Zq) ?_
      |refine Zqp (by intro _ _ _;(refine st_ldpG (by rfl) (by repeat (first | apply Find.here | apply Find.there)) (by rfl) (by rfl) (by first | (refine PartAt.l ?_; (first | exact D_len _ _ | (simp; done))) | (refine PartAt.r ?_ ?_ <;> (first | exact D_len _ _ | (simp; done))) | (refine PartAt.all ?_; (first | exact D_len _ _ | (simp; done)))) (by rfl) ?_);exact Zq) ?_
      |refine Zqp (by intro _ _ _;refine st_callV (by rfl) (by rfl) (by rfl) (gb_spec) (fun _ _ => trivial) (by rfl) ?_;exact Zq) ?_
      |refine Zqp (by intro _ _ _;refine st_callV (by rfl) (by rfl) (by rfl) (hm1) (fun _ _ => trivial) (by rfl) ?_;exact Zq) ?_
      |refine Zqp (by intro _ _ _;refine st_callV (by rfl) (by rfl) (by rfl) (hm2) (fun _ _ => trivial) (by rfl) ?_;exact Zq) ?_
      |refine Zqp (by intro _ _ _;refine st_callV (by rfl) (by rfl) (by rfl) (hm3) (fun _ _ => trivial) (by rfl) ?_;exact Zq) ?_
      |refine Zqp (by intro _ _ _;refine st_callV (by rfl) (by rfl) (by rfl) (had) (fun _ _ => trivial) (by rfl) ?_;exact Zq) ?_
      |refine Zqp (by intro _ _ _;(first
        |refine Z24 ?_|refine Z25 ?_|refine Z26 ?_|refine Z27 ?_|refine Z28 ?_|refine Z67 ?_);exact Zq) ?_
      |refine Zqn ?_)
    refine Zq0 ?_ (by kernel_rfl)
    repeat (first
      |refine Z01 ?_|refine Z02 ?_|refine Z03 ?_|refine Z04 ?_|refine Z05 ?_|refine Z06 ?_|refine Z07 ?_|refine Z08 ?_|refine Z09 ?_|refine Z10 ?_|refine Z11 ?_
      |refine Z12 ?_|refine Z13 ?_|refine Z14 ?_|refine Z24 ?_|refine Z25 ?_|refine Z26 ?_|refine Z27 ?_|refine Z28 ?_|refine Z49 ?_|refine Z50 ?_|refine Z51 ?_
      |refine Z52 ?_|refine Z53 ?_|refine Z67 ?_|refine Z77 ?_|refine Z78 ?_|refine Z79 ?_|refine Z81 fun _ => ?_)
    refine Ze1 fun _ hw => post_of hw SubW.nil ⟨?_, rfl⟩
    rfl
end Go.Proofs.Ytbpmbdlgmmabcaa.L
namespace Go.Proofs.Ytbpmbdlgmmabcaa.L
open Go Go.Proofs
set_option maxRecDepth 100000
attribute [local irreducible] Code.wp wpList Af bodyPost L.Go
open Num
attribute [local simp] D_len
theorem mapP_sgn (u : F2) : Kf.K2.sgn (mapP u).2 = Kf.K2.sgn u := by
  obtain ⟨x, e, h⟩ := mapP_root u
  rw [e]
  exact rootd_sgn (Kf.K2.sgn_lt u) h (side_ne x)
theorem isoP_on {x y : F2} (h : Kf.K2.mul y y = side x) : isoP x y = (phx x, phy x y, false) :=
  isoP_0 rfl rfl rfl rfl (lin_Q2 (lin_ne h)) (lin_Q4 (lin_ne h))
theorem mapE (x : F2) : Spec Try.prog 35 [LV .u64 (E2 x)] NoPre [] (IsV (.tuple [LV .u64 (E2 (mapP x).1), LV .u64 (E2 (mapP x).2)].toArray)) := by
  have := map_spec (val_lt x.re) (val_lt x.im); rwa [k2_val] at this
theorem isoE (x y : F2) : Spec Try.prog 30 [LV .u64 (E2 x), LV .u64 (E2 y)] NoPre [] (IsV (GE (isoP x y).1 (isoP x y).2.1 (isoP x y).2.2)) := by
  have := iso_spec (val_lt x.re) (val_lt x.im) (val_lt y.re) (val_lt y.im); rwa [k2_val, k2_val] at this
theorem isoT {x y : F2} (h : Kf.K2.mul y y = side x) : Spec Try.prog 30 [LV .u64 (E2 x), LV .u64 (E2 y)] NoPre [] (IsV (GE (phx x) (phy x y) false)) := by
  have := isoE x y; rwa [isoP_on h] at this
theorem onE (x y : F2) : Spec Try.prog 36 [LV .u64 (E2 x), LV .u64 (E2 y)] NoPre [] (IsV (.bool (decide (Kf.K2.mul y y = side x)))) := by
  have := on_spec (val_lt x.re) (val_lt x.im) (val_lt y.re) (val_lt y.im); rwa [k2_val, k2_val] at this
theorem onT {x y : F2} (h : Kf.K2.mul y y = side x) : Spec Try.prog 36 [LV .u64 (E2 x), LV .u64 (E2 y)] NoPre [] (IsV (.bool true)) := by
  have := onE x y; rwa [decide_eq_true h] at this
theorem gonT {x y : F2} (h : Kf.K2.mul y y = Kf.K2.add (Kf.K2.mul (Kf.K2.mul x x) x) b2c) : Spec Try.prog 37 [GE x y false] NoPre [] (IsV (.bool true)) := by
  have := gon_spec (val_lt x.re) (val_lt x.im) (val_lt y.re) (val_lt y.im) false; rwa [k2_val, k2_val, Bool.false_or, decide_eq_true h] at this
theorem sgnT {x : F2} {k : Nat} (h : Kf.K2.sgn x = k) : Spec Try.prog 23 [LV .u64 (E2 x)] NoPre [] (IsV (N .i64 k)) := by
  have := ssignE x; rwa [h] at this
theorem zero_off : ¬ Kf.K2.mul (Kf.K2.zero : F2) Kf.K2.zero = side Kf.K2.zero := by decide +kernel
theorem onF : Spec Try.prog 36 [LV .u64 (E2 (Kf.K2.zero : F2)), LV .u64 (E2 (Kf.K2.zero : F2))] NoPre [] (IsV (.bool false)) := by
  have := onE Kf.K2.zero Kf.K2.zero; rwa [decide_eq_false zero_off] at this
set_option maxHeartbeats 4000000 in
theorem awake18_spec : Spec Try.prog 29 [] NoPre [] (IsV (.bool true)) := by
  refine mk_spec Try.func29 rfl rfl rfl fun w _ => ?_
  have hl0 := fun x => D_len 6 x
  have hle := fun x : F2 => E2_len x
  have h1 := mapE Kf.K2.one
  have h0 := mapE Kf.K2.zero
  have g1 := sgnT (show Kf.K2.sgn (mapP Kf.K2.one).2 = 1 from (mapP_sgn _).trans (by decide +kernel))
  have g0 := sgnT (show Kf.K2.sgn (mapP Kf.K2.zero).2 = 0 from (mapP_sgn _).trans (by decide +kernel))
  have ho := mapP_on Kf.K2.one
  generalize mapP Kf.K2.zero = q at h0 g0
  generalize mapP Kf.K2.one = r at h1 g1 ho
  obtain ⟨x, y⟩ := r
  obtain ⟨v, z⟩ := q
  simp only at h1 h0 g1 g0 ho
  have k1 := onT ho
  have k2 := isoT ho
  have k3 := gonT (ph_on ho)
  generalize phx x = a at k2 k3
  generalize phy x y = b at k2 k3
  repeat (first
    |(refine st_alloc (v := LV .u64 (List.replicate 12 0)) (by rfl) (by rfl) fun _ => ?_)
    |(refine st_buildP (kk := .u64) (vs := [1]) (by rfl) (by rfl) (by rfl) (by rfl) (by rfl) (by rfl) (by rfl) (by rfl) ?_; rw [one6])
    |((refine st_build2a (by rfl) (by rfl) (by rfl) (by rfl) (by first | exact D_len _ _ | (simp; done)) (by rfl) ?_; rw [oneE]))
    |((refine st_build20 (k := .u64) (z := List.replicate 12 0) (by rfl) (by rfl) (by rfl) (by rfl) ?_; rw [zero12]))
    |(refine st_callV (by rfl) (by rfl) (by rfl) (h1) (fun _ _ => trivial) (by rfl) ?_)|(refine st_callV (by rfl) (by rfl) (by rfl) (h0) (fun _ _ => trivial) (by rfl) ?_)
    |(refine st_callV (by rfl) (by rfl) (by rfl) (k1) (fun _ _ => trivial) (by rfl) ?_)
    |(refine st_callV (by rfl) (by rfl) (by rfl) (onF) (fun _ _ => trivial) (by rfl) ?_)
    |(refine st_callV (by rfl) (by rfl) (by rfl) (k2) (fun _ _ => trivial) (by rfl) ?_)|(refine st_callV (by rfl) (by rfl) (by rfl) (k3) (fun _ _ => trivial) (by rfl) ?_)
    |(refine st_callV (by rfl) (by rfl) (by rfl) (g1) (fun _ _ => trivial) (by rfl) ?_)|(refine st_callV (by rfl) (by rfl) (by rfl) (g0) (fun _ _ => trivial) (by rfl) ?_)
    |(refine st_cmp (r := true) (by rfl) (by rfl) (cmpN_t (by first | (simp only [cmpP]; done) | (simp only [cmpP]; omega))) (by rfl) ?_)|refine Z01 ?_|refine Z02 ?_
    |refine Z03 ?_|refine Z04 ?_|refine Z05 ?_|refine Z06 ?_|refine Z07 ?_|refine Z08 ?_|refine Z09 ?_|refine Z10 ?_|refine Z11 ?_|refine Z12 ?_|refine Z13 ?_
    |refine Z14 ?_|refine Z17 ?_|refine Z18 ?_|refine Z19 ?_|refine Z24 ?_|refine Z25 ?_|refine Z26 ?_|refine Z27 ?_|refine Z28 ?_|refine Z29 ?_|refine Z30 ?_
    |refine Z31 ?_|refine Z32 ?_|refine Z49 ?_|refine Z50 ?_|refine Z51 ?_|refine Z52 ?_|refine Z53 ?_|refine Z54 ?_|refine Z65 ?_|refine Z67 ?_|refine Z82 fun _ => ?_)
  refine Ze1 fun _ hw => post_of hw SubW.nil ⟨?_, rfl⟩
  rfl
end Go.Proofs.Ytbpmbdlgmmabcaa.L
namespace Go.Proofs.Ytbpmbdlgmmabcaa.L
open Go Go.Proofs
set_option maxRecDepth 100000
attribute [local irreducible] Code.wp wpList Af bodyPost L.Go
open Num
attribute [local simp] D_len
theorem geq_same (x y : F2) (i : Bool) : (((decide (D 6 x.re.val = D 6 x.re.val) && decide (D 6 x.im.val = D 6 x.im.val)) && (decide (D 6 y.re.val = D 6 y.re.val) && decide (D 6 y.im.val = D 6 y.im.val))) && decide (i = i)) = true := by
  rw [E2_same, E2_same, decide_eq_true rfl]; rfl
end Go.Proofs.Ytbpmbdlgmmabcaa.L
namespace Go.Proofs.Ytbpmbdlgmmabcaa.L
open Go Go.Proofs
set_option maxRecDepth 100000
attribute [local irreducible] Code.wp wpList Af bodyPost L.Go
open Num
attribute [local simp] D_len
set_option maxHeartbeats 8000000 in
theorem lawIsos18_spec (y : List Nat) (n1 : y.length = 12) (h1 : Lt 18446744073709551616 y) (z : List Nat) (n2 : z.length = 12) (h2 : Lt 18446744073709551616 z) :
    Spec Try.prog 13 [LV .u64 y, LV .u64 z] NoPre [] (IsV (.bool true)) := by
  obtain ⟨a, b, ha, hb, rfl⟩ := arr12 n1 h1
  obtain ⟨e, f, he, hf, rfl⟩ := arr12 n2 h2
  refine mk_spec Try.func13 rfl rfl rfl fun w hr => ?_
  have hl0 := fun x => D_len 6 x
  have hle := fun x : F2 => E2_len x
  have hm := iso_spec ha hb he hf
  have hn := riso_spec ha hb he hf
  have ho := on_spec ha hb he hf
  have hq := ron_spec ha hb he hf
  generalize isoP (k2 a b) (k2 e f) = r at hm hn
  obtain ⟨x, y, i⟩ := r
  simp only at hm hn
  generalize decide (Kf.K2.mul (k2 e f) (k2 e f) = side (k2 a b)) = c at ho hq
  cases c with
  | true =>
    repeat (first
      |(refine st_alloc (v := LV .u64 (List.replicate 12 0)) (by rfl) (by rfl) fun _ => ?_)
      |(refine st_callV (by rfl) (by rfl) (by rfl) (awake18_spec) (fun _ _ => trivial) (by rfl) ?_)|refine Z01 ?_|refine Z02 ?_|refine Z03 ?_|refine Z04 ?_|refine Z05 ?_
      |refine Z06 ?_|refine Z07 ?_|refine Z08 ?_|refine Z09 ?_|refine Z10 ?_|refine Z11 ?_|refine Z12 ?_|refine Z13 ?_|refine Z14 ?_|refine Z24 ?_|refine Z25 ?_
      |refine Z26 ?_|refine Z27 ?_|refine Z28 ?_|refine Z49 ?_|refine Z50 ?_|refine Z51 ?_|refine Z52 ?_|refine Z53 ?_|refine Z67 ?_|refine Z68 ?_|refine Z69 ?_
      |refine Z77 ?_|refine Z78 ?_|refine Z79 ?_|refine Z81 fun _ => ?_)
    refine st_draw1 (by rfl) ?_
    repeat (first
      |refine Zqf (by intro _ _ _;(first
        
        |((refine st_eqGv (m := 6) (hr := geq_same _ _ _) (by rfl) (by rfl) (by rfl) (by kernel_rfl) (by rfl) (by rfl) (by rfl) (by rfl) (by rfl) (by rfl) (by rfl) (by rfl) (by rfl) (by rfl) (by rfl) (by kernel_rfl) (by rfl) (by rfl) (by rfl) (by rfl) (by rfl) (by rfl) (by rfl) (by rfl) (by rfl) (by rfl) (by kernel_rfl) (by first | exact D_len _ _ | (simp; done)) (by first | exact D_len _ _ | (simp; done)) (by first | exact D_len _ _ | (simp; done)) (by first | exact D_len _ _ | (simp; done)) (by first | exact D_len _ _ | (simp; done)) (by first | exact D_len _ _ | (simp; done)) (by first | exact D_len _ _ | (simp; done)) (by first | exact D_len _ _ | (simp; done)) (by rfl) ?_))
        |(refine st_fld (by rfl) (by first | exact (show _ = some (0, 6) from rfl) | exact (show _ = some (6, 6) from rfl) | exact (show _ = some (0, 12) from rfl) | exact (show _ = some (12, 12) from rfl) | exact (show _ = some (24, 1) from rfl)) (by rfl) (by rfl) ?_)
        |(refine st_build2 (by rfl) (by rfl) (by rfl) (by rfl) (by first | exact D_len _ _ | (simp; done)) (by first | exact D_len _ _ | (simp; done)) (by rfl) ?_)
        |(refine st_build2a (by rfl) (by rfl) (by rfl) (by rfl) (by first | exact D_len _ _ | (simp; done)) (by rfl) ?_)
        |(refine st_build2b (by rfl) (by rfl) (by rfl) (by rfl) (by first | exact D_len _ _ | (simp; done)) (by rfl) ?_)
        |(refine st_build20 (by rfl) (by rfl) (by rfl) (by rfl) ?_)
        |(refine st_eq2 (by rfl) (by rfl) (by rfl) (by kernel_rfl) (by rfl) (by rfl) (by rfl) (by rfl) (by rfl) (by rfl) (by rfl) (by rfl) (by rfl) (by rfl) (by kernel_rfl) (by first | exact D_len _ _ | (simp; done)) (by first | exact D_len _ _ | (simp; done)) (by first | exact D_len _ _ | (simp; done)) (by first | exact D_len _ _ | (simp; done)) (by rfl) ?_)
        |(refine st_ne2 (by rfl) (by rfl) (by rfl) (by kernel_rfl) (by rfl) (by rfl) (by rfl) (by rfl) (by rfl) (by rfl) (by rfl) (by rfl) (by rfl) (by rfl) (by kernel_rfl) (by first | exact D_len _ _ | (simp; done)) (by first | exact D_len _ _ | (simp; done)) (by first | exact D_len _ _ | (simp; done)) (by first | exact D_len _ _ | (simp; done)) (by rfl) ?_)
        |(refine st_fieldLV (by rfl) (by first | exact (show _ = some (0, 6) from rfl) | exact (show _ = some (6, 6) from rfl) | exact (show _ = some (0, 12) from rfl) | exact (show _ = some (12, 12) from rfl) | exact (show _ = some (24, 1) from rfl)) (by first | (refine PartAt.l ?_; (first | exact D_len _ _ | (simp; done))) | (refine PartAt.r ?_ ?_ <;> (first | exact D_len _ _ | (simp; done))) | (refine PartAt.all ?_; (first | exact D_len _ _ | (simp; done)))) (by rfl) (by rfl) ?_)
        |refine Z01 ?_|refine Z02 ?_|refine Z49 ?_|refine Z50 ?_|refine Z68 ?_|refine Z69 ?_|refine Z77 ?_|refine Z78 ?_|refine Z79 ?_);exact Zq) ?_
      |refine Zqp (by intro _ _ _;(refine st_ldp (by rfl) (by repeat (first | apply Find.here | apply Find.there)) (by rfl) (by rfl) (by first | (refine PartAt.l ?_; (first | exact D_len _ _ | (simp; done))) | (refine PartAt.r ?_ ?_ <;> (first | exact D_len _ _ | (simp; done))) | (refine PartAt.all ?_; (first | exact D_len _ _ | (simp; done)))) (by rfl) ?_);exact Zq) ?_
      |refine Zqp (by intro _ _ _;refine st_callV (by rfl) (by rfl) (by rfl) (hm) (fun _ _ => trivial) (by rfl) ?_;exact Zq) ?_
      |refine Zqp (by intro _ _ _;refine st_callV (by rfl) (by rfl) (by rfl) (hn) (fun _ _ => trivial) (by rfl) ?_;exact Zq) ?_
      |refine Zqp (by intro _ _ _;refine st_callV (by rfl) (by rfl) (by rfl) (ho) (fun _ _ => trivial) (by rfl) ?_;exact Zq) ?_
      |refine Zqp (by intro _ _ _;refine st_callV (by rfl) (by rfl) (by rfl) (hq) (fun _ _ => trivial) (by rfl) ?_;exact Zq) ?_
      |refine Zqp (by intro _ _ _;(first
        |refine Z24 ?_|refine Z25 ?_|refine Z26 ?_|refine Z27 ?_|refine Z28 ?_|refine Z67 ?_);exact Zq) ?_
      |refine Zqn ?_)
    refine Zq0 ?_ (by kernel_rfl)
    repeat (first
      |refine Z01 ?_|refine Z02 ?_|refine Z03 ?_|refine Z04 ?_|refine Z05 ?_|refine Z06 ?_|refine Z07 ?_|refine Z08 ?_|refine Z09 ?_|refine Z10 ?_|refine Z11 ?_
      |refine Z12 ?_|refine Z13 ?_|refine Z14 ?_|refine Z24 ?_|refine Z25 ?_|refine Z26 ?_|refine Z27 ?_|refine Z28 ?_|refine Z49 ?_|refine Z50 ?_|refine Z51 ?_
      |refine Z52 ?_|refine Z53 ?_|refine Z67 ?_|refine Z68 ?_|refine Z69 ?_|refine Z77 ?_|refine Z78 ?_|refine Z79 ?_|refine Z81 fun _ => ?_)
    refine Ze1 fun _ hw => post_of hw SubW.nil ⟨?_, rfl⟩
    rfl
  | false =>
    repeat (first
      |(refine st_alloc (v := LV .u64 (List.replicate 12 0)) (by rfl) (by rfl) fun _ => ?_)
      |(refine st_callV (by rfl) (by rfl) (by rfl) (awake18_spec) (fun _ _ => trivial) (by rfl) ?_)|refine Z01 ?_|refine Z02 ?_|refine Z03 ?_|refine Z04 ?_|refine Z05 ?_
      |refine Z06 ?_|refine Z07 ?_|refine Z08 ?_|refine Z09 ?_|refine Z10 ?_|refine Z11 ?_|refine Z12 ?_|refine Z13 ?_|refine Z14 ?_|refine Z24 ?_|refine Z25 ?_
      |refine Z26 ?_|refine Z27 ?_|refine Z28 ?_|refine Z49 ?_|refine Z50 ?_|refine Z51 ?_|refine Z52 ?_|refine Z53 ?_|refine Z67 ?_|refine Z68 ?_|refine Z69 ?_
      |refine Z77 ?_|refine Z78 ?_|refine Z79 ?_|refine Z81 fun _ => ?_)
    refine st_draw1 (by rfl) ?_
    repeat (first
      |refine Zqf (by intro _ _ _;(first
        
        |((refine st_eqGv (m := 6) (hr := geq_same _ _ _) (by rfl) (by rfl) (by rfl) (by kernel_rfl) (by rfl) (by rfl) (by rfl) (by rfl) (by rfl) (by rfl) (by rfl) (by rfl) (by rfl) (by rfl) (by rfl) (by kernel_rfl) (by rfl) (by rfl) (by rfl) (by rfl) (by rfl) (by rfl) (by rfl) (by rfl) (by rfl) (by rfl) (by kernel_rfl) (by first | exact D_len _ _ | (simp; done)) (by first | exact D_len _ _ | (simp; done)) (by first | exact D_len _ _ | (simp; done)) (by first | exact D_len _ _ | (simp; done)) (by first | exact D_len _ _ | (simp; done)) (by first | exact D_len _ _ | (simp; done)) (by first | exact D_len _ _ | (simp; done)) (by first | exact D_len _ _ | (simp; done)) (by rfl) ?_))
        |(refine st_fld (by rfl) (by first | exact (show _ = some (0, 6) from rfl) | exact (show _ = some (6, 6) from rfl) | exact (show _ = some (0, 12) from rfl) | exact (show _ = some (12, 12) from rfl) | exact (show _ = some (24, 1) from rfl)) (by rfl) (by rfl) ?_)
        |(refine st_build2 (by rfl) (by rfl) (by rfl) (by rfl) (by first | exact D_len _ _ | (simp; done)) (by first | exact D_len _ _ | (simp; done)) (by rfl) ?_)
        |(refine st_build2a (by rfl) (by rfl) (by rfl) (by rfl) (by first | exact D_len _ _ | (simp; done)) (by rfl) ?_)
        |(refine st_build2b (by rfl) (by rfl) (by rfl) (by rfl) (by first | exact D_len _ _ | (simp; done)) (by rfl) ?_)
        |(refine st_build20 (by rfl) (by rfl) (by rfl) (by rfl) ?_)
        |(refine st_eq2 (by rfl) (by rfl) (by rfl) (by kernel_rfl) (by rfl) (by rfl) (by rfl) (by rfl) (by rfl) (by rfl) (by rfl) (by rfl) (by rfl) (by rfl) (by kernel_rfl) (by first | exact D_len _ _ | (simp; done)) (by first | exact D_len _ _ | (simp; done)) (by first | exact D_len _ _ | (simp; done)) (by first | exact D_len _ _ | (simp; done)) (by rfl) ?_)
        |(refine st_ne2 (by rfl) (by rfl) (by rfl) (by kernel_rfl) (by rfl) (by rfl) (by rfl) (by rfl) (by rfl) (by rfl) (by rfl) (by rfl) (by rfl) (by rfl) (by kernel_rfl) (by first | exact D_len _ _ | (simp; done)) (by first | exact D_len _ _ | (simp; done)) (by first | exact D_len _ _ | (simp; done)) (by first | exact D_len _ _ | (simp; done)) (by rfl) ?_)
        |(refine st_fieldLV (by rfl) (by first | exact (show _ = some (0, 6) from rfl) | exact (show _ = some (6, 6) from rfl) | exact (show _ = some (0, 12) from rfl) | exact (show _ = some (12, 12) from rfl) | exact (show _ = some (24, 1) from rfl)) (by first | (refine PartAt.l ?_; (first | exact D_len _ _ | (simp; done))) | (refine PartAt.r ?_ ?_ <;> (first | exact D_len _ _ | (simp; done))) | (refine PartAt.all ?_; (first | exact D_len _ _ | (simp; done)))) (by rfl) (by rfl) ?_)
        |refine Z01 ?_|refine Z02 ?_|refine Z49 ?_|refine Z50 ?_|refine Z68 ?_|refine Z69 ?_|refine Z77 ?_|refine Z78 ?_|refine Z79 ?_);exact Zq) ?_
      |refine Zqp (by intro _ _ _;(refine st_ldp (by rfl) (by repeat (first | apply Find.here | apply Find.there)) (by rfl) (by rfl) (by first | (refine PartAt.l ?_; (first | exact D_len _ _ | (simp; done))) | (refine PartAt.r ?_ ?_ <;> (first | exact D_len _ _ | (simp; done))) | (refine PartAt.all ?_; (first | exact D_len _ _ | (simp; done)))) (by rfl) ?_);exact Zq) ?_
      |refine Zqp (by intro _ _ _;refine st_callV (by rfl) (by rfl) (by rfl) (hm) (fun _ _ => trivial) (by rfl) ?_;exact Zq) ?_
      |refine Zqp (by intro _ _ _;refine st_callV (by rfl) (by rfl) (by rfl) (hn) (fun _ _ => trivial) (by rfl) ?_;exact Zq) ?_
      |refine Zqp (by intro _ _ _;refine st_callV (by rfl) (by rfl) (by rfl) (ho) (fun _ _ => trivial) (by rfl) ?_;exact Zq) ?_
      |refine Zqp (by intro _ _ _;refine st_callV (by rfl) (by rfl) (by rfl) (hq) (fun _ _ => trivial) (by rfl) ?_;exact Zq) ?_
      |refine Zqp (by intro _ _ _;(first
        |refine Z24 ?_|refine Z25 ?_|refine Z26 ?_|refine Z27 ?_|refine Z28 ?_|refine Z67 ?_);exact Zq) ?_
      |refine Zqn ?_)
    refine Zq0 ?_ (by kernel_rfl)
    repeat (first
      |refine Z01 ?_|refine Z02 ?_|refine Z03 ?_|refine Z04 ?_|refine Z05 ?_|refine Z06 ?_|refine Z07 ?_|refine Z08 ?_|refine Z09 ?_|refine Z10 ?_|refine Z11 ?_
      |refine Z12 ?_|refine Z13 ?_|refine Z14 ?_|refine Z24 ?_|refine Z25 ?_|refine Z26 ?_|refine Z27 ?_|refine Z28 ?_|refine Z49 ?_|refine Z50 ?_|refine Z51 ?_
      |refine Z52 ?_|refine Z53 ?_|refine Z67 ?_|refine Z68 ?_|refine Z69 ?_|refine Z77 ?_|refine Z78 ?_|refine Z79 ?_|refine Z81 fun _ => ?_)
    refine Ze1 fun _ hw => post_of hw SubW.nil ⟨?_, rfl⟩
    rfl
end Go.Proofs.Ytbpmbdlgmmabcaa.L
namespace Go.Proofs.Ytbpmbdlgmmabcaa.L
open Go Go.Proofs
variable {P : Program}
theorem nat_of_has {k : IntKind} {m : Nat} (hk : ub k = some m) {x : Int} (h : k.has x) : ∃ y : Nat, x = Int.ofNat y ∧ y < m := by
  have : 0 ≤ x ∧ x < (m : Int) := by
    cases k <;> simp [ub] at hk <;> subst hk <;> simp [IntKind.has, IntKind.min, IntKind.max, IntKind.signed, IntKind.bits] at h ⊢ <;> omega
  exact ⟨x.toNat, by show x = ((x.toNat : Nat) : Int); omega, by omega⟩
/-- An array, or a struct of arrays, of numbers of one kind. -/
theorem okWide_LV {k : IntKind} {m n : Nat} {t e : TypeId} {w : World} {r : Reach} {base : Nat} {v : Value} (hk : ub k = some m) (hs : aggT P t = true) (hcell : P.cellTypes P.depth t = some (List.replicate n e))
    (he : P.underlying e = some (.int k)) (hc : P.cellsOf t = n) (h : Value.okWide P w r base t v) : ∃ ys : List Nat, v = LV k ys ∧ ys.length = n ∧ ∀ x ∈ ys, x < m := by
  have h' : ∃ cs, v = .agg cs ∧ cs.size = P.cellsOf t ∧ Row.okWide P w r base t cs := by
    unfold aggT at hs
    unfold Value.okWide at h
    cases hu : P.underlying t with
    | none => rw [hu] at hs; simp at hs
    | some d =>
      rw [hu] at hs h
      cases d <;> simp at hs <;> simpa using h
  obtain ⟨cs, rfl, hcs, ts, hts, _, hrow⟩ := h'
  rw [hcell] at hts; cases hts
  have key : ∀ l : List Value, (∀ (i : Nat) (v : Value), l[i]? = some v → ∃ y : Nat, v = N k y ∧ y < m) → ∃ ys : List Nat, l = ys.map (N k) ∧ ∀ x ∈ ys, x < m := by
    intro l
    induction l with
    | nil => intro _; exact ⟨[], rfl, by simp⟩
    | cons v l ih =>
      intro hl
      obtain ⟨ys, h1, h2⟩ := ih (fun i v hv => hl (i + 1) v (by simpa using hv))
      obtain ⟨y, h3, h4⟩ := hl 0 v rfl
      exact ⟨y :: ys, by simp [h1, h3], by simpa using ⟨h4, h2⟩⟩
  obtain ⟨ys, h1, h2⟩ := key cs.toList (fun i v hv => by
    obtain ⟨u, hu, hok⟩ := hrow i v (by simpa using hv)
    have hu' : u = e := by
      rw [List.getElem?_replicate] at hu
      split at hu
      · exact (Option.some.inj hu).symm
      · cases hu
    subst hu'
    unfold Cell.okWide Cell.ok at hok
    rw [he] at hok
    cases v <;> simp at hok
    obtain ⟨rfl, hok⟩ := hok
    obtain ⟨y, hy, hlt⟩ := nat_of_has hk hok
    exact ⟨y, by rw [hy], hlt⟩)
  refine ⟨ys, ?_, ?_, h2⟩
  · unfold LV; rw [← h1]
  · have := congrArg List.length h1
    simp at this; omega
theorem post_bool {w w' : World} {e : Ending} (h : PostR (IsV (.bool true)) [] w e w') : e = .returned (.bool true) ∧ RowKit.Below w.heap.size w w' := by
  obtain ⟨v, Wout, ⟨rfl, _⟩, he, hx, _⟩ := h
  exact ⟨he, hx.below⟩
end Go.Proofs.Ytbpmbdlgmmabcaa.L
