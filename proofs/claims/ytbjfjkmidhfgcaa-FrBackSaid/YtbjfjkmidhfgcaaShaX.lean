/- The walks of SHA-256's schedules. Conditions: as each statement says. -/
import Derived.Test.YtbjfjkmidhfgcaaAuto
import Derived.Test.YtbjfjkmidhfgcaaPerm
import Derived.Test.YtbjfjkmidhfgcaaMore
import Derived.Test.YtbjfjkmidhfgcaaProg
import Derived.Test.YtbjfjkmidhfgcaaSha
import Derived.Test.YtbjfjkmidhfgcaaShaW
namespace Go.Proofs.Ytbjfjkmidhfgcaa.L
open Go Go.Proofs
set_option maxRecDepth 100000
attribute [local irreducible] Code.wp wpList Af bodyPost L.Go
open Sha

set_option maxHeartbeats 1000000 in
theorem schedule_spec (bb : Nat) (U : TypeId) (blk : List Nat) (hl : blk.length = 64) (hb : Lt 256 blk) :
    Spec Try.prog 100 [pt bb 0] NoPre [.blk bb (LV .u8 blk) U] (fun v W => v = LV .u32 (sch blk 64) ∧ W = [.blk bb (LV .u8 blk) U]) := by
  refine mk_spec Try.func100 rfl rfl rfl fun w _ => ?_
  repeat (first
    |(refine st_alloc (v := LV .u32 (List.replicate 64 0)) (by rfl) (by rfl) fun _ => ?_)|refine Z01 ?_|refine Z02 ?_|refine Z03 ?_|refine Z04 ?_|refine Z05 ?_
    |refine Z06 ?_|refine Z07 ?_|refine Z08 ?_|refine Z09 ?_|refine Z10 ?_|refine Z11 ?_|refine Z12 ?_|refine Z13 ?_|refine Z14 ?_|refine Z15 ?_|refine Z16 ?_
    |refine Z17 ?_|refine Z18 ?_|refine Z20 ?_|refine Z21 ?_|refine Z22 ?_|refine Z23 ?_|refine Z24 ?_|refine Z25 ?_|refine Z26 ?_|refine Z27 ?_|refine Z28 ?_
    |refine Z29 ?_|refine Z30 ?_|refine Z31 ?_|refine Z32 ?_|refine Z33 ?_|refine Z36 ?_|refine Z41 ?_|refine Z43 ?_|refine Z44 ?_|refine Z45 ?_|refine Z46 ?_
    |refine Z47 ?_|refine Z58 ?_|refine Z59 ?_|refine Z62 ?_|refine Z63 ?_|refine Z64 ?_|refine Z67 ?_|refine Z70 ?_|refine Z71 ?_|refine Z74 ?_|refine Z80 ?_
    |refine Z82 fun _ => ?_)
  rename_i b
  refine st_loop (ι := Nat) (fun t => t ≤ 16) (fun t => [(0, pt bb 0), (2, pt b 0), (8, N .i64 t)]) (fun t => [.blk b (LV .u32 (sch blk t ++ List.replicate (64 - t) 0)) 96, .blk bb (LV .u8 blk) U]) (fun t => 16 - t) 0 (by omega) (by repeat (first | apply subL.nil | refine subL.cons (by rfl) ?_)) (by rw [sch_0]; exact (by repeat (first | apply SubW.nil | refine SubW.cons (by repeat (first | apply Find.here | apply Find.there)) ?_))) ?_
  intro t ht
  have hsl := sch_len blk t
  repeat (first
    |refine Z01 ?_|refine Z02 ?_|refine Z03 ?_|refine Z04 ?_|refine Z05 ?_|refine Z06 ?_|refine Z07 ?_|refine Z08 ?_|refine Z09 ?_|refine Z10 ?_|refine Z11 ?_
    |refine Z12 ?_|refine Z13 ?_|refine Z14 ?_|refine Z15 ?_|refine Z16 ?_|refine Z17 ?_|refine Z18 ?_|refine Z20 ?_|refine Z21 ?_|refine Z22 ?_|refine Z23 ?_
    |refine Z24 ?_|refine Z25 ?_|refine Z26 ?_|refine Z27 ?_|refine Z28 ?_|refine Z29 ?_|refine Z30 ?_|refine Z31 ?_|refine Z32 ?_|refine Z33 ?_|refine Z36 ?_
    |refine Z41 ?_|refine Z43 ?_|refine Z44 ?_|refine Z45 ?_|refine Z46 ?_|refine Z47 ?_|refine Z58 ?_|refine Z59 ?_|refine Z62 ?_|refine Z63 ?_|refine Z64 ?_
    |refine Z67 ?_|refine Z70 ?_|refine Z71 ?_|refine Z74 ?_|refine Z80 ?_|refine Z82 fun _ => ?_)
  refine st_cond (by rfl) (fun h => ?_) (fun h => ?_)
  · have hcut : (List.drop (4 * t) (List.take (4 * t + 4) blk)).length = 4 := by simp; omega
    repeat (first
      |refine Z01 ?_|refine Z02 ?_|refine Z03 ?_|refine Z04 ?_|refine Z05 ?_|refine Z06 ?_|refine Z07 ?_|refine Z08 ?_|refine Z09 ?_|refine Z10 ?_|refine Z11 ?_
      |refine Z12 ?_|refine Z13 ?_|refine Z14 ?_|refine Z15 ?_|refine Z16 ?_|refine Z17 ?_|refine Z18 ?_|refine Z20 ?_|refine Z21 ?_|refine Z22 ?_|refine Z23 ?_
      |refine Z24 ?_|refine Z25 ?_|refine Z26 ?_|refine Z27 ?_|refine Z28 ?_|refine Z29 ?_|refine Z30 ?_|refine Z31 ?_|refine Z32 ?_|refine Z33 ?_|refine Z36 ?_
      |refine Z41 ?_|refine Z43 ?_|refine Z44 ?_|refine Z45 ?_|refine Z46 ?_|refine Z47 ?_|refine Z58 ?_|refine Z59 ?_|refine Z62 ?_|refine Z63 ?_|refine Z64 ?_
      |refine Z67 ?_|refine Z70 ?_|refine Z71 ?_|refine Z74 ?_|refine Z80 ?_|refine Z82 fun _ => ?_)
    rw [hcut]
    repeat (first
      |refine Z01 ?_|refine Z02 ?_|refine Z03 ?_|refine Z04 ?_|refine Z05 ?_|refine Z06 ?_|refine Z07 ?_|refine Z08 ?_|refine Z09 ?_|refine Z10 ?_|refine Z11 ?_
      |refine Z12 ?_|refine Z13 ?_|refine Z14 ?_|refine Z15 ?_|refine Z16 ?_|refine Z17 ?_|refine Z18 ?_|refine Z20 ?_|refine Z21 ?_|refine Z22 ?_|refine Z23 ?_
      |refine Z24 ?_|refine Z25 ?_|refine Z26 ?_|refine Z27 ?_|refine Z28 ?_|refine Z29 ?_|refine Z30 ?_|refine Z31 ?_|refine Z32 ?_|refine Z33 ?_|refine Z36 ?_
      |refine Z41 ?_|refine Z43 ?_|refine Z44 ?_|refine Z45 ?_|refine Z46 ?_|refine Z47 ?_|refine Z58 ?_|refine Z59 ?_|refine Z62 ?_|refine Z63 ?_|refine Z64 ?_
      |refine Z67 ?_|refine Z70 ?_|refine Z71 ?_|refine Z74 ?_|refine Z80 ?_|refine Z82 fun _ => ?_)
    refine st_loop (ι := Nat) (fun j => j ≤ 4) (fun j => [(0, pt bb 0), (2, pt b 0), (3, N .i64 t), (8, N .i64 t), (18, subA bb 64 (4 * t) (4 * t + 4)), (19, N .i64 4), (20, N .i64 j)])
      (fun j => [.blk b (LV .u32 (sch blk t ++ pw blk t j :: List.replicate (64 - (t + 1)) 0)) 96, .blk bb (LV .u8 blk) U]) (fun j => 4 - j) 0 (by omega) (by repeat (first | apply subL.nil | refine subL.cons (by rfl) ?_)) ?_ ?_
    · rw [pw_0, ← rep_cons t (by omega)]
      exact (by repeat (first | apply SubW.nil | refine SubW.cons (by repeat (first | apply Find.here | apply Find.there)) ?_))
    intro j hj
    repeat (first
      |refine Z01 ?_|refine Z02 ?_|refine Z03 ?_|refine Z04 ?_|refine Z05 ?_|refine Z06 ?_|refine Z07 ?_|refine Z08 ?_|refine Z09 ?_|refine Z10 ?_|refine Z11 ?_
      |refine Z12 ?_|refine Z13 ?_|refine Z14 ?_|refine Z15 ?_|refine Z16 ?_|refine Z17 ?_|refine Z18 ?_|refine Z20 ?_|refine Z21 ?_|refine Z22 ?_|refine Z23 ?_
      |refine Z24 ?_|refine Z25 ?_|refine Z26 ?_|refine Z27 ?_|refine Z28 ?_|refine Z29 ?_|refine Z30 ?_|refine Z31 ?_|refine Z32 ?_|refine Z33 ?_|refine Z36 ?_
      |refine Z41 ?_|refine Z43 ?_|refine Z44 ?_|refine Z45 ?_|refine Z46 ?_|refine Z47 ?_|refine Z58 ?_|refine Z59 ?_|refine Z62 ?_|refine Z63 ?_|refine Z64 ?_
      |refine Z67 ?_|refine Z70 ?_|refine Z71 ?_|refine Z74 ?_|refine Z80 ?_|refine Z82 fun _ => ?_)
    refine st_cond (by rfl) (fun h' => ?_) (fun h' => ?_)
    · have hcl : (List.drop (4 * t) (List.take (4 * t + 4) blk)).length = 4 := by simp; omega
      repeat (first
        |refine Z01 ?_|refine Z02 ?_|refine Z03 ?_|refine Z04 ?_|refine Z05 ?_|refine Z06 ?_|refine Z07 ?_|refine Z08 ?_|refine Z09 ?_|refine Z10 ?_|refine Z11 ?_
        |refine Z12 ?_|refine Z13 ?_|refine Z14 ?_|refine Z15 ?_|refine Z16 ?_|refine Z17 ?_|refine Z18 ?_|refine Z20 ?_|refine Z21 ?_|refine Z22 ?_|refine Z23 ?_
        |refine Z24 ?_|refine Z25 ?_|refine Z26 ?_|refine Z27 ?_|refine Z28 ?_|refine Z29 ?_|refine Z30 ?_|refine Z31 ?_|refine Z32 ?_|refine Z33 ?_|refine Z36 ?_
        |refine Z41 ?_|refine Z43 ?_|refine Z44 ?_|refine Z45 ?_|refine Z46 ?_|refine Z47 ?_|refine Z58 ?_|refine Z59 ?_|refine Z62 ?_|refine Z63 ?_|refine Z64 ?_
        |refine Z67 ?_|refine Z70 ?_|refine Z71 ?_|refine Z74 ?_|refine Z80 ?_|refine Z82 fun _ => ?_)
      rw [getD_cut _ _ _ _ (by omega), getD_at _ _ _ _ hsl, set_at' _ _ _ _ _ hsl]
      have h1 := pw_lt hb t j
      have h2 := hb.getD (by decide) (4 * t + j)
      have h3 : 256 ^ j ≤ 16777216 := by
        have : j ≤ 3 := by omega
        exact Nat.le_trans (Nat.pow_le_pow_right (by decide) this) (by decide)
      rw [Nat.mod_mod, Nat.mod_eq_of_lt (a := blk.getD (4 * t + j) 0 % 4294967296) (Nat.mod_lt _ (by decide)), Nat.mod_eq_of_lt (a := blk.getD (4 * t + j) 0) (by omega), or_add _ _ h2 (by omega), ← pw_succ]
      repeat (first
        |refine Z01 ?_|refine Z02 ?_|refine Z03 ?_|refine Z04 ?_|refine Z05 ?_|refine Z06 ?_|refine Z07 ?_|refine Z08 ?_|refine Z09 ?_|refine Z10 ?_|refine Z11 ?_
        |refine Z12 ?_|refine Z13 ?_|refine Z14 ?_|refine Z15 ?_|refine Z16 ?_|refine Z17 ?_|refine Z18 ?_|refine Z20 ?_|refine Z21 ?_|refine Z22 ?_|refine Z23 ?_
        |refine Z24 ?_|refine Z25 ?_|refine Z26 ?_|refine Z27 ?_|refine Z28 ?_|refine Z29 ?_|refine Z30 ?_|refine Z31 ?_|refine Z32 ?_|refine Z33 ?_|refine Z36 ?_
        |refine Z41 ?_|refine Z43 ?_|refine Z44 ?_|refine Z45 ?_|refine Z46 ?_|refine Z47 ?_|refine Z58 ?_|refine Z59 ?_|refine Z62 ?_|refine Z63 ?_|refine Z64 ?_
        |refine Z67 ?_|refine Z70 ?_|refine Z71 ?_|refine Z74 ?_|refine Z80 ?_|refine Z82 fun _ => ?_)
      exact st_round (j + 1) (by omega) (by omega) (by repeat (first | apply subL.nil | refine subL.cons (by rfl) ?_)) (by repeat (first | apply SubW.nil | refine SubW.cons (by repeat (first | apply Find.here | apply Find.there)) ?_))
    · repeat (first
        |refine Z01 ?_|refine Z02 ?_|refine Z03 ?_|refine Z04 ?_|refine Z05 ?_|refine Z06 ?_|refine Z07 ?_|refine Z08 ?_|refine Z09 ?_|refine Z10 ?_|refine Z11 ?_
        |refine Z12 ?_|refine Z13 ?_|refine Z14 ?_|refine Z15 ?_|refine Z16 ?_|refine Z17 ?_|refine Z18 ?_|refine Z20 ?_|refine Z21 ?_|refine Z22 ?_|refine Z23 ?_
        |refine Z24 ?_|refine Z25 ?_|refine Z26 ?_|refine Z27 ?_|refine Z28 ?_|refine Z29 ?_|refine Z30 ?_|refine Z31 ?_|refine Z32 ?_|refine Z33 ?_|refine Z36 ?_
        |refine Z41 ?_|refine Z43 ?_|refine Z44 ?_|refine Z45 ?_|refine Z46 ?_|refine Z47 ?_|refine Z58 ?_|refine Z59 ?_|refine Z62 ?_|refine Z63 ?_|refine Z64 ?_
        |refine Z67 ?_|refine Z70 ?_|refine Z71 ?_|refine Z74 ?_|refine Z80 ?_|refine Z82 fun _ => ?_)
      have hj4 : j = 4 := by omega
      subst hj4
      rw [pw_4]
      refine st_round (t + 1) (by omega) (by omega) (by repeat (first | apply subL.nil | refine subL.cons (by rfl) ?_)) ?_
      rw [← sch_be blk t h]
      exact (by repeat (first | apply SubW.nil | refine SubW.cons (by repeat (first | apply Find.here | apply Find.there)) ?_))
  · have ht16 : t = 16 := by omega
    subst ht16
    repeat (first
      |refine Z01 ?_|refine Z02 ?_|refine Z03 ?_|refine Z04 ?_|refine Z05 ?_|refine Z06 ?_|refine Z07 ?_|refine Z08 ?_|refine Z09 ?_|refine Z10 ?_|refine Z11 ?_
      |refine Z12 ?_|refine Z13 ?_|refine Z14 ?_|refine Z15 ?_|refine Z16 ?_|refine Z17 ?_|refine Z18 ?_|refine Z20 ?_|refine Z21 ?_|refine Z22 ?_|refine Z23 ?_
      |refine Z24 ?_|refine Z25 ?_|refine Z26 ?_|refine Z27 ?_|refine Z28 ?_|refine Z29 ?_|refine Z30 ?_|refine Z31 ?_|refine Z32 ?_|refine Z33 ?_|refine Z36 ?_
      |refine Z41 ?_|refine Z43 ?_|refine Z44 ?_|refine Z45 ?_|refine Z46 ?_|refine Z47 ?_|refine Z58 ?_|refine Z59 ?_|refine Z62 ?_|refine Z63 ?_|refine Z64 ?_
      |refine Z67 ?_|refine Z70 ?_|refine Z71 ?_|refine Z74 ?_|refine Z80 ?_|refine Z82 fun _ => ?_)
    refine st_loop (ι := Nat) (fun t => 16 ≤ t ∧ t ≤ 64) (fun t => [(0, pt bb 0), (2, pt b 0), (6, .func (.func 111) #[] #[]), (7, N .i64 t)])
      (fun t => [.blk b (LV .u32 (sch blk t ++ List.replicate (64 - t) 0)) 96, .blk bb (LV .u8 blk) U]) (fun t => 64 - t) 16 (by omega) (by repeat (first | apply subL.nil | refine subL.cons (by rfl) ?_)) (by repeat (first | apply SubW.nil | refine SubW.cons (by repeat (first | apply Find.here | apply Find.there)) ?_)) ?_
    intro t ⟨ht, ht'⟩
    have hsl := sch_len blk t
    have hlt := sch_lt hb t
    repeat (first
      |refine Z01 ?_|refine Z02 ?_|refine Z03 ?_|refine Z04 ?_|refine Z05 ?_|refine Z06 ?_|refine Z07 ?_|refine Z08 ?_|refine Z09 ?_|refine Z10 ?_|refine Z11 ?_
      |refine Z12 ?_|refine Z13 ?_|refine Z14 ?_|refine Z15 ?_|refine Z16 ?_|refine Z17 ?_|refine Z18 ?_|refine Z20 ?_|refine Z21 ?_|refine Z22 ?_|refine Z23 ?_
      |refine Z24 ?_|refine Z25 ?_|refine Z26 ?_|refine Z27 ?_|refine Z28 ?_|refine Z29 ?_|refine Z30 ?_|refine Z31 ?_|refine Z32 ?_|refine Z33 ?_|refine Z36 ?_
      |refine Z41 ?_|refine Z43 ?_|refine Z44 ?_|refine Z45 ?_|refine Z46 ?_|refine Z47 ?_|refine Z58 ?_|refine Z59 ?_|refine Z62 ?_|refine Z63 ?_|refine Z64 ?_
      |refine Z67 ?_|refine Z70 ?_|refine Z71 ?_|refine Z74 ?_|refine Z80 ?_|refine Z82 fun _ => ?_)
    refine st_cond (by rfl) (fun h => ?_) (fun h => ?_)
    · have g : ∀ i, 0 < i → i ≤ 16 → (sch blk t ++ List.replicate (64 - t) 0).getD (t - i) 0 = (sch blk t).getD (t - i) 0 := fun i h0 h1 => getD_append_left _ _ (by omega)
      have gl : ∀ i, (sch blk t).getD i 0 < 4294967296 := fun i => hlt.getD (by decide) i
      repeat (first
        |refine Z01 ?_|refine Z02 ?_|refine Z03 ?_|refine Z04 ?_|refine Z05 ?_|refine Z06 ?_|refine Z07 ?_|refine Z08 ?_|refine Z09 ?_|refine Z10 ?_|refine Z11 ?_
        |refine Z12 ?_|refine Z13 ?_|refine Z14 ?_|refine Z15 ?_|refine Z16 ?_|refine Z17 ?_|refine Z18 ?_|refine Z20 ?_|refine Z21 ?_|refine Z22 ?_|refine Z23 ?_
        |refine Z24 ?_|refine Z25 ?_|refine Z26 ?_|refine Z27 ?_|refine Z28 ?_|refine Z29 ?_|refine Z30 ?_|refine Z31 ?_|refine Z32 ?_|refine Z33 ?_|refine Z36 ?_
        |refine Z41 ?_|refine Z43 ?_|refine Z44 ?_|refine Z45 ?_|refine Z46 ?_|refine Z47 ?_|refine Z58 ?_|refine Z59 ?_|refine Z62 ?_|refine Z63 ?_|refine Z64 ?_
        |refine Z67 ?_|refine Z70 ?_|refine Z71 ?_|refine Z74 ?_|refine Z80 ?_|refine Z82 fun _ => ?_)
      refine st_draw1 (by rfl) ?_
      repeat (first
        |refine Zqf (by intro _ _ _;(first
          |refine Z01 ?_|refine Z02 ?_|refine Z15 ?_|refine Z16 ?_|refine Z17 ?_|refine Z18 ?_|refine Z20 ?_|refine Z21 ?_|refine Z22 ?_|refine Z23 ?_|refine Z33 ?_
          |refine Z36 ?_|refine Z41 ?_|refine Z43 ?_|refine Z44 ?_|refine Z45 ?_|refine Z46 ?_|refine Z47 ?_|refine Z58 ?_|refine Z59 ?_|refine Z62 ?_|refine Z63 ?_
          |refine Z64 ?_|refine Z70 ?_|refine Z71 ?_|refine Z74 ?_|refine Z80 ?_
          |(refine st_callV (by rfl) (by rfl) (by rfl) (mixed_spec _ 17 19 10 (by rw [g 2 (by omega) (by omega)]; exact gl _) (by omega) (by omega) (by omega)) (fun _ _ => trivial) (by rfl) ?_)
          |(refine st_callV (by rfl) (by rfl) (by rfl) (mixed_spec _ 7 18 3 (by rw [g 15 (by omega) (by omega)]; exact gl _) (by omega) (by omega) (by omega)) (fun _ _ => trivial) (by rfl) ?_));exact Zq) ?_
        |refine Zqp (by intro _ _ _;(first
          |refine Z24 ?_|refine Z25 ?_|refine Z26 ?_|refine Z27 ?_|refine Z28 ?_|refine Z67 ?_|refine Z23 ?_|refine Z20 ?_|refine Z21 ?_|refine Z62 ?_);exact Zq) ?_
        |refine Zqe (by intro _ _ _;(first
          |refine Z29 ?_|refine Z30 ?_|refine Z31 ?_|refine Z32 ?_);exact Zqq) ?_
        |refine Zqn ?_)
      refine Zq0 ?_ (by kernel_rfl)
      repeat (first
        |refine Z01 ?_|refine Z02 ?_|refine Z03 ?_|refine Z04 ?_|refine Z05 ?_|refine Z06 ?_|refine Z07 ?_|refine Z08 ?_|refine Z09 ?_|refine Z10 ?_|refine Z11 ?_
        |refine Z12 ?_|refine Z13 ?_|refine Z14 ?_|refine Z15 ?_|refine Z16 ?_|refine Z17 ?_|refine Z18 ?_|refine Z20 ?_|refine Z21 ?_|refine Z22 ?_|refine Z23 ?_
        |refine Z24 ?_|refine Z25 ?_|refine Z26 ?_|refine Z27 ?_|refine Z28 ?_|refine Z29 ?_|refine Z30 ?_|refine Z31 ?_|refine Z32 ?_|refine Z33 ?_|refine Z36 ?_
        |refine Z41 ?_|refine Z43 ?_|refine Z44 ?_|refine Z45 ?_|refine Z46 ?_|refine Z47 ?_|refine Z58 ?_|refine Z59 ?_|refine Z62 ?_|refine Z63 ?_|refine Z64 ?_
        |refine Z67 ?_|refine Z70 ?_|refine Z71 ?_|refine Z74 ?_|refine Z80 ?_|refine Z82 fun _ => ?_)
      refine st_round (t + 1) (by omega) (by omega) (by repeat (first | apply subL.nil | refine subL.cons (by rfl) ?_)) ?_
      rw [g 2 (by omega) (by omega), g 7 (by omega) (by omega), g 15 (by omega) (by omega), g 16 (by omega) (by omega)]
      rw [add4, sch_mix blk t ht h]
      exact (by repeat (first | apply SubW.nil | refine SubW.cons (by repeat (first | apply Find.here | apply Find.there)) ?_))
    · have ht64 : t = 64 := by omega
      subst ht64
      repeat (first
        |refine Z01 ?_|refine Z02 ?_|refine Z03 ?_|refine Z04 ?_|refine Z05 ?_|refine Z06 ?_|refine Z07 ?_|refine Z08 ?_|refine Z09 ?_|refine Z10 ?_|refine Z11 ?_
        |refine Z12 ?_|refine Z13 ?_|refine Z14 ?_|refine Z15 ?_|refine Z16 ?_|refine Z17 ?_|refine Z18 ?_|refine Z20 ?_|refine Z21 ?_|refine Z22 ?_|refine Z23 ?_
        |refine Z24 ?_|refine Z25 ?_|refine Z26 ?_|refine Z27 ?_|refine Z28 ?_|refine Z29 ?_|refine Z30 ?_|refine Z31 ?_|refine Z32 ?_|refine Z33 ?_|refine Z36 ?_
        |refine Z41 ?_|refine Z43 ?_|refine Z44 ?_|refine Z45 ?_|refine Z46 ?_|refine Z47 ?_|refine Z58 ?_|refine Z59 ?_|refine Z62 ?_|refine Z63 ?_|refine Z64 ?_
        |refine Z67 ?_|refine Z70 ?_|refine Z71 ?_|refine Z74 ?_|refine Z80 ?_|refine Z82 fun _ => ?_)
      rw [sch_64]
      refine Zec fun _ hw => post_of hw (Wout := [.blk bb (LV .u8 blk) U]) ?_ ?_
      · exact (by repeat (first | apply SubW.nil | refine SubW.cons (by repeat (first | apply Find.here | apply Find.there)) ?_))
      · exact ⟨rfl, rfl⟩

theorem rschedule_spec (blk : List Nat) (hl : blk.length = 64) (hb : Lt 256 blk) :
    Spec Try.prog 105 [LV .u8 blk] NoPre [] (IsV (LV .u32 (sch blk 64))) := by
  refine mk_spec Try.func105 rfl rfl rfl fun w _ => ?_
  repeat (first
    |(refine st_alloc (v := LV .u32 (List.replicate 64 0)) (by rfl) (by rfl) fun _ => ?_)|refine Z01 ?_|refine Z02 ?_|refine Z03 ?_|refine Z04 ?_|refine Z05 ?_
    |refine Z06 ?_|refine Z07 ?_|refine Z08 ?_|refine Z09 ?_|refine Z10 ?_|refine Z11 ?_|refine Z12 ?_|refine Z13 ?_|refine Z14 ?_|refine Z15 ?_|refine Z16 ?_
    |refine Z17 ?_|refine Z18 ?_|refine Z22 ?_|refine Z23 ?_|refine Z24 ?_|refine Z25 ?_|refine Z26 ?_|refine Z27 ?_|refine Z28 ?_|refine Z29 ?_|refine Z30 ?_
    |refine Z31 ?_|refine Z32 ?_|refine Z33 ?_|refine Z36 ?_|refine Z39 ?_|refine Z42 ?_|refine Z43 ?_|refine Z44 ?_|refine Z45 ?_|refine Z67 ?_|refine Z70 ?_
    |refine Z71 ?_|refine Z74 ?_|refine Z80 ?_|refine Z81 fun _ => ?_|refine Z82 fun _ => ?_)
  rename_i b b2 b3
  refine st_loop (ι := Nat) (fun t => t ≤ 64) (fun t => [(1, pt b 0), (2, pt b2 0), (3, pt b3 0), (4, N .i64 t)]) (fun t => [.blk b3 (LV .u32 (sch blk t ++ List.replicate (64 - t) 0)) 96, .blk b2 (LV .u32 (List.replicate 64 0)) 96, .blk b (LV .u8 blk) 91]) (fun t => 64 - t) 0 (by omega) (by repeat (first | apply subL.nil | refine subL.cons (by rfl) ?_)) (by rw [sch_0]; exact (by repeat (first | apply SubW.nil | refine SubW.cons (by repeat (first | apply Find.here | apply Find.there)) ?_))) ?_
  intro t ht
  have hsl := sch_len blk t
  have hlt := sch_lt hb t
  repeat (first
    |refine Z01 ?_|refine Z02 ?_|refine Z03 ?_|refine Z04 ?_|refine Z05 ?_|refine Z06 ?_|refine Z07 ?_|refine Z08 ?_|refine Z09 ?_|refine Z10 ?_|refine Z11 ?_
    |refine Z12 ?_|refine Z13 ?_|refine Z14 ?_|refine Z15 ?_|refine Z16 ?_|refine Z17 ?_|refine Z18 ?_|refine Z22 ?_|refine Z23 ?_|refine Z24 ?_|refine Z25 ?_
    |refine Z26 ?_|refine Z27 ?_|refine Z28 ?_|refine Z29 ?_|refine Z30 ?_|refine Z31 ?_|refine Z32 ?_|refine Z33 ?_|refine Z36 ?_|refine Z39 ?_|refine Z42 ?_
    |refine Z43 ?_|refine Z44 ?_|refine Z45 ?_|refine Z67 ?_|refine Z70 ?_|refine Z71 ?_|refine Z74 ?_|refine Z80 ?_|refine Z81 fun _ => ?_|refine Z82 fun _ => ?_)
  refine st_cond (by rfl) (fun h => ?_) (fun h => ?_)
  · repeat (first
      |refine Z01 ?_|refine Z02 ?_|refine Z03 ?_|refine Z04 ?_|refine Z05 ?_|refine Z06 ?_|refine Z07 ?_|refine Z08 ?_|refine Z09 ?_|refine Z10 ?_|refine Z11 ?_
      |refine Z12 ?_|refine Z13 ?_|refine Z14 ?_|refine Z15 ?_|refine Z16 ?_|refine Z17 ?_|refine Z18 ?_|refine Z22 ?_|refine Z23 ?_|refine Z24 ?_|refine Z25 ?_
      |refine Z26 ?_|refine Z27 ?_|refine Z28 ?_|refine Z29 ?_|refine Z30 ?_|refine Z31 ?_|refine Z32 ?_|refine Z33 ?_|refine Z36 ?_|refine Z39 ?_|refine Z42 ?_
      |refine Z43 ?_|refine Z44 ?_|refine Z45 ?_|refine Z67 ?_|refine Z70 ?_|refine Z71 ?_|refine Z74 ?_|refine Z80 ?_|refine Z81 fun _ => ?_|refine Z82 fun _ => ?_)
    refine st_cond (by rfl) (fun h16 => ?_) (fun h16 => ?_)
    · repeat (first
        |refine Z01 ?_|refine Z02 ?_|refine Z03 ?_|refine Z04 ?_|refine Z05 ?_|refine Z06 ?_|refine Z07 ?_|refine Z08 ?_|refine Z09 ?_|refine Z10 ?_|refine Z11 ?_
        |refine Z12 ?_|refine Z13 ?_|refine Z14 ?_|refine Z15 ?_|refine Z16 ?_|refine Z17 ?_|refine Z18 ?_|refine Z22 ?_|refine Z23 ?_|refine Z24 ?_|refine Z25 ?_
        |refine Z26 ?_|refine Z27 ?_|refine Z28 ?_|refine Z29 ?_|refine Z30 ?_|refine Z31 ?_|refine Z32 ?_|refine Z33 ?_|refine Z36 ?_|refine Z39 ?_|refine Z42 ?_
        |refine Z43 ?_|refine Z44 ?_|refine Z45 ?_|refine Z67 ?_|refine Z70 ?_|refine Z71 ?_|refine Z74 ?_|refine Z80 ?_|refine Z81 fun _ => ?_|refine Z82 fun _ => ?_)
      refine st_draw1 (by rfl) ?_
      repeat (first
        |refine Zqf (by intro _ _ _;(first
          |refine Z01 ?_|refine Z02 ?_|refine Z15 ?_|refine Z16 ?_|refine Z17 ?_|refine Z18 ?_|refine Z22 ?_|refine Z23 ?_|refine Z33 ?_|refine Z36 ?_|refine Z39 ?_
          |refine Z42 ?_|refine Z43 ?_|refine Z44 ?_|refine Z45 ?_|refine Z70 ?_|refine Z71 ?_|refine Z74 ?_|refine Z80 ?_);exact Zq) ?_
        |refine Zqp (by intro _ _ _;(first
          |refine Z24 ?_|refine Z25 ?_|refine Z26 ?_|refine Z27 ?_|refine Z28 ?_|refine Z67 ?_|refine Z23 ?_);exact Zq) ?_
        |refine Zqe (by intro _ _ _;(first
          |refine Z29 ?_|refine Z30 ?_|refine Z31 ?_|refine Z32 ?_);exact Zqq) ?_
        |refine Zqn ?_)
      refine Zq0 ?_ (by kernel_rfl)
      repeat (first
        |refine Z01 ?_|refine Z02 ?_|refine Z03 ?_|refine Z04 ?_|refine Z05 ?_|refine Z06 ?_|refine Z07 ?_|refine Z08 ?_|refine Z09 ?_|refine Z10 ?_|refine Z11 ?_
        |refine Z12 ?_|refine Z13 ?_|refine Z14 ?_|refine Z15 ?_|refine Z16 ?_|refine Z17 ?_|refine Z18 ?_|refine Z22 ?_|refine Z23 ?_|refine Z24 ?_|refine Z25 ?_
        |refine Z26 ?_|refine Z27 ?_|refine Z28 ?_|refine Z29 ?_|refine Z30 ?_|refine Z31 ?_|refine Z32 ?_|refine Z33 ?_|refine Z36 ?_|refine Z39 ?_|refine Z42 ?_
        |refine Z43 ?_|refine Z44 ?_|refine Z45 ?_|refine Z67 ?_|refine Z70 ?_|refine Z71 ?_|refine Z74 ?_|refine Z80 ?_|refine Z81 fun _ => ?_|refine Z82 fun _ => ?_)
      have h0 := hb.getD (by decide) (4 * t)
      have h1 := hb.getD (by decide) (4 * t + 1)
      have h2 := hb.getD (by decide) (4 * t + 2)
      have h3 := hb.getD (by decide) (4 * t + 3)
      have e : ((((blk.getD (4 * t) 0 % 4294967296) <<< 24 % 4294967296 + (blk.getD (4 * t + 1) 0 % 4294967296) <<< 16 % 4294967296) % 4294967296 + (blk.getD (4 * t + 2) 0 % 4294967296) <<< 8 % 4294967296) % 4294967296 + blk.getD (4 * t + 3) 0 % 4294967296) % 4294967296 = be4 blk t := by
        rw [be4_def]; simp only [Nat.shiftLeft_eq]; omega
      rw [e, rep_cons t h, set_at' _ _ _ _ _ hsl, sch_be blk t h16]
      exact st_round (t + 1) (by omega) (by omega) (by repeat (first | apply subL.nil | refine subL.cons (by rfl) ?_)) (by repeat (first | apply SubW.nil | refine SubW.cons (by repeat (first | apply Find.here | apply Find.there)) ?_))
    · have g : ∀ i, 0 < i → i ≤ 16 → (sch blk t ++ List.replicate (64 - t) 0).getD (t - i) 0 = (sch blk t).getD (t - i) 0 := fun i h0 h1 => getD_append_left _ _ (by omega)
      have gl : ∀ i, (sch blk t).getD i 0 < 4294967296 := fun i => hlt.getD (by decide) i
      repeat (first
        |(refine st_callV (by rfl) (by rfl) (by rfl) (turn_spec _ 7 (by rw [g 15 (by omega) (by omega)]; exact gl _) (by omega)) (fun _ _ => trivial) (by rfl) ?_)
        |(refine st_callV (by rfl) (by rfl) (by rfl) (turn_spec _ 18 (by rw [g 15 (by omega) (by omega)]; exact gl _) (by omega)) (fun _ _ => trivial) (by rfl) ?_)
        |(refine st_callV (by rfl) (by rfl) (by rfl) (turn_spec _ 17 (by rw [g 2 (by omega) (by omega)]; exact gl _) (by omega)) (fun _ _ => trivial) (by rfl) ?_)
        |(refine st_callV (by rfl) (by rfl) (by rfl) (turn_spec _ 19 (by rw [g 2 (by omega) (by omega)]; exact gl _) (by omega)) (fun _ _ => trivial) (by rfl) ?_)
        |refine Z01 ?_|refine Z02 ?_|refine Z03 ?_|refine Z04 ?_|refine Z05 ?_|refine Z06 ?_|refine Z07 ?_|refine Z08 ?_|refine Z09 ?_|refine Z10 ?_|refine Z11 ?_
        |refine Z12 ?_|refine Z13 ?_|refine Z14 ?_|refine Z15 ?_|refine Z16 ?_|refine Z17 ?_|refine Z18 ?_|refine Z22 ?_|refine Z23 ?_|refine Z24 ?_|refine Z25 ?_
        |refine Z26 ?_|refine Z27 ?_|refine Z28 ?_|refine Z29 ?_|refine Z30 ?_|refine Z31 ?_|refine Z32 ?_|refine Z33 ?_|refine Z36 ?_|refine Z39 ?_|refine Z42 ?_
        |refine Z43 ?_|refine Z44 ?_|refine Z45 ?_|refine Z67 ?_|refine Z70 ?_|refine Z71 ?_|refine Z74 ?_|refine Z80 ?_|refine Z81 fun _ => ?_|refine Z82 fun _ => ?_)
      refine st_draw1 (by rfl) ?_
      repeat (first
        |refine Zqf (by intro _ _ _;(first
          |refine Z01 ?_|refine Z02 ?_|refine Z15 ?_|refine Z16 ?_|refine Z17 ?_|refine Z18 ?_|refine Z22 ?_|refine Z23 ?_|refine Z33 ?_|refine Z36 ?_|refine Z39 ?_
          |refine Z42 ?_|refine Z43 ?_|refine Z44 ?_|refine Z45 ?_|refine Z70 ?_|refine Z71 ?_|refine Z74 ?_|refine Z80 ?_);exact Zq) ?_
        |refine Zqp (by intro _ _ _;(first
          |refine Z24 ?_|refine Z25 ?_|refine Z26 ?_|refine Z27 ?_|refine Z28 ?_|refine Z67 ?_|refine Z23 ?_);exact Zq) ?_
        |refine Zqe (by intro _ _ _;(first
          |refine Z29 ?_|refine Z30 ?_|refine Z31 ?_|refine Z32 ?_);exact Zqq) ?_
        |refine Zqn ?_)
      refine Zq0 ?_ (by kernel_rfl)
      repeat (first
        |refine Z01 ?_|refine Z02 ?_|refine Z03 ?_|refine Z04 ?_|refine Z05 ?_|refine Z06 ?_|refine Z07 ?_|refine Z08 ?_|refine Z09 ?_|refine Z10 ?_|refine Z11 ?_
        |refine Z12 ?_|refine Z13 ?_|refine Z14 ?_|refine Z15 ?_|refine Z16 ?_|refine Z17 ?_|refine Z18 ?_|refine Z22 ?_|refine Z23 ?_|refine Z24 ?_|refine Z25 ?_
        |refine Z26 ?_|refine Z27 ?_|refine Z28 ?_|refine Z29 ?_|refine Z30 ?_|refine Z31 ?_|refine Z32 ?_|refine Z33 ?_|refine Z36 ?_|refine Z39 ?_|refine Z42 ?_
        |refine Z43 ?_|refine Z44 ?_|refine Z45 ?_|refine Z67 ?_|refine Z70 ?_|refine Z71 ?_|refine Z74 ?_|refine Z80 ?_|refine Z81 fun _ => ?_|refine Z82 fun _ => ?_)
      rw [g 2 (by omega) (by omega), g 7 (by omega) (by omega), g 15 (by omega) (by omega), g 16 (by omega) (by omega)]
      rw [mix_mod _ _ _ _ (gl _), mix_mod _ _ _ _ (gl _), add4, sch_mix blk t (by omega) h]
      exact st_round (t + 1) (by omega) (by omega) (by repeat (first | apply subL.nil | refine subL.cons (by rfl) ?_)) (by repeat (first | apply SubW.nil | refine SubW.cons (by repeat (first | apply Find.here | apply Find.there)) ?_))
  · have ht64 : t = 64 := by omega
    subst ht64
    rw [sch_64]
    repeat (first
      |refine Z01 ?_|refine Z02 ?_|refine Z03 ?_|refine Z04 ?_|refine Z05 ?_|refine Z06 ?_|refine Z07 ?_|refine Z08 ?_|refine Z09 ?_|refine Z10 ?_|refine Z11 ?_
      |refine Z12 ?_|refine Z13 ?_|refine Z14 ?_|refine Z15 ?_|refine Z16 ?_|refine Z17 ?_|refine Z18 ?_|refine Z22 ?_|refine Z23 ?_|refine Z24 ?_|refine Z25 ?_
      |refine Z26 ?_|refine Z27 ?_|refine Z28 ?_|refine Z29 ?_|refine Z30 ?_|refine Z31 ?_|refine Z32 ?_|refine Z33 ?_|refine Z36 ?_|refine Z39 ?_|refine Z42 ?_
      |refine Z43 ?_|refine Z44 ?_|refine Z45 ?_|refine Z67 ?_|refine Z70 ?_|refine Z71 ?_|refine Z74 ?_|refine Z80 ?_|refine Z81 fun _ => ?_|refine Z82 fun _ => ?_)
    refine Zec fun _ hw => post_of hw SubW.nil ⟨?_, rfl⟩
    rfl
end Go.Proofs.Ytbjfjkmidhfgcaa.L
