/- The walks of SHA-256's reference step. Conditions: as each statement says. -/
import Derived.Test.YtbjfjkmidhfgcaaAuto
import Derived.Test.YtbjfjkmidhfgcaaPerm
import Derived.Test.YtbjfjkmidhfgcaaMore
import Derived.Test.YtbjfjkmidhfgcaaProg
import Derived.Test.YtbjfjkmidhfgcaaSha
import Derived.Test.YtbjfjkmidhfgcaaShaW
import Derived.Test.YtbjfjkmidhfgcaaShaX
namespace Go.Proofs.Ytbjfjkmidhfgcaa.L
open Go Go.Proofs
set_option maxRecDepth 100000
attribute [local irreducible] Code.wp wpList Af bodyPost L.Go
open Sha

set_option maxHeartbeats 2000000 in
theorem rstep_spec (h blk : List Nat) (hh : h.length = 8) (hhl : Lt 4294967296 h) (hl : blk.length = 64) (hb : Lt 256 blk) :
    Spec Try.prog 98 [LV .u32 h, LV .u8 blk] NoPre [] (IsV (LV .u32 (Sha.step h blk))) := by
  refine mk_spec Try.func98 rfl rfl rfl fun w _ => ?_
  have hsc := sch_len blk 64
  have hscl := sch_lt hb 64
  repeat (first
    |(refine st_alloc (v := LV .u32 (List.replicate 64 0)) (by rfl) (by rfl) fun _ => ?_)
    |(refine st_alloc (v := LV .u32 (List.replicate 8 0)) (by rfl) (by rfl) fun _ => ?_)
    |(refine st_callV (by rfl) (by rfl) (by rfl) (rschedule_spec blk hl hb) (fun _ _ => trivial) (by rfl) ?_)|refine Z01 ?_|refine Z02 ?_|refine Z03 ?_|refine Z04 ?_
    |refine Z05 ?_|refine Z06 ?_|refine Z07 ?_|refine Z08 ?_|refine Z09 ?_|refine Z10 ?_|refine Z11 ?_|refine Z12 ?_|refine Z13 ?_|refine Z14 ?_|refine Z15 ?_
    |refine Z17 ?_|refine Z18 ?_|refine Z22 ?_|refine Z23 ?_|refine Z24 ?_|refine Z25 ?_|refine Z26 ?_|refine Z27 ?_|refine Z28 ?_|refine Z29 ?_|refine Z30 ?_
    |refine Z31 ?_|refine Z32 ?_|refine Z33 ?_|refine Z39 ?_|refine Z40 ?_|refine Z55 ?_|refine Z65 ?_|refine Z67 ?_|refine Z70 ?_|refine Z81 fun _ => ?_
    |refine Z82 fun _ => ?_)
  rename_i b1 b2 b3 b4 b5
  refine st_loop (ι := Nat) (fun t => t ≤ 64) (fun t => [(7, N .i64 t), (6, pt b5 0), (5, pt b4 0), (4, pt b3 0), (2, pt b1 0)])
    (fun t => [.blk b5 (LV .u32 (rnds (sch blk 64) h t)) 88, .blk b4 (LV .u32 (sch blk 64)) 96, .blk b3 (LV .u32 (List.replicate 8 0)) 88, .blk b1 (LV .u32 h) 88]) (fun t => 64 - t) 0 (by omega) (by repeat (first | apply subL.nil | refine subL.cons (by rfl) ?_)) (by rw [rnds_0]; exact (by repeat (first | apply SubW.nil | refine SubW.cons (by repeat (first | apply Find.here | apply Find.there)) ?_))) ?_
  intro t ht
  have hsl := rnds_len (sch blk 64) h t
  rw [hh] at hsl
  have hlt := rnds_lt (ws := sch blk 64) hh hhl t
  obtain ⟨a, b, c, d, e, f, g, i, hs⟩ := len8 hsl
  rw [hs] at hlt
  have hss := rnds_succ (sch blk 64) h t
  rw [hs, rnd_def] at hss
  repeat (first
    |refine Z01 ?_|refine Z02 ?_|refine Z03 ?_|refine Z04 ?_|refine Z05 ?_|refine Z06 ?_|refine Z07 ?_|refine Z08 ?_|refine Z09 ?_|refine Z10 ?_|refine Z11 ?_
    |refine Z12 ?_|refine Z13 ?_|refine Z14 ?_|refine Z15 ?_|refine Z17 ?_|refine Z18 ?_|refine Z22 ?_|refine Z23 ?_|refine Z24 ?_|refine Z25 ?_|refine Z26 ?_
    |refine Z27 ?_|refine Z28 ?_|refine Z29 ?_|refine Z30 ?_|refine Z31 ?_|refine Z32 ?_|refine Z33 ?_|refine Z39 ?_|refine Z40 ?_|refine Z55 ?_|refine Z65 ?_
    |refine Z67 ?_|refine Z70 ?_|refine Z81 fun _ => ?_|refine Z82 fun _ => ?_)
  refine st_cond (by rfl) (fun ht' => ?_) (fun ht' => ?_)
  · rw [hs]
    have l0 : a < 4294967296 := hlt a (by simp)
    have l1 : b < 4294967296 := hlt b (by simp)
    have l2 : c < 4294967296 := hlt c (by simp)
    have l3 : d < 4294967296 := hlt d (by simp)
    have l4 : e < 4294967296 := hlt e (by simp)
    have l5 : f < 4294967296 := hlt f (by simp)
    have l6 : g < 4294967296 := hlt g (by simp)
    have l7 : i < 4294967296 := hlt i (by simp)
    repeat (first
      |refine Z01 ?_|refine Z02 ?_|refine Z03 ?_|refine Z04 ?_|refine Z05 ?_|refine Z06 ?_|refine Z07 ?_|refine Z08 ?_|refine Z09 ?_|refine Z10 ?_|refine Z11 ?_
      |refine Z12 ?_|refine Z13 ?_|refine Z14 ?_|refine Z15 ?_|refine Z17 ?_|refine Z18 ?_|refine Z22 ?_|refine Z23 ?_|refine Z24 ?_|refine Z25 ?_|refine Z26 ?_
      |refine Z27 ?_|refine Z28 ?_|refine Z29 ?_|refine Z30 ?_|refine Z31 ?_|refine Z32 ?_|refine Z33 ?_|refine Z39 ?_|refine Z40 ?_|refine Z55 ?_|refine Z65 ?_
      |refine Z67 ?_|refine Z70 ?_|refine Z81 fun _ => ?_|refine Z82 fun _ => ?_)
    simp only [List.getD_cons_zero, List.getD_cons_succ]
    refine st_draw1 (by rfl) ?_
    repeat (first
      |refine Zqf (by intro _ _ _;(first
        |refine Z01 ?_|refine Z02 ?_|refine Z15 ?_|refine Z17 ?_|refine Z18 ?_|refine Z22 ?_|refine Z23 ?_|refine Z33 ?_|refine Z39 ?_|refine Z40 ?_|refine Z55 ?_
        |refine Z65 ?_|refine Z70 ?_|(refine st_callV (by rfl) (by rfl) (by rfl) (turn_spec e 6 l4 (by omega)) (fun _ _ => trivial) (by rfl) ?_)
        |(refine st_callV (by rfl) (by rfl) (by rfl) (turn_spec e 11 l4 (by omega)) (fun _ _ => trivial) (by rfl) ?_)
        |(refine st_callV (by rfl) (by rfl) (by rfl) (turn_spec e 25 l4 (by omega)) (fun _ _ => trivial) (by rfl) ?_)
        |(refine st_callV (by rfl) (by rfl) (by rfl) (k_spec t ht') (fun _ _ => trivial) (by rfl) ?_));exact Zq) ?_
      |refine Zqp (by intro _ _ _;(first
        |refine Z24 ?_|refine Z25 ?_|refine Z26 ?_|refine Z27 ?_|refine Z28 ?_|refine Z67 ?_|refine Z23 ?_);exact Zq) ?_
      |refine Zqe (by intro _ _ _;(first
        |refine Z29 ?_|refine Z30 ?_|refine Z31 ?_|refine Z32 ?_);exact Zqq) ?_
      |refine Zqn ?_)
    refine Zq0 ?_ (by kernel_rfl)
    simp only [List.getD_cons_zero, List.getD_cons_succ]
    rw [ch_mod2 e f g l4 l5 l6, big_mod2 _ _ _ _ l4, ← S1_def, add5]
    repeat (first
      |refine Z01 ?_|refine Z02 ?_|refine Z03 ?_|refine Z04 ?_|refine Z05 ?_|refine Z06 ?_|refine Z07 ?_|refine Z08 ?_|refine Z09 ?_|refine Z10 ?_|refine Z11 ?_
      |refine Z12 ?_|refine Z13 ?_|refine Z14 ?_|refine Z15 ?_|refine Z17 ?_|refine Z18 ?_|refine Z22 ?_|refine Z23 ?_|refine Z24 ?_|refine Z25 ?_|refine Z26 ?_
      |refine Z27 ?_|refine Z28 ?_|refine Z29 ?_|refine Z30 ?_|refine Z31 ?_|refine Z32 ?_|refine Z33 ?_|refine Z39 ?_|refine Z40 ?_|refine Z55 ?_|refine Z65 ?_
      |refine Z67 ?_|refine Z70 ?_|refine Z81 fun _ => ?_|refine Z82 fun _ => ?_)
    refine st_draw1 (by rfl) ?_
    repeat (first
      |refine Zqf (by intro _ _ _;(first
        |refine Z01 ?_|refine Z02 ?_|refine Z15 ?_|refine Z17 ?_|refine Z18 ?_|refine Z22 ?_|refine Z23 ?_|refine Z33 ?_|refine Z39 ?_|refine Z40 ?_|refine Z55 ?_
        |refine Z65 ?_|refine Z70 ?_|(refine st_callV (by rfl) (by rfl) (by rfl) (turn_spec a 2 l0 (by omega)) (fun _ _ => trivial) (by rfl) ?_)
        |(refine st_callV (by rfl) (by rfl) (by rfl) (turn_spec a 13 l0 (by omega)) (fun _ _ => trivial) (by rfl) ?_)
        |(refine st_callV (by rfl) (by rfl) (by rfl) (turn_spec a 22 l0 (by omega)) (fun _ _ => trivial) (by rfl) ?_));exact Zq) ?_
      |refine Zqp (by intro _ _ _;(first
        |refine Z24 ?_|refine Z25 ?_|refine Z26 ?_|refine Z27 ?_|refine Z28 ?_|refine Z67 ?_|refine Z23 ?_);exact Zq) ?_
      |refine Zqe (by intro _ _ _;(first
        |refine Z29 ?_|refine Z30 ?_|refine Z31 ?_|refine Z32 ?_);exact Zqq) ?_
      |refine Zqn ?_)
    refine Zq0 ?_ (by kernel_rfl)
    simp only [List.getD_cons_zero, List.getD_cons_succ]
    rw [maj_mod2 a b c l0 l1 l2, big_mod2 _ _ _ _ l0, ← S0_def]
    repeat (first
      
      |(refine st_build_arr (vs := (rnds (sch blk 64) h (t + 1)).map (N .u32)) (by rfl) (by rfl) (by rfl) (by rfl) (by rfl) (by rfl) (by rw [hss]; rfl) (by rw [hss]; rfl) (by rfl) ?_)
      |refine Z01 ?_|refine Z02 ?_|refine Z03 ?_|refine Z04 ?_|refine Z05 ?_|refine Z06 ?_|refine Z07 ?_|refine Z08 ?_|refine Z09 ?_|refine Z10 ?_|refine Z11 ?_
      |refine Z12 ?_|refine Z13 ?_|refine Z14 ?_|refine Z15 ?_|refine Z17 ?_|refine Z18 ?_|refine Z22 ?_|refine Z23 ?_|refine Z24 ?_|refine Z25 ?_|refine Z26 ?_
      |refine Z27 ?_|refine Z28 ?_|refine Z29 ?_|refine Z30 ?_|refine Z31 ?_|refine Z32 ?_|refine Z33 ?_|refine Z39 ?_|refine Z40 ?_|refine Z55 ?_|refine Z65 ?_
      |refine Z67 ?_|refine Z70 ?_|refine Z81 fun _ => ?_|refine Z82 fun _ => ?_)
    exact st_round (t + 1) (by omega) (by omega) (by repeat (first | apply subL.nil | refine subL.cons (by rfl) ?_)) (by repeat (first | apply SubW.nil | refine SubW.cons (by repeat (first | apply Find.here | apply Find.there)) ?_))
  · have h64 : t = 64 := by omega
    subst h64
    have hsl' := rnds_len (sch blk 64) h 64
    rw [hh] at hsl'
    have hal : (addw h (rnds (sch blk 64) h 64)).length = (List.replicate 8 0).length := by rw [addw_len (by rw [hsl', hh]), hh]; rfl
    repeat (first
      |(refine st_alloc (v := LV .u32 (List.replicate 8 0)) (by rfl) (by rfl) fun _ => ?_)|refine Z01 ?_|refine Z02 ?_|refine Z03 ?_|refine Z04 ?_|refine Z05 ?_
      |refine Z06 ?_|refine Z07 ?_|refine Z08 ?_|refine Z09 ?_|refine Z10 ?_|refine Z11 ?_|refine Z12 ?_|refine Z13 ?_|refine Z14 ?_|refine Z15 ?_|refine Z17 ?_
      |refine Z18 ?_|refine Z22 ?_|refine Z23 ?_|refine Z24 ?_|refine Z25 ?_|refine Z26 ?_|refine Z27 ?_|refine Z28 ?_|refine Z29 ?_|refine Z30 ?_|refine Z31 ?_
      |refine Z32 ?_|refine Z33 ?_|refine Z39 ?_|refine Z40 ?_|refine Z55 ?_|refine Z65 ?_|refine Z67 ?_|refine Z70 ?_|refine Z81 fun _ => ?_|refine Z82 fun _ => ?_)
    rename_i b6
    refine st_loop (ι := Nat) (fun i => i ≤ 8) (fun i => [(13, N .i64 i), (12, pt b6 0), (6, pt b5 0), (4, pt b3 0), (2, pt b1 0)])
      (fun i => [.blk b6 (LV .u32 (mixT (addw h (rnds (sch blk 64) h 64)) (List.replicate 8 0) i)) 88, .blk b5 (LV .u32 (rnds (sch blk 64) h 64)) 88, .blk b3 (LV .u32 (List.replicate 8 0)) 88, .blk b1 (LV .u32 h) 88]) (fun i => 8 - i) 0 (by omega) (by repeat (first | apply subL.nil | refine subL.cons (by rfl) ?_)) (by rw [mixT_0]; exact (by repeat (first | apply SubW.nil | refine SubW.cons (by repeat (first | apply Find.here | apply Find.there)) ?_))) ?_
    intro j hj
    have hml := mixT_len hal j
    rw [List.length_replicate] at hml
    repeat (first
      |refine Z01 ?_|refine Z02 ?_|refine Z03 ?_|refine Z04 ?_|refine Z05 ?_|refine Z06 ?_|refine Z07 ?_|refine Z08 ?_|refine Z09 ?_|refine Z10 ?_|refine Z11 ?_
      |refine Z12 ?_|refine Z13 ?_|refine Z14 ?_|refine Z15 ?_|refine Z17 ?_|refine Z18 ?_|refine Z22 ?_|refine Z23 ?_|refine Z24 ?_|refine Z25 ?_|refine Z26 ?_
      |refine Z27 ?_|refine Z28 ?_|refine Z29 ?_|refine Z30 ?_|refine Z31 ?_|refine Z32 ?_|refine Z33 ?_|refine Z39 ?_|refine Z40 ?_|refine Z55 ?_|refine Z65 ?_
      |refine Z67 ?_|refine Z70 ?_|refine Z81 fun _ => ?_|refine Z82 fun _ => ?_)
    refine st_cond (by rfl) (fun hj' => ?_) (fun hj' => ?_)
    · repeat (first
        |refine Z01 ?_|refine Z02 ?_|refine Z03 ?_|refine Z04 ?_|refine Z05 ?_|refine Z06 ?_|refine Z07 ?_|refine Z08 ?_|refine Z09 ?_|refine Z10 ?_|refine Z11 ?_
        |refine Z12 ?_|refine Z13 ?_|refine Z14 ?_|refine Z15 ?_|refine Z17 ?_|refine Z18 ?_|refine Z22 ?_|refine Z23 ?_|refine Z24 ?_|refine Z25 ?_|refine Z26 ?_
        |refine Z27 ?_|refine Z28 ?_|refine Z29 ?_|refine Z30 ?_|refine Z31 ?_|refine Z32 ?_|refine Z33 ?_|refine Z39 ?_|refine Z40 ?_|refine Z55 ?_|refine Z65 ?_
        |refine Z67 ?_|refine Z70 ?_|refine Z81 fun _ => ?_|refine Z82 fun _ => ?_)
      refine st_draw1 (by rfl) ?_
      repeat (first
        |refine Zqf (by intro _ _ _;(first
          |refine Z01 ?_|refine Z02 ?_|refine Z15 ?_|refine Z17 ?_|refine Z18 ?_|refine Z22 ?_|refine Z23 ?_|refine Z33 ?_|refine Z39 ?_|refine Z40 ?_|refine Z55 ?_
          |refine Z65 ?_|refine Z70 ?_);exact Zq) ?_
        |refine Zqp (by intro _ _ _;(first
          |refine Z24 ?_|refine Z25 ?_|refine Z26 ?_|refine Z27 ?_|refine Z28 ?_|refine Z67 ?_|refine Z23 ?_);exact Zq) ?_
        |refine Zqe (by intro _ _ _;(first
          |refine Z29 ?_|refine Z30 ?_|refine Z31 ?_|refine Z32 ?_);exact Zqq) ?_
        |refine Zqn ?_)
      refine Zq0 ?_ (by kernel_rfl)
      repeat (first
        |refine Z01 ?_|refine Z02 ?_|refine Z03 ?_|refine Z04 ?_|refine Z05 ?_|refine Z06 ?_|refine Z07 ?_|refine Z08 ?_|refine Z09 ?_|refine Z10 ?_|refine Z11 ?_
        |refine Z12 ?_|refine Z13 ?_|refine Z14 ?_|refine Z15 ?_|refine Z17 ?_|refine Z18 ?_|refine Z22 ?_|refine Z23 ?_|refine Z24 ?_|refine Z25 ?_|refine Z26 ?_
        |refine Z27 ?_|refine Z28 ?_|refine Z29 ?_|refine Z30 ?_|refine Z31 ?_|refine Z32 ?_|refine Z33 ?_|refine Z39 ?_|refine Z40 ?_|refine Z55 ?_|refine Z65 ?_
        |refine Z67 ?_|refine Z70 ?_|refine Z81 fun _ => ?_|refine Z82 fun _ => ?_)
      rw [← addw_getD (by omega) (by omega), mix_take hal (by simp; omega)]
      exact st_round (j + 1) (by omega) (by omega) (by repeat (first | apply subL.nil | refine subL.cons (by rfl) ?_)) (by repeat (first | apply SubW.nil | refine SubW.cons (by repeat (first | apply Find.here | apply Find.there)) ?_))
    · have h8 : j = 8 := by omega
      subst h8
      have hm : mixT (addw h (rnds (sch blk 64) h 64)) (List.replicate 8 0) 8 = Sha.step h blk := by
        rw [step_def, addw_comm]
        rw [addw_comm] at hal
        exact mixT_all hal
      rw [hm] at hml ⊢
      repeat (first
        |refine Z01 ?_|refine Z02 ?_|refine Z03 ?_|refine Z04 ?_|refine Z05 ?_|refine Z06 ?_|refine Z07 ?_|refine Z08 ?_|refine Z09 ?_|refine Z10 ?_|refine Z11 ?_
        |refine Z12 ?_|refine Z13 ?_|refine Z14 ?_|refine Z15 ?_|refine Z17 ?_|refine Z18 ?_|refine Z22 ?_|refine Z23 ?_|refine Z24 ?_|refine Z25 ?_|refine Z26 ?_
        |refine Z27 ?_|refine Z28 ?_|refine Z29 ?_|refine Z30 ?_|refine Z31 ?_|refine Z32 ?_|refine Z33 ?_|refine Z39 ?_|refine Z40 ?_|refine Z55 ?_|refine Z65 ?_
        |refine Z67 ?_|refine Z70 ?_|refine Z81 fun _ => ?_|refine Z82 fun _ => ?_)
      refine Zec fun _ hw => post_of hw SubW.nil ⟨?_, rfl⟩
      rfl
end Go.Proofs.Ytbjfjkmidhfgcaa.L
