/- The walks of SHA-256's step. Conditions: as each statement says. -/
import Derived.Test.YtbjfjkmidhfgcaaAuto
import Derived.Test.YtbjfjkmidhfgcaaPerm
import Derived.Test.YtbjfjkmidhfgcaaMore
import Derived.Test.YtbjfjkmidhfgcaaProg
import Derived.Test.YtbjfjkmidhfgcaaSha
import Derived.Test.YtbjfjkmidhfgcaaShaW
import Derived.Test.YtbjfjkmidhfgcaaShaX
namespace Go.Proofs.Ytbjfjkmidhfgcaa.L
open Go Go.Proofs
set_option maxRecDepth 100000
attribute [local irreducible] Code.wp wpList Af bodyPost L.Go
open Sha

set_option maxHeartbeats 2000000 in
theorem step_spec (h blk : List Nat) (hh : h.length = 8) (hhl : Lt 4294967296 h) (hl : blk.length = 64) (hb : Lt 256 blk) :
    Spec Try.prog 91 [LV .u32 h, LV .u8 blk] NoPre [] (IsV (LV .u32 (Sha.step h blk))) := by
  refine mk_spec Try.func91 rfl rfl rfl fun w _ => ?_
  have hK := Kt_len
  have hsc := sch_len blk 64
  have hscl := sch_lt hb 64
  repeat (first
    |(refine st_alloc (v := LV .u32 (List.replicate 64 0)) (by rfl) (by rfl) fun _ => ?_)
    |(refine st_alloc (v := LV .u32 (List.replicate 8 0)) (by rfl) (by rfl) fun _ => ?_)
    |(refine st_build_arr (vs := Kt.map (N .u32)) (by rfl) (by rfl) (by rfl) (by rfl) (by rfl) (by rfl) (by rfl) (by rfl) (by rfl) ?_)
    |((refine st_call (by rfl) (by rfl) (by rfl) (schedule_spec _ _ blk hl hb) (.cons (by repeat (first | apply Find.here | apply Find.there)) .nil) (fun _ _ => trivial) (by rfl) ?_; rintro _ _ ⟨rfl, rfl⟩))
    |refine Z01 ?_|refine Z02 ?_|refine Z03 ?_|refine Z04 ?_|refine Z05 ?_|refine Z06 ?_|refine Z07 ?_|refine Z08 ?_|refine Z09 ?_|refine Z10 ?_|refine Z11 ?_
    |refine Z12 ?_|refine Z13 ?_|refine Z14 ?_|refine Z15 ?_|refine Z17 ?_|refine Z18 ?_|refine Z22 ?_|refine Z23 ?_|refine Z24 ?_|refine Z25 ?_|refine Z26 ?_
    |refine Z27 ?_|refine Z28 ?_|refine Z29 ?_|refine Z30 ?_|refine Z31 ?_|refine Z32 ?_|refine Z33 ?_|refine Z39 ?_|refine Z40 ?_|refine Z41 ?_|refine Z62 ?_
    |refine Z63 ?_|refine Z64 ?_|refine Z65 ?_|refine Z67 ?_|refine Z70 ?_|refine Z75 ?_|refine Z76 ?_|refine Z81 fun _ => ?_|refine Z82 fun _ => ?_)
  rename_i b1 b2 b3 b4 b5 b6
  refine st_loop (ι := Nat) (fun t => t ≤ 64) (fun t => [(20, N .i64 t), (8, pt b6 0), (7, .func (.func 101) #[] #[]), (6, pt b5 0), (5, pt b4 0), (4, pt b3 0), (2, pt b1 0)])
    (fun t => [.blk b6 (LV .u32 (rnds (sch blk 64) h t)) 88, .blk b5 (LV .u32 (sch blk 64)) 96, .blk b4 (LV .u32 Kt) 96, .blk b3 (LV .u32 (List.replicate 8 0)) 88, .blk b1 (LV .u32 h) 88]) (fun t => 64 - t) 0 (by omega) (by repeat (first | apply subL.nil | refine subL.cons (by rfl) ?_)) (by rw [rnds_0]; exact (by repeat (first | apply SubW.nil | refine SubW.cons (by repeat (first | apply Find.here | apply Find.there)) ?_))) ?_
  intro t ht
  have hsl := rnds_len (sch blk 64) h t
  rw [hh] at hsl
  have hlt := rnds_lt (ws := sch blk 64) hh hhl t
  obtain ⟨a, b, c, d, e, f, g, i, hs⟩ := len8 hsl
  rw [hs] at hlt
  have hss := rnds_succ (sch blk 64) h t
  rw [hs, rnd_def] at hss
  repeat (first
    |refine Z01 ?_|refine Z02 ?_|refine Z03 ?_|refine Z04 ?_|refine Z05 ?_|refine Z06 ?_|refine Z07 ?_|refine Z08 ?_|refine Z09 ?_|refine Z10 ?_|refine Z11 ?_
    |refine Z12 ?_|refine Z13 ?_|refine Z14 ?_|refine Z15 ?_|refine Z17 ?_|refine Z18 ?_|refine Z22 ?_|refine Z23 ?_|refine Z24 ?_|refine Z25 ?_|refine Z26 ?_
    |refine Z27 ?_|refine Z28 ?_|refine Z29 ?_|refine Z30 ?_|refine Z31 ?_|refine Z32 ?_|refine Z33 ?_|refine Z39 ?_|refine Z40 ?_|refine Z41 ?_|refine Z62 ?_
    |refine Z63 ?_|refine Z64 ?_|refine Z65 ?_|refine Z67 ?_|refine Z70 ?_|refine Z75 ?_|refine Z76 ?_|refine Z81 fun _ => ?_|refine Z82 fun _ => ?_)
  refine st_cond (by rfl) (fun ht' => ?_) (fun ht' => ?_)
  · rw [hs]
    have l0 : a < 4294967296 := hlt a (by simp)
    have l1 : b < 4294967296 := hlt b (by simp)
    have l2 : c < 4294967296 := hlt c (by simp)
    have l3 : d < 4294967296 := hlt d (by simp)
    have l4 : e < 4294967296 := hlt e (by simp)
    have l5 : f < 4294967296 := hlt f (by simp)
    have l6 : g < 4294967296 := hlt g (by simp)
    have l7 : i < 4294967296 := hlt i (by simp)
    repeat (first
      |refine Z01 ?_|refine Z02 ?_|refine Z03 ?_|refine Z04 ?_|refine Z05 ?_|refine Z06 ?_|refine Z07 ?_|refine Z08 ?_|refine Z09 ?_|refine Z10 ?_|refine Z11 ?_
      |refine Z12 ?_|refine Z13 ?_|refine Z14 ?_|refine Z15 ?_|refine Z17 ?_|refine Z18 ?_|refine Z22 ?_|refine Z23 ?_|refine Z24 ?_|refine Z25 ?_|refine Z26 ?_
      |refine Z27 ?_|refine Z28 ?_|refine Z29 ?_|refine Z30 ?_|refine Z31 ?_|refine Z32 ?_|refine Z33 ?_|refine Z39 ?_|refine Z40 ?_|refine Z41 ?_|refine Z62 ?_
      |refine Z63 ?_|refine Z64 ?_|refine Z65 ?_|refine Z67 ?_|refine Z70 ?_|refine Z75 ?_|refine Z76 ?_|refine Z81 fun _ => ?_|refine Z82 fun _ => ?_)
    refine st_draw1 (by rfl) ?_
    repeat (first
      |refine Zqf (by intro _ _ _;(first
        |refine Z01 ?_|refine Z02 ?_|refine Z15 ?_|refine Z17 ?_|refine Z18 ?_|refine Z22 ?_|refine Z23 ?_|refine Z33 ?_|refine Z39 ?_|refine Z40 ?_|refine Z41 ?_
        |refine Z62 ?_|refine Z63 ?_|refine Z64 ?_|refine Z65 ?_|refine Z70 ?_);exact Zq) ?_
      |refine Zqp (by intro _ _ _;(first
        |refine Z24 ?_|refine Z25 ?_|refine Z26 ?_|refine Z27 ?_|refine Z28 ?_|refine Z67 ?_|refine Z23 ?_|refine Z62 ?_);exact Zq) ?_
      |refine Zqe (by intro _ _ _;(first
        |refine Z29 ?_|refine Z30 ?_|refine Z31 ?_|refine Z32 ?_);exact Zqq) ?_
      |refine Zqd (by intro _ _ _;(first
        |refine Z75 ?_|refine Z76 ?_);exact Zq) ?_
      |refine Zqn ?_)
    refine Zq0 ?_ (by kernel_rfl)
    simp only [List.getD_cons_zero, List.getD_cons_succ]
    repeat (first
      |refine Z01 ?_|refine Z02 ?_|refine Z03 ?_|refine Z04 ?_|refine Z05 ?_|refine Z06 ?_|refine Z07 ?_|refine Z08 ?_|refine Z09 ?_|refine Z10 ?_|refine Z11 ?_
      |refine Z12 ?_|refine Z13 ?_|refine Z14 ?_|refine Z15 ?_|refine Z17 ?_|refine Z18 ?_|refine Z22 ?_|refine Z23 ?_|refine Z24 ?_|refine Z25 ?_|refine Z26 ?_
      |refine Z27 ?_|refine Z28 ?_|refine Z29 ?_|refine Z30 ?_|refine Z31 ?_|refine Z32 ?_|refine Z33 ?_|refine Z39 ?_|refine Z40 ?_|refine Z41 ?_|refine Z62 ?_
      |refine Z63 ?_|refine Z64 ?_|refine Z65 ?_|refine Z67 ?_|refine Z70 ?_|refine Z75 ?_|refine Z76 ?_|refine Z81 fun _ => ?_|refine Z82 fun _ => ?_)
    refine st_draw1 (by rfl) ?_
    repeat (first
      |refine Zqf (by intro _ _ _;(first
        |refine Z01 ?_|refine Z02 ?_|refine Z15 ?_|refine Z17 ?_|refine Z18 ?_|refine Z22 ?_|refine Z23 ?_|refine Z33 ?_|refine Z39 ?_|refine Z40 ?_|refine Z41 ?_
        |refine Z62 ?_|refine Z63 ?_|refine Z64 ?_|refine Z65 ?_|refine Z70 ?_
        |(refine st_callV (by rfl) (by rfl) (by rfl) (big_spec e 6 11 25 l4 (by omega) (by omega) (by omega)) (fun _ _ => trivial) (by rfl) ?_));exact Zq) ?_
      |refine Zqp (by intro _ _ _;(first
        |refine Z24 ?_|refine Z25 ?_|refine Z26 ?_|refine Z27 ?_|refine Z28 ?_|refine Z67 ?_|refine Z23 ?_|refine Z62 ?_);exact Zq) ?_
      |refine Zqe (by intro _ _ _;(first
        |refine Z29 ?_|refine Z30 ?_|refine Z31 ?_|refine Z32 ?_);exact Zqq) ?_
      |refine Zqd (by intro _ _ _;(first
        |refine Z75 ?_|refine Z76 ?_);exact Zq) ?_
      |refine Zqn ?_)
    refine Zq0 ?_ (by kernel_rfl)
    simp only [List.getD_cons_zero, List.getD_cons_succ]
    rw [ch_mod e f g l4 l5 l6, ← S1_def, add5]
    repeat (first
      |(refine st_callV (by rfl) (by rfl) (by rfl) (big_spec a 2 13 22 l0 (by omega) (by omega) (by omega)) (fun _ _ => trivial) (by rfl) ?_)|refine Z01 ?_|refine Z02 ?_
      |refine Z03 ?_|refine Z04 ?_|refine Z05 ?_|refine Z06 ?_|refine Z07 ?_|refine Z08 ?_|refine Z09 ?_|refine Z10 ?_|refine Z11 ?_|refine Z12 ?_|refine Z13 ?_
      |refine Z14 ?_|refine Z15 ?_|refine Z17 ?_|refine Z18 ?_|refine Z22 ?_|refine Z23 ?_|refine Z24 ?_|refine Z25 ?_|refine Z26 ?_|refine Z27 ?_|refine Z28 ?_
      |refine Z29 ?_|refine Z30 ?_|refine Z31 ?_|refine Z32 ?_|refine Z33 ?_|refine Z39 ?_|refine Z40 ?_|refine Z41 ?_|refine Z62 ?_|refine Z63 ?_|refine Z64 ?_
      |refine Z65 ?_|refine Z67 ?_|refine Z70 ?_|refine Z75 ?_|refine Z76 ?_|refine Z81 fun _ => ?_|refine Z82 fun _ => ?_)
    refine st_draw1 (by rfl) ?_
    repeat (first
      |refine Zqf (by intro _ _ _;(first
        |refine Z01 ?_|refine Z02 ?_|refine Z15 ?_|refine Z17 ?_|refine Z18 ?_|refine Z22 ?_|refine Z23 ?_|refine Z33 ?_|refine Z39 ?_|refine Z40 ?_|refine Z41 ?_
        |refine Z62 ?_|refine Z63 ?_|refine Z64 ?_|refine Z65 ?_|refine Z70 ?_);exact Zq) ?_
      |refine Zqp (by intro _ _ _;(first
        |refine Z24 ?_|refine Z25 ?_|refine Z26 ?_|refine Z27 ?_|refine Z28 ?_|refine Z67 ?_|refine Z23 ?_|refine Z62 ?_);exact Zq) ?_
      |refine Zqe (by intro _ _ _;(first
        |refine Z29 ?_|refine Z30 ?_|refine Z31 ?_|refine Z32 ?_);exact Zqq) ?_
      |refine Zqd (by intro _ _ _;(first
        |refine Z75 ?_|refine Z76 ?_);exact Zq) ?_
      |refine Zqn ?_)
    refine Zq0 ?_ (by kernel_rfl)
    have e7 : (List.take 1 [a, b, c, d, e, f, g, i] ++ List.take (8 - 1) (List.drop 0 (List.take 7 [a, b, c, d, e, f, g, i])) ++ List.drop (1 + min (List.drop 0 (List.take 7 [a, b, c, d, e, f, g, i])).length (8 - 1)) [a, b, c, d, e, f, g, i]) = [a, a, b, c, d, e, f, g] := rfl
    rw [e7]
    repeat (first
      |refine Z01 ?_|refine Z02 ?_|refine Z03 ?_|refine Z04 ?_|refine Z05 ?_|refine Z06 ?_|refine Z07 ?_|refine Z08 ?_|refine Z09 ?_|refine Z10 ?_|refine Z11 ?_
      |refine Z12 ?_|refine Z13 ?_|refine Z14 ?_|refine Z15 ?_|refine Z17 ?_|refine Z18 ?_|refine Z22 ?_|refine Z23 ?_|refine Z24 ?_|refine Z25 ?_|refine Z26 ?_
      |refine Z27 ?_|refine Z28 ?_|refine Z29 ?_|refine Z30 ?_|refine Z31 ?_|refine Z32 ?_|refine Z33 ?_|refine Z39 ?_|refine Z40 ?_|refine Z41 ?_|refine Z62 ?_
      |refine Z63 ?_|refine Z64 ?_|refine Z65 ?_|refine Z67 ?_|refine Z70 ?_|refine Z75 ?_|refine Z76 ?_|refine Z81 fun _ => ?_|refine Z82 fun _ => ?_)
    simp only [List.getD_cons_zero, List.getD_cons_succ, List.set_cons_succ, List.set_cons_zero]
    rw [maj_mod a b c l0 l1 l2, ← S0_def, ← hss]
    exact st_round (t + 1) (by omega) (by omega) (by repeat (first | apply subL.nil | refine subL.cons (by rfl) ?_)) (by repeat (first | apply SubW.nil | refine SubW.cons (by repeat (first | apply Find.here | apply Find.there)) ?_))
  · have h64 : t = 64 := by omega
    subst h64
    have hal := addw_len (xs := rnds (sch blk 64) h 64) (ys := h) (by rw [hsl, hh])
    have hal' : (addw (rnds (sch blk 64) h 64) h).length = (rnds (sch blk 64) h 64).length := hal
    repeat (first
      |refine Z01 ?_|refine Z02 ?_|refine Z03 ?_|refine Z04 ?_|refine Z05 ?_|refine Z06 ?_|refine Z07 ?_|refine Z08 ?_|refine Z09 ?_|refine Z10 ?_|refine Z11 ?_
      |refine Z12 ?_|refine Z13 ?_|refine Z14 ?_|refine Z15 ?_|refine Z17 ?_|refine Z18 ?_|refine Z22 ?_|refine Z23 ?_|refine Z24 ?_|refine Z25 ?_|refine Z26 ?_
      |refine Z27 ?_|refine Z28 ?_|refine Z29 ?_|refine Z30 ?_|refine Z31 ?_|refine Z32 ?_|refine Z33 ?_|refine Z39 ?_|refine Z40 ?_|refine Z41 ?_|refine Z62 ?_
      |refine Z63 ?_|refine Z64 ?_|refine Z65 ?_|refine Z67 ?_|refine Z70 ?_|refine Z75 ?_|refine Z76 ?_|refine Z81 fun _ => ?_|refine Z82 fun _ => ?_)
    refine st_loop (ι := Nat) (fun i => i ≤ 8) (fun i => [(82, N .i64 i), (8, pt b6 0), (4, pt b3 0), (2, pt b1 0)])
      (fun i => [.blk b6 (LV .u32 (mixT (addw (rnds (sch blk 64) h 64) h) (rnds (sch blk 64) h 64) i)) 88, .blk b3 (LV .u32 (List.replicate 8 0)) 88, .blk b1 (LV .u32 h) 88]) (fun i => 8 - i) 0 (by omega) (by repeat (first | apply subL.nil | refine subL.cons (by rfl) ?_)) (by rw [mixT_0]; exact (by repeat (first | apply SubW.nil | refine SubW.cons (by repeat (first | apply Find.here | apply Find.there)) ?_))) ?_
    intro j hj
    have hml := mixT_len hal' j
    rw [hsl] at hml
    repeat (first
      |refine Z01 ?_|refine Z02 ?_|refine Z03 ?_|refine Z04 ?_|refine Z05 ?_|refine Z06 ?_|refine Z07 ?_|refine Z08 ?_|refine Z09 ?_|refine Z10 ?_|refine Z11 ?_
      |refine Z12 ?_|refine Z13 ?_|refine Z14 ?_|refine Z15 ?_|refine Z17 ?_|refine Z18 ?_|refine Z22 ?_|refine Z23 ?_|refine Z24 ?_|refine Z25 ?_|refine Z26 ?_
      |refine Z27 ?_|refine Z28 ?_|refine Z29 ?_|refine Z30 ?_|refine Z31 ?_|refine Z32 ?_|refine Z33 ?_|refine Z39 ?_|refine Z40 ?_|refine Z41 ?_|refine Z62 ?_
      |refine Z63 ?_|refine Z64 ?_|refine Z65 ?_|refine Z67 ?_|refine Z70 ?_|refine Z75 ?_|refine Z76 ?_|refine Z81 fun _ => ?_|refine Z82 fun _ => ?_)
    refine st_cond (by rfl) (fun hj' => ?_) (fun hj' => ?_)
    · repeat (first
        |refine Z01 ?_|refine Z02 ?_|refine Z03 ?_|refine Z04 ?_|refine Z05 ?_|refine Z06 ?_|refine Z07 ?_|refine Z08 ?_|refine Z09 ?_|refine Z10 ?_|refine Z11 ?_
        |refine Z12 ?_|refine Z13 ?_|refine Z14 ?_|refine Z15 ?_|refine Z17 ?_|refine Z18 ?_|refine Z22 ?_|refine Z23 ?_|refine Z24 ?_|refine Z25 ?_|refine Z26 ?_
        |refine Z27 ?_|refine Z28 ?_|refine Z29 ?_|refine Z30 ?_|refine Z31 ?_|refine Z32 ?_|refine Z33 ?_|refine Z39 ?_|refine Z40 ?_|refine Z41 ?_|refine Z62 ?_
        |refine Z63 ?_|refine Z64 ?_|refine Z65 ?_|refine Z67 ?_|refine Z70 ?_|refine Z75 ?_|refine Z76 ?_|refine Z81 fun _ => ?_|refine Z82 fun _ => ?_)
      refine st_draw1 (by rfl) ?_
      repeat (first
        |refine Zqf (by intro _ _ _;(first
          |refine Z01 ?_|refine Z02 ?_|refine Z15 ?_|refine Z17 ?_|refine Z18 ?_|refine Z22 ?_|refine Z23 ?_|refine Z33 ?_|refine Z39 ?_|refine Z40 ?_|refine Z41 ?_
          |refine Z62 ?_|refine Z63 ?_|refine Z64 ?_|refine Z65 ?_|refine Z70 ?_);exact Zq) ?_
        |refine Zqp (by intro _ _ _;(first
          |refine Z24 ?_|refine Z25 ?_|refine Z26 ?_|refine Z27 ?_|refine Z28 ?_|refine Z67 ?_|refine Z23 ?_|refine Z62 ?_);exact Zq) ?_
        |refine Zqe (by intro _ _ _;(first
          |refine Z29 ?_|refine Z30 ?_|refine Z31 ?_|refine Z32 ?_);exact Zqq) ?_
        |refine Zqd (by intro _ _ _;(first
          |refine Z75 ?_|refine Z76 ?_);exact Zq) ?_
        |refine Zqn ?_)
      refine Zq0 ?_ (by kernel_rfl)
      repeat (first
        |refine Z01 ?_|refine Z02 ?_|refine Z03 ?_|refine Z04 ?_|refine Z05 ?_|refine Z06 ?_|refine Z07 ?_|refine Z08 ?_|refine Z09 ?_|refine Z10 ?_|refine Z11 ?_
        |refine Z12 ?_|refine Z13 ?_|refine Z14 ?_|refine Z15 ?_|refine Z17 ?_|refine Z18 ?_|refine Z22 ?_|refine Z23 ?_|refine Z24 ?_|refine Z25 ?_|refine Z26 ?_
        |refine Z27 ?_|refine Z28 ?_|refine Z29 ?_|refine Z30 ?_|refine Z31 ?_|refine Z32 ?_|refine Z33 ?_|refine Z39 ?_|refine Z40 ?_|refine Z41 ?_|refine Z62 ?_
        |refine Z63 ?_|refine Z64 ?_|refine Z65 ?_|refine Z67 ?_|refine Z70 ?_|refine Z75 ?_|refine Z76 ?_|refine Z81 fun _ => ?_|refine Z82 fun _ => ?_)
      rw [mixT_getD hal' (by omega), ← addw_getD (by omega) (by omega), mix_take hal' (by omega)]
      exact st_round (j + 1) (by omega) (by omega) (by repeat (first | apply subL.nil | refine subL.cons (by rfl) ?_)) (by repeat (first | apply SubW.nil | refine SubW.cons (by repeat (first | apply Find.here | apply Find.there)) ?_))
    · have h8 : j = 8 := by omega
      subst h8
      have hm : mixT (addw (rnds (sch blk 64) h 64) h) (rnds (sch blk 64) h 64) 8 = Sha.step h blk := by
        rw [step_def]
        have := mixT_all hal'
        rw [hsl] at this; exact this
      rw [hm] at hml ⊢
      repeat (first
        |refine Z01 ?_|refine Z02 ?_|refine Z03 ?_|refine Z04 ?_|refine Z05 ?_|refine Z06 ?_|refine Z07 ?_|refine Z08 ?_|refine Z09 ?_|refine Z10 ?_|refine Z11 ?_
        |refine Z12 ?_|refine Z13 ?_|refine Z14 ?_|refine Z15 ?_|refine Z17 ?_|refine Z18 ?_|refine Z22 ?_|refine Z23 ?_|refine Z24 ?_|refine Z25 ?_|refine Z26 ?_
        |refine Z27 ?_|refine Z28 ?_|refine Z29 ?_|refine Z30 ?_|refine Z31 ?_|refine Z32 ?_|refine Z33 ?_|refine Z39 ?_|refine Z40 ?_|refine Z41 ?_|refine Z62 ?_
        |refine Z63 ?_|refine Z64 ?_|refine Z65 ?_|refine Z67 ?_|refine Z70 ?_|refine Z75 ?_|refine Z76 ?_|refine Z81 fun _ => ?_|refine Z82 fun _ => ?_)
      refine Zec fun _ hw => post_of hw SubW.nil ⟨?_, rfl⟩
      rfl
end Go.Proofs.Ytbjfjkmidhfgcaa.L
