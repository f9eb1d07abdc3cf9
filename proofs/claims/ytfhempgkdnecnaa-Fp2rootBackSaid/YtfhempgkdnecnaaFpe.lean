/- The numbers modulo p: inverses by halving, the program's walks. Conditions: as each statement says. -/
import Derived.Test.YtfhempgkdnecnaaAuto
import Derived.Test.YtfhempgkdnecnaaPerm
import Derived.Test.YtfhempgkdnecnaaMore
import Derived.Test.YtfhempgkdnecnaaProg
import Derived.Test.YtfhempgkdnecnaaNum
import Derived.Test.YtfhempgkdnecnaaLmb
import Derived.Test.YtfhempgkdnecnaaLmd
import Derived.Test.YtfhempgkdnecnaaLmk
import Derived.Test.YtfhempgkdnecnaaScope
import Derived.Test.YtfhempgkdnecnaaJoin
import Derived.Test.YtfhempgkdnecnaaLma
import Derived.Test.YtfhempgkdnecnaaLmz
import Derived.Test.YtfhempgkdnecnaaWin
import Derived.Test.YtfhempgkdnecnaaGho
import Derived.Test.YtfhempgkdnecnaaBld
import Derived.Test.YtfhempgkdnecnaaArr
import Derived.Test.YtfhempgkdnecnaaClr
import Derived.Test.YtfhempgkdnecnaaPq
import Derived.Test.YtfhempgkdnecnaaKf
import Derived.Test.YtfhempgkdnecnaaFpa
import Derived.Test.YtfhempgkdnecnaaFpb
import Derived.Test.YtfhempgkdnecnaaFpc
import Derived.Test.YtfhempgkdnecnaaFpd
namespace Go.Proofs.Ytfhempgkdnecnaa.L
open Go Go.Proofs
set_option maxRecDepth 100000
attribute [local irreducible] Code.wp wpList Af bodyPost L.Go
open Num
attribute [local simp] D_len

instance nzp : NeZero p := ⟨Nat.ne_of_gt p_pos⟩
theorem inv_val {a r : Nat} (h : a * r % p = 1) : r % p = a ^ (p - 2) % p := by
  have hk : Kf.κ p a * Kf.κ p r = 1 := by
    rw [← Kf.κ_mul, ← Kf.κ_1, Kf.κ_eq, h, Nat.mod_eq_of_lt p_prime.1]
  have h2 := Kf.inv_unique p_prime hk
  rw [Kf.inv, ← Kf.κ_pow, Kf.κ_eq] at h2
  exact h2.symm
theorem sub_val {A x y u v : Nat} (hx : A * x % p = u % p) (hy : A * y % p = v % p) (h : v ≤ u) : A * ((x + (p - y % p) % p) % p) % p = (u - v) % p := by
  have e1 : Kf.κ p A * Kf.κ p x = Kf.κ p u := by rw [← Kf.κ_mul, Kf.κ_eq]; exact hx
  have e2 : Kf.κ p A * Kf.κ p y = Kf.κ p v := by rw [← Kf.κ_mul, Kf.κ_eq]; exact hy
  rw [← Kf.κ_eq, Kf.κ_mul, Kf.κ_mod, Kf.κ_add, Kf.κ_mod, Kf.κ_neg (Nat.le_of_lt (Nat.mod_lt _ p_pos)), Kf.κ_mod, Kf.κ_sub h]
  grind
theorem gcd_dvd {a b c d : Nat} (h : Nat.gcd a b = 1) (hc : c ∣ a) (hd : d ∣ b) : Nat.gcd c d = 1 :=
  Nat.eq_one_of_dvd_one (h ▸ Nat.dvd_gcd (Nat.dvd_trans (Nat.gcd_dvd_left c d) hc) (Nat.dvd_trans (Nat.gcd_dvd_right c d) hd))
theorem gcd_subl {a b : Nat} (h : Nat.gcd a b = 1) (hle : b ≤ a) : Nat.gcd (a - b) b = 1 :=
  Nat.eq_one_of_dvd_one (h ▸ Nat.dvd_gcd (by
    have := Nat.dvd_add (Nat.gcd_dvd_left (a - b) b) (Nat.gcd_dvd_right (a - b) b)
    rwa [Nat.sub_add_cancel hle] at this) (Nat.gcd_dvd_right _ _))
theorem gcd_subr {a b : Nat} (h : Nat.gcd a b = 1) (hle : a ≤ b) : Nat.gcd a (b - a) = 1 := by
  rw [Nat.gcd_comm] at h ⊢
  exact gcd_subl h hle
theorem gcd_p {A : Nat} (h0 : 0 < A) (hA : A < p) : Nat.gcd A p = 1 := by
  rcases p_prime.2 _ (Nat.gcd_dvd_right A p) with h | h
  · exact h
  · have := Nat.le_of_dvd h0 (h ▸ Nat.gcd_dvd_left A p)
    omega

set_option maxHeartbeats 8000000 in
theorem pinv_spec {a : Nat} (ha : a < W ^ 6) : Spec Try.prog 58 [LV .u64 (D 6 a)] NoPre [] (IsV (LV .u64 (D 6 (a ^ (p - 2) % p)))) := by
  refine mk_spec Try.func58 rfl rfl rfl fun w _ => ?_
  have hpl := p_lt
  have hp0 := p_pos
  have hp1 := p_prime.1
  have hl0 := fun x => D_len 6 x
  have hlp := hl0 p
  have hAp := Nat.mod_lt a p_pos
  have hz0 := D6_eq (mod_p a) (show 0 < W ^ 6 by decide)
  repeat (first
    |(refine st_alloc (v := LV .u64 (List.replicate 6 0)) (by rfl) (by rfl) fun _ => ?_)
    |(refine st_callV (by rfl) (by rfl) (by rfl) (preduce_spec ha) (fun _ _ => trivial) (by rfl) ?_)
    |(refine st_callV (by rfl) (by rfl) (by rfl) (pP_spec) (fun _ _ => trivial) (by rfl) ?_)
    |((refine st_buildP (kk := .u64) (vs := [1]) (by rfl) (by rfl) (by rfl) (by rfl) (by rfl) (by rfl) (by rfl) (by rfl) ?_; rw [one6]))
    |((refine st_buildP (kk := .u64) (vs := []) (by rfl) (by rfl) (by rfl) (by rfl) (by rfl) (by rfl) (by rfl) (by rfl) ?_; rw [zero6]))|refine Z02 ?_|refine Z03 ?_
    |refine Z04 ?_|refine Z05 ?_|refine Z06 ?_|refine Z07 ?_|refine Z08 ?_|refine Z09 ?_|refine Z10 ?_|refine Z11 ?_|refine Z12 ?_|refine Z13 ?_|refine Z14 ?_
    |refine Z17 ?_|refine Z18 ?_|refine Z24 ?_|refine Z25 ?_|refine Z26 ?_|refine Z27 ?_|refine Z28 ?_|refine Z29 ?_|refine Z30 ?_|refine Z31 ?_|refine Z32 ?_
    |refine Z62 ?_|refine Z63 ?_|refine Z64 ?_|refine Z65 ?_|refine Z67 ?_|refine Z77 ?_|refine Z78 ?_|refine Z79 ?_|refine Z81 fun _ => ?_|refine Z82 fun _ => ?_)
  refine st_cond (by rfl) (fun hb => ?_) (fun hb => ?_)
  · rw [hz0] at hb
    have hv : a ^ (p - 2) % p = a % p := by
      rw [Nat.pow_mod, hb, Nat.zero_pow (by have := p_odd; omega), Nat.zero_mod]
    rw [← hv]
    rw [← hv] at hz0
    have hla := hl0 (a ^ (p - 2) % p)
    repeat (first
      |refine Z02 ?_|refine Z03 ?_|refine Z04 ?_|refine Z05 ?_|refine Z06 ?_|refine Z07 ?_|refine Z08 ?_|refine Z09 ?_|refine Z10 ?_|refine Z11 ?_|refine Z12 ?_
      |refine Z13 ?_|refine Z14 ?_|refine Z17 ?_|refine Z18 ?_|refine Z24 ?_|refine Z25 ?_|refine Z26 ?_|refine Z27 ?_|refine Z28 ?_|refine Z29 ?_|refine Z30 ?_
      |refine Z31 ?_|refine Z32 ?_|refine Z62 ?_|refine Z63 ?_|refine Z64 ?_|refine Z65 ?_|refine Z67 ?_|refine Z77 ?_|refine Z78 ?_|refine Z79 ?_|refine Z81 fun _ => ?_
      |refine Z82 fun _ => ?_)
    refine Zec fun _ hw => post_of hw SubW.nil ⟨?_, rfl⟩
    rfl
  · rw [hz0] at hb
    have hA0 : 0 < a % p := by omega
    have hg0 := gcd_p hA0 hAp
    have hi0 : a % p * 1 % p = (a % p) % p := by rw [Nat.mul_one]
    have hi1 : a % p * 0 % p = p % p := by rw [Nat.mul_zero, Nat.mod_self, Nat.zero_mod]
    have hval : ∀ r, r < p → a % p * r % p = 1 % p → r = a ^ (p - 2) % p := by
      intro r hr h
      rw [Nat.mod_mul_mod, Nat.mod_eq_of_lt hp1] at h
      rw [← inv_val h, Nat.mod_eq_of_lt hr]
    generalize a ^ (p - 2) % p = R at *
    generalize a % p = A at *
    clear hb hz0
    repeat (first
      |(refine st_alloc (v := LV .u64 (List.replicate 6 0)) (by rfl) (by rfl) fun _ => ?_)|refine Z02 ?_|refine Z03 ?_|refine Z04 ?_|refine Z05 ?_|refine Z06 ?_
      |refine Z07 ?_|refine Z08 ?_|refine Z09 ?_|refine Z10 ?_|refine Z11 ?_|refine Z12 ?_|refine Z13 ?_|refine Z14 ?_|refine Z17 ?_|refine Z18 ?_|refine Z24 ?_
      |refine Z25 ?_|refine Z26 ?_|refine Z27 ?_|refine Z28 ?_|refine Z29 ?_|refine Z30 ?_|refine Z31 ?_|refine Z32 ?_|refine Z62 ?_|refine Z63 ?_|refine Z64 ?_
      |refine Z65 ?_|refine Z67 ?_|refine Z77 ?_|refine Z78 ?_|refine Z79 ?_|refine Z81 fun _ => ?_|refine Z82 fun _ => ?_)
    rename_i b1 b2 b3 b4 b5 b6 b7
    refine st_loop (ι := (Nat × Nat) × (Nat × Nat)) (fun q => (0 < q.1.1 ∧ q.1.1 ≤ p ∧ q.2.1 < p ∧ A * q.2.1 % p = q.1.1 % p) ∧ (0 < q.1.2 ∧ q.1.2 ≤ p ∧ q.2.2 < p ∧ A * q.2.2 % p = q.1.2 % p) ∧ Nat.gcd q.1.1 q.1.2 = 1)
      (fun _ => [(2, pt b2 0), (3, pt b3 0), (4, pt b4 0), (5, pt b5 0), (6, pt b6 0), (7, pt b7 0)])
      (fun q => [.blk b2 (LV .u64 (List.replicate 6 0)) 24, .blk b3 (LV .u64 (D 6 q.1.1)) 24, .blk b4 (LV .u64 (D 6 q.1.2)) 24, .blk b5 (LV .u64 (D 6 q.2.1)) 24, .blk b6 (LV .u64 (D 6 q.2.2)) 24, .blk b7 (LV .u64 (D 6 1)) 24]) (fun q => q.1.1 + q.1.2) ((A, p), (1, 0))
      ⟨⟨hA0, Nat.le_of_lt hAp, hp1, hi0⟩, ⟨hp0, Nat.le_refl p, hp0, hi1⟩, hg0⟩ (by repeat (first | apply subL.nil | refine subL.cons (by rfl) ?_)) (by repeat (first | apply SubW.nil | refine SubW.cons (by repeat (first | apply Find.here | apply Find.there)) ?_)) ?_
    rintro ⟨⟨u, v⟩, ⟨x, y⟩⟩ ⟨⟨hu0, hu, hx, hux⟩, ⟨hv0, hv, hy, hvy⟩, hg⟩
    simp only at hu0 hu hx hux hv0 hv hy hvy hg ⊢
    have huW : u < W ^ 6 := by omega
    have hvW : v < W ^ 6 := by omega
    repeat (first
      
      |((refine st_call (by rfl) (by rfl) (by rfl) (even_spec u x A b3 b5 hu0 huW hx hux) (.cons (by repeat (first | apply Find.here | apply Find.there)) (.cons (by repeat (first | apply Find.here | apply Find.there)) .nil)) (fun _ _ => trivial) (by rfl) ?_; rintro _ _ ⟨rfl, u1, x1, rfl, hd1, ho1, hx1, hux1⟩))
      |((refine st_call (by rfl) (by rfl) (by rfl) (even_spec v y A b4 b6 hv0 hvW hy hvy) (.cons (by repeat (first | apply Find.here | apply Find.there)) (.cons (by repeat (first | apply Find.here | apply Find.there)) .nil)) (fun _ _ => trivial) (by rfl) ?_; rintro _ _ ⟨rfl, v1, y1, rfl, hd2, ho2, hy1, hvy1⟩))
      |refine Z02 ?_|refine Z03 ?_|refine Z04 ?_|refine Z05 ?_|refine Z06 ?_|refine Z07 ?_|refine Z08 ?_|refine Z09 ?_|refine Z10 ?_|refine Z11 ?_|refine Z12 ?_
      |refine Z13 ?_|refine Z14 ?_|refine Z17 ?_|refine Z18 ?_|refine Z24 ?_|refine Z25 ?_|refine Z26 ?_|refine Z27 ?_|refine Z28 ?_|refine Z29 ?_|refine Z30 ?_
      |refine Z31 ?_|refine Z32 ?_|refine Z62 ?_|refine Z63 ?_|refine Z64 ?_|refine Z65 ?_|refine Z67 ?_|refine Z77 ?_|refine Z78 ?_|refine Z79 ?_|refine Z81 fun _ => ?_
      |refine Z82 fun _ => ?_)
    have hg1 := gcd_dvd hg hd1 hd2
    have hu1 := Nat.le_of_dvd hu0 hd1
    have hv1 := Nat.le_of_dvd hv0 hd2
    have huW1 : u1 < W ^ 6 := by omega
    have hvW1 : v1 < W ^ 6 := by omega
    have hz1 := D6_eq huW1 (show 1 < W ^ 6 by decide)
    have hz2 := D6_eq hvW1 (show 1 < W ^ 6 by decide)
    clear hux hvy hd1 hd2 hg
    have hlx1 := hl0 x1
    have hly1 := hl0 y1
    have hlu1 := hl0 u1
    have hlv1 := hl0 v1
    refine st_cond (by rfl) (fun hb => ?_) (fun hb => ?_)
    · rw [hz1] at hb
      have hr := hval x1 hx1 (by rw [hux1, hb])
      repeat (first
        |refine Z02 ?_|refine Z03 ?_|refine Z04 ?_|refine Z05 ?_|refine Z06 ?_|refine Z07 ?_|refine Z08 ?_|refine Z09 ?_|refine Z10 ?_|refine Z11 ?_|refine Z12 ?_
        |refine Z13 ?_|refine Z14 ?_|refine Z17 ?_|refine Z18 ?_|refine Z24 ?_|refine Z25 ?_|refine Z26 ?_|refine Z27 ?_|refine Z28 ?_|refine Z29 ?_|refine Z30 ?_
        |refine Z31 ?_|refine Z32 ?_|refine Z62 ?_|refine Z63 ?_|refine Z64 ?_|refine Z65 ?_|refine Z67 ?_|refine Z77 ?_|refine Z78 ?_|refine Z79 ?_
        |refine Z81 fun _ => ?_|refine Z82 fun _ => ?_)
      refine Zec fun _ hw => post_of hw SubW.nil ⟨?_, rfl⟩
      rw [hr]
    rw [hz1] at hb
    repeat (first
      |refine Z02 ?_|refine Z03 ?_|refine Z04 ?_|refine Z05 ?_|refine Z06 ?_|refine Z07 ?_|refine Z08 ?_|refine Z09 ?_|refine Z10 ?_|refine Z11 ?_|refine Z12 ?_
      |refine Z13 ?_|refine Z14 ?_|refine Z17 ?_|refine Z18 ?_|refine Z24 ?_|refine Z25 ?_|refine Z26 ?_|refine Z27 ?_|refine Z28 ?_|refine Z29 ?_|refine Z30 ?_
      |refine Z31 ?_|refine Z32 ?_|refine Z62 ?_|refine Z63 ?_|refine Z64 ?_|refine Z65 ?_|refine Z67 ?_|refine Z77 ?_|refine Z78 ?_|refine Z79 ?_|refine Z81 fun _ => ?_
      |refine Z82 fun _ => ?_)
    refine st_cond (by rfl) (fun hb2 => ?_) (fun hb2 => ?_)
    · rw [hz2] at hb2
      have hr := hval y1 hy1 (by rw [hvy1, hb2])
      repeat (first
        |refine Z02 ?_|refine Z03 ?_|refine Z04 ?_|refine Z05 ?_|refine Z06 ?_|refine Z07 ?_|refine Z08 ?_|refine Z09 ?_|refine Z10 ?_|refine Z11 ?_|refine Z12 ?_
        |refine Z13 ?_|refine Z14 ?_|refine Z17 ?_|refine Z18 ?_|refine Z24 ?_|refine Z25 ?_|refine Z26 ?_|refine Z27 ?_|refine Z28 ?_|refine Z29 ?_|refine Z30 ?_
        |refine Z31 ?_|refine Z32 ?_|refine Z62 ?_|refine Z63 ?_|refine Z64 ?_|refine Z65 ?_|refine Z67 ?_|refine Z77 ?_|refine Z78 ?_|refine Z79 ?_
        |refine Z81 fun _ => ?_|refine Z82 fun _ => ?_)
      refine Zec fun _ hw => post_of hw SubW.nil ⟨?_, rfl⟩
      rw [hr]
    rw [hz2] at hb2
    have hne : u1 ≠ v1 := by
      rintro rfl
      rw [Nat.gcd_self] at hg1
      exact hb hg1
    have hp1 := D_lt 6 u1
    have hp2 := D_lt 6 v1
    by_cases hlt : u1 < v1
    · have q1 : 0 < u1 := by omega
      have q2 : u1 ≤ p := by omega
      have q3 : 0 < v1 - u1 := by omega
      have q4 : v1 - u1 ≤ p := by omega
      have ho : ord3 (V (D 6 u1)) (V (D 6 v1)) = -1 := by rw [V_D' huW1, V_D' hvW1]; exact ord3_lt hlt
      repeat (first
        |refine Z02 ?_|refine Z03 ?_|refine Z04 ?_|refine Z05 ?_|refine Z06 ?_|refine Z07 ?_|refine Z08 ?_|refine Z09 ?_|refine Z10 ?_|refine Z11 ?_|refine Z12 ?_
        |refine Z13 ?_|refine Z14 ?_|refine Z17 ?_|refine Z18 ?_|refine Z24 ?_|refine Z25 ?_|refine Z26 ?_|refine Z27 ?_|refine Z28 ?_|refine Z29 ?_|refine Z30 ?_
        |refine Z31 ?_|refine Z32 ?_|refine Z62 ?_|refine Z63 ?_|refine Z64 ?_|refine Z65 ?_|refine Z67 ?_|refine Z77 ?_|refine Z78 ?_|refine Z79 ?_
        |refine Z81 fun _ => ?_|refine Z82 fun _ => ?_)
      refine st_draw1 (by rfl) ?_
      repeat (first
        |refine Zqf (by intro _ _ _;(first
          |refine Z02 ?_|refine Z17 ?_|refine Z18 ?_|refine Z62 ?_|refine Z63 ?_|refine Z64 ?_|refine Z65 ?_|refine Z77 ?_|refine Z78 ?_|refine Z79 ?_);exact Zq) ?_
        |refine Zqp (by intro _ _ _;(refine st_callV (by rfl) (by rfl) (by rfl) (cmp_spec _ _ (D 6 u1) (D 6 v1) hp1 hp2 (by omega) (by omega)) (fun w hw => ⟨RdW.arrAll (m := 6) (by repeat (first | apply Find.here | apply Find.there)) hlu1 w hw, RdW.arrAll (m := 6) (by repeat (first | apply Find.here | apply Find.there)) hlv1 w hw⟩) (by rfl) ?_; rw [ho]);exact Zq) ?_
        |refine Zqp (by intro _ _ _;(first
          |refine Z24 ?_|refine Z25 ?_|refine Z26 ?_|refine Z27 ?_|refine Z28 ?_|refine Z67 ?_|refine Z62 ?_);exact Zq) ?_
        |refine Zqe (by intro _ _ _;(first
          |refine Z29 ?_|refine Z30 ?_|refine Z31 ?_|refine Z32 ?_);exact Zqq) ?_
        |refine Zqn ?_)
      refine Zq0 ?_ (by kernel_rfl)
      rw [show decide (Int.ofNat 0 ≤ -1) = false from by decide]
      repeat (first
        |refine Z02 ?_|refine Z03 ?_|refine Z04 ?_|refine Z05 ?_|refine Z06 ?_|refine Z07 ?_|refine Z08 ?_|refine Z09 ?_|refine Z10 ?_|refine Z11 ?_|refine Z12 ?_
        |refine Z13 ?_|refine Z14 ?_|refine Z17 ?_|refine Z18 ?_|refine Z24 ?_|refine Z25 ?_|refine Z26 ?_|refine Z27 ?_|refine Z28 ?_|refine Z29 ?_|refine Z30 ?_
        |refine Z31 ?_|refine Z32 ?_|refine Z62 ?_|refine Z63 ?_|refine Z64 ?_|refine Z65 ?_|refine Z67 ?_|refine Z77 ?_|refine Z78 ?_|refine Z79 ?_
        |refine Z81 fun _ => ?_|refine Z82 fun _ => ?_)
      refine st_draw1 (by rfl) ?_
      repeat (first
        |refine Zqf (by intro _ _ _;(first
          |refine Z02 ?_|refine Z17 ?_|refine Z18 ?_|refine Z62 ?_|refine Z63 ?_|refine Z64 ?_|refine Z65 ?_|refine Z77 ?_|refine Z78 ?_|refine Z79 ?_);exact Zq) ?_
        |refine Zqp (by intro _ _ _;refine st_callV (by rfl) (by rfl) (by rfl) (minusOf_spec hvW1 (Nat.le_of_lt hlt)) (fun _ _ => trivial) (by rfl) ?_;exact Zq) ?_
        |refine Zqp (by intro _ _ _;refine st_callV (by rfl) (by rfl) (by rfl) (psub_spec (Nat.lt_trans hy1 hpl) (Nat.lt_trans hx1 hpl)) (fun _ _ => trivial) (by rfl) ?_;exact Zq) ?_
        |refine Zqp (by intro _ _ _;(first
          |refine Z24 ?_|refine Z25 ?_|refine Z26 ?_|refine Z27 ?_|refine Z28 ?_|refine Z67 ?_|refine Z62 ?_);exact Zq) ?_
        |refine Zqe (by intro _ _ _;(first
          |refine Z29 ?_|refine Z30 ?_|refine Z31 ?_|refine Z32 ?_);exact Zqq) ?_
        |refine Zqn ?_)
      refine Zq0 ?_ (by kernel_rfl)
      repeat (first
        |refine Z02 ?_|refine Z03 ?_|refine Z04 ?_|refine Z05 ?_|refine Z06 ?_|refine Z07 ?_|refine Z08 ?_|refine Z09 ?_|refine Z10 ?_|refine Z11 ?_|refine Z12 ?_
        |refine Z13 ?_|refine Z14 ?_|refine Z17 ?_|refine Z18 ?_|refine Z24 ?_|refine Z25 ?_|refine Z26 ?_|refine Z27 ?_|refine Z28 ?_|refine Z29 ?_|refine Z30 ?_
        |refine Z31 ?_|refine Z32 ?_|refine Z62 ?_|refine Z63 ?_|refine Z64 ?_|refine Z65 ?_|refine Z67 ?_|refine Z77 ?_|refine Z78 ?_|refine Z79 ?_
        |refine Z81 fun _ => ?_|refine Z82 fun _ => ?_)
      exact st_round ((u1, v1 - u1), (x1, (y1 + (p - x1 % p) % p) % p)) ⟨⟨q1, q2, hx1, hux1⟩, ⟨q3, q4, Nat.mod_lt _ hp0, sub_val hvy1 hux1 (Nat.le_of_lt hlt)⟩, gcd_subr hg1 (Nat.le_of_lt hlt)⟩ (by simp only; omega) (by repeat (first | apply subL.nil | refine subL.cons (by rfl) ?_)) (by repeat (first | apply SubW.nil | refine SubW.cons (by repeat (first | apply Find.here | apply Find.there)) ?_))
    · have q1 : 0 < v1 := by omega
      have q2 : v1 ≤ p := by omega
      have q3 : 0 < u1 - v1 := by omega
      have q4 : u1 - v1 ≤ p := by omega
      have ho : ord3 (V (D 6 u1)) (V (D 6 v1)) = 1 := by rw [V_D' huW1, V_D' hvW1]; exact ord3_gt (by omega)
      repeat (first
        |refine Z02 ?_|refine Z03 ?_|refine Z04 ?_|refine Z05 ?_|refine Z06 ?_|refine Z07 ?_|refine Z08 ?_|refine Z09 ?_|refine Z10 ?_|refine Z11 ?_|refine Z12 ?_
        |refine Z13 ?_|refine Z14 ?_|refine Z17 ?_|refine Z18 ?_|refine Z24 ?_|refine Z25 ?_|refine Z26 ?_|refine Z27 ?_|refine Z28 ?_|refine Z29 ?_|refine Z30 ?_
        |refine Z31 ?_|refine Z32 ?_|refine Z62 ?_|refine Z63 ?_|refine Z64 ?_|refine Z65 ?_|refine Z67 ?_|refine Z77 ?_|refine Z78 ?_|refine Z79 ?_
        |refine Z81 fun _ => ?_|refine Z82 fun _ => ?_)
      refine st_draw1 (by rfl) ?_
      repeat (first
        |refine Zqf (by intro _ _ _;(first
          |refine Z02 ?_|refine Z17 ?_|refine Z18 ?_|refine Z62 ?_|refine Z63 ?_|refine Z64 ?_|refine Z65 ?_|refine Z77 ?_|refine Z78 ?_|refine Z79 ?_);exact Zq) ?_
        |refine Zqp (by intro _ _ _;(refine st_callV (by rfl) (by rfl) (by rfl) (cmp_spec _ _ (D 6 u1) (D 6 v1) hp1 hp2 (by omega) (by omega)) (fun w hw => ⟨RdW.arrAll (m := 6) (by repeat (first | apply Find.here | apply Find.there)) hlu1 w hw, RdW.arrAll (m := 6) (by repeat (first | apply Find.here | apply Find.there)) hlv1 w hw⟩) (by rfl) ?_; rw [ho]);exact Zq) ?_
        |refine Zqp (by intro _ _ _;(first
          |refine Z24 ?_|refine Z25 ?_|refine Z26 ?_|refine Z27 ?_|refine Z28 ?_|refine Z67 ?_|refine Z62 ?_);exact Zq) ?_
        |refine Zqe (by intro _ _ _;(first
          |refine Z29 ?_|refine Z30 ?_|refine Z31 ?_|refine Z32 ?_);exact Zqq) ?_
        |refine Zqn ?_)
      refine Zq0 ?_ (by kernel_rfl)
      rw [show decide ((0 : Nat) ≤ 1) = true from by decide]
      repeat (first
        |refine Z02 ?_|refine Z03 ?_|refine Z04 ?_|refine Z05 ?_|refine Z06 ?_|refine Z07 ?_|refine Z08 ?_|refine Z09 ?_|refine Z10 ?_|refine Z11 ?_|refine Z12 ?_
        |refine Z13 ?_|refine Z14 ?_|refine Z17 ?_|refine Z18 ?_|refine Z24 ?_|refine Z25 ?_|refine Z26 ?_|refine Z27 ?_|refine Z28 ?_|refine Z29 ?_|refine Z30 ?_
        |refine Z31 ?_|refine Z32 ?_|refine Z62 ?_|refine Z63 ?_|refine Z64 ?_|refine Z65 ?_|refine Z67 ?_|refine Z77 ?_|refine Z78 ?_|refine Z79 ?_
        |refine Z81 fun _ => ?_|refine Z82 fun _ => ?_)
      refine st_draw1 (by rfl) ?_
      repeat (first
        |refine Zqf (by intro _ _ _;(first
          |refine Z02 ?_|refine Z17 ?_|refine Z18 ?_|refine Z62 ?_|refine Z63 ?_|refine Z64 ?_|refine Z65 ?_|refine Z77 ?_|refine Z78 ?_|refine Z79 ?_);exact Zq) ?_
        |refine Zqp (by intro _ _ _;refine st_callV (by rfl) (by rfl) (by rfl) (minusOf_spec huW1 (Nat.le_of_not_lt hlt)) (fun _ _ => trivial) (by rfl) ?_;exact Zq) ?_
        |refine Zqp (by intro _ _ _;refine st_callV (by rfl) (by rfl) (by rfl) (psub_spec (Nat.lt_trans hx1 hpl) (Nat.lt_trans hy1 hpl)) (fun _ _ => trivial) (by rfl) ?_;exact Zq) ?_
        |refine Zqp (by intro _ _ _;(first
          |refine Z24 ?_|refine Z25 ?_|refine Z26 ?_|refine Z27 ?_|refine Z28 ?_|refine Z67 ?_|refine Z62 ?_);exact Zq) ?_
        |refine Zqe (by intro _ _ _;(first
          |refine Z29 ?_|refine Z30 ?_|refine Z31 ?_|refine Z32 ?_);exact Zqq) ?_
        |refine Zqn ?_)
      refine Zq0 ?_ (by kernel_rfl)
      repeat (first
        |refine Z02 ?_|refine Z03 ?_|refine Z04 ?_|refine Z05 ?_|refine Z06 ?_|refine Z07 ?_|refine Z08 ?_|refine Z09 ?_|refine Z10 ?_|refine Z11 ?_|refine Z12 ?_
        |refine Z13 ?_|refine Z14 ?_|refine Z17 ?_|refine Z18 ?_|refine Z24 ?_|refine Z25 ?_|refine Z26 ?_|refine Z27 ?_|refine Z28 ?_|refine Z29 ?_|refine Z30 ?_
        |refine Z31 ?_|refine Z32 ?_|refine Z62 ?_|refine Z63 ?_|refine Z64 ?_|refine Z65 ?_|refine Z67 ?_|refine Z77 ?_|refine Z78 ?_|refine Z79 ?_
        |refine Z81 fun _ => ?_|refine Z82 fun _ => ?_)
      exact st_round ((u1 - v1, v1), ((x1 + (p - y1 % p) % p) % p, y1)) ⟨⟨q3, q4, Nat.mod_lt _ hp0, sub_val hux1 hvy1 (Nat.le_of_not_lt hlt)⟩, ⟨q1, q2, hy1, hvy1⟩, gcd_subl hg1 (Nat.le_of_not_lt hlt)⟩ (by simp only; omega) (by repeat (first | apply subL.nil | refine subL.cons (by rfl) ?_)) (by repeat (first | apply SubW.nil | refine SubW.cons (by repeat (first | apply Find.here | apply Find.there)) ?_))
end Go.Proofs.Ytfhempgkdnecnaa.L
