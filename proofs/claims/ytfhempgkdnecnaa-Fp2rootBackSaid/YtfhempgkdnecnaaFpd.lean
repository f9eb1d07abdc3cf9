/- The numbers modulo p: halves and inverses, the program's walks. Conditions: as each statement says. -/
import Derived.Test.YtfhempgkdnecnaaAuto
import Derived.Test.YtfhempgkdnecnaaPerm
import Derived.Test.YtfhempgkdnecnaaMore
import Derived.Test.YtfhempgkdnecnaaProg
import Derived.Test.YtfhempgkdnecnaaNum
import Derived.Test.YtfhempgkdnecnaaLmb
import Derived.Test.YtfhempgkdnecnaaLmd
import Derived.Test.YtfhempgkdnecnaaLmk
import Derived.Test.YtfhempgkdnecnaaScope
import Derived.Test.YtfhempgkdnecnaaJoin
import Derived.Test.YtfhempgkdnecnaaLma
import Derived.Test.YtfhempgkdnecnaaLmz
import Derived.Test.YtfhempgkdnecnaaWin
import Derived.Test.YtfhempgkdnecnaaGho
import Derived.Test.YtfhempgkdnecnaaBld
import Derived.Test.YtfhempgkdnecnaaArr
import Derived.Test.YtfhempgkdnecnaaClr
import Derived.Test.YtfhempgkdnecnaaPq
import Derived.Test.YtfhempgkdnecnaaKf
import Derived.Test.YtfhempgkdnecnaaFpa
import Derived.Test.YtfhempgkdnecnaaFpb
import Derived.Test.YtfhempgkdnecnaaFpc
namespace Go.Proofs.Ytfhempgkdnecnaa.L
open Go Go.Proofs
set_option maxRecDepth 100000
attribute [local irreducible] Code.wp wpList Af bodyPost L.Go
open Num
attribute [local simp] D_len

theorem or_half (X i : Nat) : ((X / W ^ i % W) >>> 1 % 18446744073709551616 ||| (X / W ^ (i + 1) % W) <<< 63 % 18446744073709551616 % 18446744073709551616) = X / 2 / W ^ i % W := by
  have h := shift_word (w := 1) (by decide) X i
  rw [Nat.pow_one, show 64 - 1 = 63 from rfl] at h
  rw [← h]
  have hx : X / W ^ i % W < W := Nat.mod_lt _ W_pos
  generalize X / W ^ i % W = x at *
  generalize X / W ^ (i + 1) % W = y
  have e1 : x >>> 1 = x / 2 := by rw [Nat.shiftRight_eq_div_pow]
  have e2 : y <<< 63 % 18446744073709551616 = 2 ^ 63 * (y % 2) := by rw [Nat.shiftLeft_eq]; omega
  have hW : W = 18446744073709551616 := rfl
  rw [e1, e2, Nat.mod_eq_of_lt (a := x / 2) (by omega), Nat.mod_eq_of_lt (a := 2 ^ 63 * (y % 2)) (by omega), Nat.or_comm, ← Nat.two_pow_add_eq_or_of_lt (by omega), Nat.mod_eq_of_lt (a := x / 2 + 2 ^ 63 * (y % 2)) (by omega), Nat.add_comm]
set_option maxHeartbeats 4000000 in
theorem half_spec (a h ba : Nat) (ha : a < W ^ 6) (hh : h ≤ 1) :
    Spec Try.prog 131 [pt ba 0, N .u64 h] NoPre [.blk ba (LV .u64 (D 6 a)) 24] (fun v Wr => v = .tuple #[] ∧ Wr = [.blk ba (LV .u64 (D 6 ((a + h * W ^ 6) / 2))) 24]) := by
  refine mk_spec Try.func131 rfl rfl rfl fun w _ => ?_
  obtain ⟨X, hX⟩ : ∃ X, X = a + h * W ^ 6 := ⟨_, rfl⟩
  have hDX : D 6 a = D 6 X := by rw [hX, ← D_mod 6 (a + h * W ^ 6), Nat.add_mul_mod_self_right, D_mod]
  have hX6 : X / W ^ 6 % W = h := by
    rw [hX, Nat.add_mul_div_right _ _ (W_pow_pos 6), Nat.div_eq_of_lt ha, Nat.zero_add, Nat.mod_eq_of_lt (by have : W = 18446744073709551616 := rfl; omega)]
  rw [← hX, hDX]
  have hdx := D_len 6 X
  have hg : ∀ j, j < 6 → (D 6 X).getD j 0 = X / W ^ j % W := fun j hj => D_getD 6 X j hj
  repeat (first
    |refine Z01 ?_|refine Z02 ?_|refine Z03 ?_|refine Z04 ?_|refine Z05 ?_|refine Z06 ?_|refine Z07 ?_|refine Z08 ?_|refine Z09 ?_|refine Z10 ?_|refine Z11 ?_
    |refine Z12 ?_|refine Z13 ?_|refine Z14 ?_|refine Z15 ?_|refine Z17 ?_|refine Z18 ?_|refine Z22 ?_|refine Z23 ?_|refine Z24 ?_|refine Z25 ?_|refine Z26 ?_
    |refine Z27 ?_|refine Z28 ?_|refine Z29 ?_|refine Z30 ?_|refine Z31 ?_|refine Z32 ?_|refine Z41 ?_|refine Z42 ?_|refine Z43 ?_|refine Z46 ?_|refine Z47 ?_
    |refine Z67 ?_|refine Z70 ?_)
  refine st_loop (ι := Nat) (fun i => i ≤ 5) (fun i => [(0, pt ba 0), (1, N .u64 h), (5, N .i64 i)]) (fun i => [.blk ba (LV .u64 (D i (X / 2) ++ (D 6 X).drop i)) 24]) (fun i => 5 - i) 0 (by omega) (by repeat (first | apply subL.nil | refine subL.cons (by rfl) ?_)) (by rw [D_0, List.nil_append, List.drop_zero]; exact (by repeat (first | apply SubW.nil | refine SubW.cons (by repeat (first | apply Find.here | apply Find.there)) ?_))) ?_
  intro i hi
  have hdl := D_len i (X / 2)
  have hpl : (D i (X / 2) ++ (D 6 X).drop i).length = 6 := by rw [List.length_append, hdl, List.length_drop, hdx]; omega
  have hg0 := (drop_get (xs := D 6 X) hdl).trans (hg i (by omega))
  by_cases h5 : i < 5
  · have hg1 := (drop_get1 (xs := D 6 X) hdl).trans (hg (i + 1) (by omega))
    repeat (first
      |(refine st_cmp (r := true) (by rfl) (by rfl) (cmpN_t (by first | (simp only [cmpP]; done) | (simp only [cmpP]; omega))) (by rfl) ?_)|refine Z01 ?_|refine Z02 ?_
      |refine Z03 ?_|refine Z04 ?_|refine Z05 ?_|refine Z06 ?_|refine Z07 ?_|refine Z08 ?_|refine Z09 ?_|refine Z10 ?_|refine Z11 ?_|refine Z12 ?_|refine Z13 ?_
      |refine Z14 ?_|refine Z15 ?_|refine Z17 ?_|refine Z18 ?_|refine Z22 ?_|refine Z23 ?_|refine Z24 ?_|refine Z25 ?_|refine Z26 ?_|refine Z27 ?_|refine Z28 ?_
      |refine Z29 ?_|refine Z30 ?_|refine Z31 ?_|refine Z32 ?_|refine Z41 ?_|refine Z42 ?_|refine Z43 ?_|refine Z46 ?_|refine Z47 ?_|refine Z67 ?_|refine Z70 ?_)
    refine st_draw1 (by rfl) ?_
    repeat (first
      |refine Zqf (by intro _ _ _;(first
        |(refine st_shr (by rfl) (by rfl) (show 1 ≤ 64 by decide) (by rfl) ?_)|refine Z01 ?_|refine Z02 ?_|refine Z15 ?_|refine Z17 ?_|refine Z18 ?_|refine Z22 ?_
        |refine Z23 ?_|refine Z41 ?_|refine Z42 ?_|refine Z43 ?_|refine Z46 ?_|refine Z47 ?_|refine Z70 ?_);exact Zq) ?_
      |refine Zqp (by intro _ _ _;(first
        |refine Z24 ?_|refine Z25 ?_|refine Z26 ?_|refine Z27 ?_|refine Z28 ?_|refine Z67 ?_|refine Z23 ?_);exact Zq) ?_
      |refine Zqe (by intro _ _ _;(first
        |refine Z29 ?_|refine Z30 ?_|refine Z31 ?_|refine Z32 ?_);exact Zqq) ?_
      |refine Zqn ?_)
    refine Zq0 ?_ (by kernel_rfl)
    rw [hg0, hg1, or_half, drop_set hdl (by omega), ← D_snoc]
    repeat (first
      |refine Z01 ?_|refine Z02 ?_|refine Z03 ?_|refine Z04 ?_|refine Z05 ?_|refine Z06 ?_|refine Z07 ?_|refine Z08 ?_|refine Z09 ?_|refine Z10 ?_|refine Z11 ?_
      |refine Z12 ?_|refine Z13 ?_|refine Z14 ?_|refine Z15 ?_|refine Z17 ?_|refine Z18 ?_|refine Z22 ?_|refine Z23 ?_|refine Z24 ?_|refine Z25 ?_|refine Z26 ?_
      |refine Z27 ?_|refine Z28 ?_|refine Z29 ?_|refine Z30 ?_|refine Z31 ?_|refine Z32 ?_|refine Z41 ?_|refine Z42 ?_|refine Z43 ?_|refine Z46 ?_|refine Z47 ?_
      |refine Z67 ?_|refine Z70 ?_)
    exact st_round (i + 1) (by omega) (by omega) (by repeat (first | apply subL.nil | refine subL.cons (by rfl) ?_)) (by repeat (first | apply SubW.nil | refine SubW.cons (by repeat (first | apply Find.here | apply Find.there)) ?_))
  · have hie : i = 5 := by omega
    subst hie
    have ho := or_half X 5
    rw [show (5 + 1 : Nat) = 6 from rfl, hX6] at ho
    repeat (first
      |(refine st_cmp (r := false) (by rfl) (by rfl) (cmpN_f (by first | (simp only [cmpQ]; done) | (simp only [cmpQ]; omega))) (by rfl) ?_)|refine Z01 ?_|refine Z02 ?_
      |refine Z03 ?_|refine Z04 ?_|refine Z05 ?_|refine Z06 ?_|refine Z07 ?_|refine Z08 ?_|refine Z09 ?_|refine Z10 ?_|refine Z11 ?_|refine Z12 ?_|refine Z13 ?_
      |refine Z14 ?_|refine Z15 ?_|refine Z17 ?_|refine Z18 ?_|refine Z22 ?_|refine Z23 ?_|refine Z24 ?_|refine Z25 ?_|refine Z26 ?_|refine Z27 ?_|refine Z28 ?_
      |refine Z29 ?_|refine Z30 ?_|refine Z31 ?_|refine Z32 ?_|refine Z41 ?_|refine Z42 ?_|refine Z43 ?_|refine Z46 ?_|refine Z47 ?_|refine Z67 ?_|refine Z70 ?_)
    refine st_draw1 (by rfl) ?_
    repeat (first
      |refine Zqf (by intro _ _ _;(first
        |(refine st_shr (by rfl) (by rfl) (show 1 ≤ 64 by decide) (by rfl) ?_)|refine Z01 ?_|refine Z02 ?_|refine Z15 ?_|refine Z17 ?_|refine Z18 ?_|refine Z22 ?_
        |refine Z23 ?_|refine Z41 ?_|refine Z42 ?_|refine Z43 ?_|refine Z46 ?_|refine Z47 ?_|refine Z70 ?_);exact Zq) ?_
      |refine Zqp (by intro _ _ _;(first
        |refine Z24 ?_|refine Z25 ?_|refine Z26 ?_|refine Z27 ?_|refine Z28 ?_|refine Z67 ?_|refine Z23 ?_);exact Zq) ?_
      |refine Zqe (by intro _ _ _;(first
        |refine Z29 ?_|refine Z30 ?_|refine Z31 ?_|refine Z32 ?_);exact Zqq) ?_
      |refine Zqn ?_)
    refine Zq0 ?_ (by kernel_rfl)
    rw [hg0, ho, drop_set hdl (by omega), ← D_snoc, List.drop_eq_nil_of_le (by omega), List.append_nil]
    repeat (first
      |refine Z01 ?_|refine Z02 ?_|refine Z03 ?_|refine Z04 ?_|refine Z05 ?_|refine Z06 ?_|refine Z07 ?_|refine Z08 ?_|refine Z09 ?_|refine Z10 ?_|refine Z11 ?_
      |refine Z12 ?_|refine Z13 ?_|refine Z14 ?_|refine Z15 ?_|refine Z17 ?_|refine Z18 ?_|refine Z22 ?_|refine Z23 ?_|refine Z24 ?_|refine Z25 ?_|refine Z26 ?_
      |refine Z27 ?_|refine Z28 ?_|refine Z29 ?_|refine Z30 ?_|refine Z31 ?_|refine Z32 ?_|refine Z41 ?_|refine Z42 ?_|refine Z43 ?_|refine Z46 ?_|refine Z47 ?_
      |refine Z67 ?_|refine Z70 ?_)
    refine st_end0 (by rfl) fun _ hw => post_of hw (Wout := [.blk ba (LV .u64 (D 6 (X / 2))) 24]) (by exact (by repeat (first | apply SubW.nil | refine SubW.cons (by repeat (first | apply Find.here | apply Find.there)) ?_))) ⟨rfl, rfl⟩

theorem low_bit {u : Nat} (hu : u < W ^ 6) : ((D 6 u).getD 0 0 % 18446744073709551616 &&& 1 % 18446744073709551616) = u % 2 := by
  rw [D_getD' hu, Nat.pow_zero, Nat.div_one, show 1 % 18446744073709551616 = 1 from rfl, Nat.and_one_is_mod, show W = 18446744073709551616 from rfl]
  omega
theorem p_odd : p % 2 = 1 := by decide +kernel
theorem halve {A x u : Nat} (h : A * (2 * x) % p = 2 * u % p) : A * x % p = u % p := by
  rw [Nat.mul_left_comm] at h
  have h2 : ¬ p ∣ 2 := fun hd => by
    have := Nat.le_of_dvd (by decide) hd
    have := p_odd
    have := p_prime.1
    have h3 : p = 2 := by omega
    omega
  rcases Nat.le_total (A * x) u with hle | hle
  · exact (Pr.cancel p_prime h2 hle (by rw [Nat.mul_comm u, Nat.mul_comm (A * x)]; exact h.symm)).symm
  · exact Pr.cancel p_prime h2 hle (by rw [Nat.mul_comm u, Nat.mul_comm (A * x)]; exact h)

set_option maxHeartbeats 8000000 in
theorem even_spec (U X A bu bx : Nat) (hU : 0 < U) (hUW : U < W ^ 6) (hX : X < p) (hA : A * X % p = U % p) :
    Spec Try.prog 99 [pt bu 0, pt bx 0] NoPre [.blk bu (LV .u64 (D 6 U)) 24, .blk bx (LV .u64 (D 6 X)) 24]
      (fun v Wr => v = .tuple #[] ∧ ∃ u x, Wr = [.blk bu (LV .u64 (D 6 u)) 24, .blk bx (LV .u64 (D 6 x)) 24] ∧ u ∣ U ∧ u % 2 = 1 ∧ x < p ∧ A * x % p = u % p) := by
  refine mk_spec Try.func99 rfl rfl rfl fun w _ => ?_
  have hpl := p_lt
  have hp2 := p2_lt
  have hpo := p_odd
  have hl0 := fun x => D_len 6 x
  repeat (first
    |refine Z01 ?_|refine Z02 ?_|refine Z03 ?_|refine Z04 ?_|refine Z05 ?_|refine Z06 ?_|refine Z07 ?_|refine Z08 ?_|refine Z09 ?_|refine Z10 ?_|refine Z11 ?_
    |refine Z12 ?_|refine Z13 ?_|refine Z14 ?_|refine Z15 ?_|refine Z17 ?_|refine Z18 ?_|refine Z19 ?_|refine Z22 ?_|refine Z23 ?_|refine Z24 ?_|refine Z25 ?_
    |refine Z26 ?_|refine Z27 ?_|refine Z28 ?_|refine Z29 ?_|refine Z30 ?_|refine Z31 ?_|refine Z32 ?_|refine Z40 ?_|refine Z46 ?_|refine Z47 ?_|refine Z67 ?_
    |refine Z70 ?_|refine Z82 fun _ => ?_)
  refine st_loop (ι := Nat × Nat) (fun q => 0 < q.1 ∧ q.1 ∣ U ∧ q.2 < p ∧ A * q.2 % p = q.1 % p) (fun _ => [(0, pt bu 0), (1, pt bx 0)]) (fun q => [.blk bu (LV .u64 (D 6 q.1)) 24, .blk bx (LV .u64 (D 6 q.2)) 24]) (fun q => q.1) (U, X) ⟨hU, Nat.dvd_refl U, hX, hA⟩ (by repeat (first | apply subL.nil | refine subL.cons (by rfl) ?_)) (by repeat (first | apply SubW.nil | refine SubW.cons (by repeat (first | apply Find.here | apply Find.there)) ?_)) ?_
  rintro ⟨u, x⟩ ⟨h1, h2, h3, h4⟩
  simp only at h1 h2 h3 h4 ⊢
  have huU := Nat.le_of_dvd hU h2
  have huW : u < W ^ 6 := by omega
  have hxW : x < W ^ 6 := by omega
  have hb1 := low_bit huW
  have hb2 := low_bit hxW
  have hlu := hl0 u
  have hlx := hl0 x
  repeat (first
    |(rw [hb1])|refine Z01 ?_|refine Z02 ?_|refine Z03 ?_|refine Z04 ?_|refine Z05 ?_|refine Z06 ?_|refine Z07 ?_|refine Z08 ?_|refine Z09 ?_|refine Z10 ?_|refine Z11 ?_
    |refine Z12 ?_|refine Z13 ?_|refine Z14 ?_|refine Z15 ?_|refine Z17 ?_|refine Z18 ?_|refine Z19 ?_|refine Z22 ?_|refine Z23 ?_|refine Z24 ?_|refine Z25 ?_
    |refine Z26 ?_|refine Z27 ?_|refine Z28 ?_|refine Z29 ?_|refine Z30 ?_|refine Z31 ?_|refine Z32 ?_|refine Z40 ?_|refine Z46 ?_|refine Z47 ?_|refine Z67 ?_
    |refine Z70 ?_|refine Z82 fun _ => ?_)
  refine st_cond (by rfl) (fun he => ?_) (fun he => ?_)
  · obtain ⟨y, rfl⟩ : ∃ y, u = 2 * y := ⟨u / 2, by omega⟩
    have hy : (2 * y + 0 * W ^ 6) / 2 = y := by rw [Nat.zero_mul]; omega
    have hly := hl0 y
    have hdv : y ∣ U := Nat.dvd_trans (Nat.dvd_mul_left y 2) h2
    repeat (first
      
      |((refine st_call (by rfl) (by rfl) (by rfl) (half_spec (2 * y) 0 bu huW (Nat.zero_le 1)) (.cons (by repeat (first | apply Find.here | apply Find.there)) .nil) (fun _ _ => trivial) (by rfl) ?_; rintro _ _ ⟨rfl, rfl⟩; rw [hy]))
      |(rw [hb2])|refine Z01 ?_|refine Z02 ?_|refine Z03 ?_|refine Z04 ?_|refine Z05 ?_|refine Z06 ?_|refine Z07 ?_|refine Z08 ?_|refine Z09 ?_|refine Z10 ?_
      |refine Z11 ?_|refine Z12 ?_|refine Z13 ?_|refine Z14 ?_|refine Z15 ?_|refine Z17 ?_|refine Z18 ?_|refine Z19 ?_|refine Z22 ?_|refine Z23 ?_|refine Z24 ?_
      |refine Z25 ?_|refine Z26 ?_|refine Z27 ?_|refine Z28 ?_|refine Z29 ?_|refine Z30 ?_|refine Z31 ?_|refine Z32 ?_|refine Z40 ?_|refine Z46 ?_|refine Z47 ?_
      |refine Z67 ?_|refine Z70 ?_|refine Z82 fun _ => ?_)
    refine st_cond (by rfl) (fun hx => ?_) (fun hx => ?_)
    · obtain ⟨z, rfl⟩ : ∃ z, x = 2 * z := ⟨x / 2, by omega⟩
      have hz : (2 * z + 0 * W ^ 6) / 2 = z := by rw [Nat.zero_mul]; omega
      have hm := halve h4
      repeat (first
        
        |((refine st_call (by rfl) (by rfl) (by rfl) (half_spec (2 * z) 0 bx hxW (Nat.zero_le 1)) (.cons (by repeat (first | apply Find.here | apply Find.there)) .nil) (fun _ _ => trivial) (by rfl) ?_; rintro _ _ ⟨rfl, rfl⟩; rw [hz]))
        |refine Z01 ?_|refine Z02 ?_|refine Z03 ?_|refine Z04 ?_|refine Z05 ?_|refine Z06 ?_|refine Z07 ?_|refine Z08 ?_|refine Z09 ?_|refine Z10 ?_|refine Z11 ?_
        |refine Z12 ?_|refine Z13 ?_|refine Z14 ?_|refine Z15 ?_|refine Z17 ?_|refine Z18 ?_|refine Z19 ?_|refine Z22 ?_|refine Z23 ?_|refine Z24 ?_|refine Z25 ?_
        |refine Z26 ?_|refine Z27 ?_|refine Z28 ?_|refine Z29 ?_|refine Z30 ?_|refine Z31 ?_|refine Z32 ?_|refine Z40 ?_|refine Z46 ?_|refine Z47 ?_|refine Z67 ?_
        |refine Z70 ?_|refine Z82 fun _ => ?_)
      exact st_round (y, z) ⟨by omega, hdv, by omega, hm⟩ (by simp only; omega) (by repeat (first | apply subL.nil | refine subL.cons (by rfl) ?_)) (by repeat (first | apply SubW.nil | refine SubW.cons (by repeat (first | apply Find.here | apply Find.there)) ?_))
    · have hlp := hl0 p
      have hm : A * ((x + p) / 2) % p = y % p := by
        refine halve ?_
        rw [show 2 * ((x + p) / 2) = x + p by omega, Nat.mul_add, Nat.add_mul_mod_self_right]
        exact h4
      have hs : (x + p) / 2 < p := by omega
      clear h4 hb1 hb2 h2 huU
      repeat (first
        |(refine st_callV (by rfl) (by rfl) (by rfl) (pP_spec) (fun _ _ => trivial) (by rfl) ?_)
        |(refine st_alloc (v := LV .u64 (List.replicate 6 0)) (by rfl) (by rfl) fun _ => ?_)|refine Z01 ?_|refine Z02 ?_|refine Z03 ?_|refine Z04 ?_|refine Z05 ?_
        |refine Z06 ?_|refine Z07 ?_|refine Z08 ?_|refine Z09 ?_|refine Z10 ?_|refine Z11 ?_|refine Z12 ?_|refine Z13 ?_|refine Z14 ?_|refine Z15 ?_|refine Z17 ?_
        |refine Z18 ?_|refine Z19 ?_|refine Z22 ?_|refine Z23 ?_|refine Z24 ?_|refine Z25 ?_|refine Z26 ?_|refine Z27 ?_|refine Z28 ?_|refine Z29 ?_|refine Z30 ?_
        |refine Z31 ?_|refine Z32 ?_|refine Z40 ?_|refine Z46 ?_|refine Z47 ?_|refine Z67 ?_|refine Z70 ?_|refine Z82 fun _ => ?_)
      rename_i b4
      refine st_loop (ι := Nat) (fun i => i ≤ 6) (fun i => [(0, pt bu 0), (1, pt bx 0), (4, pt b4 0), (5, N .u64 (crun addg (D 6 x) (D 6 p) i).2), (24, N .i64 i)])
        (fun i => [.blk bx (LV .u64 ((crun addg (D 6 x) (D 6 p) i).1 ++ (D 6 x).drop i)) 24, .blk bu (LV .u64 (D 6 y)) 24, .blk b4 (LV .u64 (D 6 p)) 24]) (fun i => 6 - i) 0 (by omega) (by rw [crun_0]; exact (by repeat (first | apply subL.nil | refine subL.cons (by rfl) ?_))) (by rw [crun_0]; exact (by repeat (first | apply SubW.nil | refine SubW.cons (by repeat (first | apply Find.here | apply Find.there)) ?_))) ?_
      intro i hi
      have hc1 := crun_addD_le 6 x p i
      have hl := crun_len addg (D 6 x) (D 6 p) i
      have hol : ((crun addg (D 6 x) (D 6 p) i).1 ++ (D 6 x).drop i).length = 6 := by simp; omega
      have hdg := drop_get (xs := D 6 x) hl
      by_cases h : i < 6
      · repeat (first
          |(refine st_cmp (r := true) (by rfl) (by rfl) (cmpN_t (by first | (simp only [cmpP]; done) | (simp only [cmpP]; omega))) (by rfl) ?_)|refine Z01 ?_
          |refine Z02 ?_|refine Z03 ?_|refine Z04 ?_|refine Z05 ?_|refine Z06 ?_|refine Z07 ?_|refine Z08 ?_|refine Z09 ?_|refine Z10 ?_|refine Z11 ?_|refine Z12 ?_
          |refine Z13 ?_|refine Z14 ?_|refine Z15 ?_|refine Z17 ?_|refine Z18 ?_|refine Z19 ?_|refine Z22 ?_|refine Z23 ?_|refine Z24 ?_|refine Z25 ?_|refine Z26 ?_
          |refine Z27 ?_|refine Z28 ?_|refine Z29 ?_|refine Z30 ?_|refine Z31 ?_|refine Z32 ?_|refine Z40 ?_|refine Z46 ?_|refine Z47 ?_|refine Z67 ?_|refine Z70 ?_
          |refine Z82 fun _ => ?_)
        refine st_draw1 (by rfl) ?_
        repeat (first
          |refine Zqf (by intro _ _ _;(first
            |(refine st_callX (by rfl) (by rfl) (by rfl) (add64X _ _ _ hc1) (by rfl) ?_)|refine Z01 ?_|refine Z02 ?_|refine Z15 ?_|refine Z17 ?_|refine Z18 ?_
            |refine Z19 ?_|refine Z22 ?_|refine Z23 ?_|refine Z40 ?_|refine Z46 ?_|refine Z47 ?_|refine Z70 ?_);exact Zq) ?_
          |refine Zqp (by intro _ _ _;(first
            |refine Z24 ?_|refine Z25 ?_|refine Z26 ?_|refine Z27 ?_|refine Z28 ?_|refine Z67 ?_|refine Z23 ?_);exact Zq) ?_
          |refine Zqe (by intro _ _ _;(first
            |refine Z29 ?_|refine Z30 ?_|refine Z31 ?_|refine Z32 ?_);exact Zqq) ?_
          |refine Zqn ?_)
        refine Zq0 ?_ (by kernel_rfl)
        rw [hdg, ← addg_fst, ← addg_snd, ← crun_snd, crun_drop addg (D 6 x) (D 6 p) i (by omega)]
        repeat (first
          |refine Z01 ?_|refine Z02 ?_|refine Z03 ?_|refine Z04 ?_|refine Z05 ?_|refine Z06 ?_|refine Z07 ?_|refine Z08 ?_|refine Z09 ?_|refine Z10 ?_|refine Z11 ?_
          |refine Z12 ?_|refine Z13 ?_|refine Z14 ?_|refine Z15 ?_|refine Z17 ?_|refine Z18 ?_|refine Z19 ?_|refine Z22 ?_|refine Z23 ?_|refine Z24 ?_|refine Z25 ?_
          |refine Z26 ?_|refine Z27 ?_|refine Z28 ?_|refine Z29 ?_|refine Z30 ?_|refine Z31 ?_|refine Z32 ?_|refine Z40 ?_|refine Z46 ?_|refine Z47 ?_|refine Z67 ?_
          |refine Z70 ?_|refine Z82 fun _ => ?_)
        exact st_round (i + 1) (by omega) (by omega) (by repeat (first | apply subL.nil | refine subL.cons (by rfl) ?_)) (by repeat (first | apply SubW.nil | refine SubW.cons (by repeat (first | apply Find.here | apply Find.there)) ?_))
      · have hie : i = 6 := by omega
        subst hie
        have hdr : (D 6 x).drop 6 = [] := List.drop_eq_nil_of_le (by omega)
        have hxp : x + p < W ^ 6 := by omega
        have h0 : (x + p) / W ^ 6 = 0 := Nat.div_eq_of_lt hxp
        have hz : (x + p + 0 * W ^ 6) / 2 = (x + p) / 2 := by rw [Nat.zero_mul, Nat.add_zero]
        rw [crun_addD hxW hpl, hdr, List.append_nil] at *
        simp only [h0] at *
        have hlz := hl0 ((x + p) / 2)
        repeat (first
          |(refine st_cmp (r := false) (by rfl) (by rfl) (cmpN_f (by first | (simp only [cmpQ]; done) | (simp only [cmpQ]; omega))) (by rfl) ?_)
          |((refine st_call (by rfl) (by rfl) (by rfl) (half_spec (x + p) 0 bx hxp (Nat.zero_le 1)) (.cons (by repeat (first | apply Find.here | apply Find.there)) .nil) (fun _ _ => trivial) (by rfl) ?_; rintro _ _ ⟨rfl, rfl⟩; rw [hz]))
          |refine Z01 ?_|refine Z02 ?_|refine Z03 ?_|refine Z04 ?_|refine Z05 ?_|refine Z06 ?_|refine Z07 ?_|refine Z08 ?_|refine Z09 ?_|refine Z10 ?_|refine Z11 ?_
          |refine Z12 ?_|refine Z13 ?_|refine Z14 ?_|refine Z15 ?_|refine Z17 ?_|refine Z18 ?_|refine Z19 ?_|refine Z22 ?_|refine Z23 ?_|refine Z24 ?_|refine Z25 ?_
          |refine Z26 ?_|refine Z27 ?_|refine Z28 ?_|refine Z29 ?_|refine Z30 ?_|refine Z31 ?_|refine Z32 ?_|refine Z40 ?_|refine Z46 ?_|refine Z47 ?_|refine Z67 ?_
          |refine Z70 ?_|refine Z82 fun _ => ?_)
        exact st_round (y, (x + p) / 2) ⟨by omega, hdv, hs, hm⟩ (by simp only; omega) (by repeat (first | apply subL.nil | refine subL.cons (by rfl) ?_)) (by repeat (first | apply SubW.nil | refine SubW.cons (by repeat (first | apply Find.here | apply Find.there)) ?_))
  · repeat (first
      |refine Z01 ?_|refine Z02 ?_|refine Z03 ?_|refine Z04 ?_|refine Z05 ?_|refine Z06 ?_|refine Z07 ?_|refine Z08 ?_|refine Z09 ?_|refine Z10 ?_|refine Z11 ?_
      |refine Z12 ?_|refine Z13 ?_|refine Z14 ?_|refine Z15 ?_|refine Z17 ?_|refine Z18 ?_|refine Z19 ?_|refine Z22 ?_|refine Z23 ?_|refine Z24 ?_|refine Z25 ?_
      |refine Z26 ?_|refine Z27 ?_|refine Z28 ?_|refine Z29 ?_|refine Z30 ?_|refine Z31 ?_|refine Z32 ?_|refine Z40 ?_|refine Z46 ?_|refine Z47 ?_|refine Z67 ?_
      |refine Z70 ?_|refine Z82 fun _ => ?_)
    refine st_end0 (by rfl) fun _ hw => post_of hw (Wout := [.blk bu (LV .u64 (D 6 u)) 24, .blk bx (LV .u64 (D 6 x)) 24]) (by exact (by repeat (first | apply SubW.nil | refine SubW.cons (by repeat (first | apply Find.here | apply Find.there)) ?_))) ⟨rfl, u, x, rfl, h2, by omega, h3, h4⟩
end Go.Proofs.Ytfhempgkdnecnaa.L
