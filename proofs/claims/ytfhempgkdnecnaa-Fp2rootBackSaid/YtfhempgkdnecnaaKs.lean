/- Squares and roots in the numbers modulo a prime that leaves 3 by 4, and in those with u, u·u = -1. No condition. -/
import Derived.Test.YtfhempgkdnecnaaKf
namespace Go.Proofs.Ytfhempgkdnecnaa.L.Kf
open Pr

abbrev P3 (n : Nat) : Prop := Prime n ∧ n % 4 = 3
section roots
variable {n : Nat} [NeZero n]
def rt (a : Fin n) : Fin n := a ^ ((n + 1) / 4)
def isq (a : Fin n) : Bool := rt a * rt a == a
def sg (a : Fin n) : Nat := a.val % 2
def evn (a : Fin n) : Fin n := if sg a = 1 then -a else a

variable (hp : P3 n)
include hp
theorem two_ne : (2 : Fin n) ≠ 0 := by
  have h3 := hp.2
  intro h
  have : κ n 2 = 0 := h
  rw [dvd_zero] at this
  have := Nat.le_of_dvd (by decide) this
  omega
theorem rt_sq (a : Fin n) : rt a * rt a = a ^ ((n - 1) / 2) * a := by
  have h3 := hp.2
  rw [rt, ← pow_add', ← pow_s]
  congr 1; omega
theorem half_pow (x : Fin n) : (x * x) ^ ((n - 1) / 2) = x ^ (n - 1) := by
  have h3 := hp.2
  have : x * x = x ^ 2 := by rw [pow_s, pow_s, pow_0]; grind
  rw [this, ← pow_mul']
  congr 1; omega
theorem rt_of_sq {a x : Fin n} (h : x * x = a) : rt a * rt a = a := by
  rw [rt_sq hp, ← h, half_pow hp]
  by_cases hx : x = 0
  · subst hx; grind
  · rw [fermat' hp.1 hx]; grind
theorem isq_iff {a : Fin n} : isq a = true ↔ ∃ x, x * x = a := by
  rw [isq, beq_iff_eq]
  exact ⟨fun h => ⟨_, h⟩, fun ⟨x, h⟩ => rt_of_sq hp h⟩
theorem half_one {a : Fin n} (ha : a ≠ 0) : a ^ ((n - 1) / 2) = 1 ∨ a ^ ((n - 1) / 2) = -1 := by
  have h3 := hp.2
  have h1 : a ^ ((n - 1) / 2) * a ^ ((n - 1) / 2) = 1 * 1 := by
    rw [← pow_add', show (n - 1) / 2 + (n - 1) / 2 = n - 1 by omega, fermat' hp.1 ha]; grind
  exact sq_eq hp.1 h1
theorem sq_or (a : Fin n) : isq a = true ∨ isq (-a) = true := by
  by_cases ha : a = 0
  · subst ha; left; exact (isq_iff hp).2 ⟨0, by grind⟩
  · have h1 := rt_sq hp a
    rcases half_one hp ha with h | h
    · left; rw [h] at h1; exact (isq_iff hp).2 ⟨rt a, by grind⟩
    · right; rw [h] at h1; exact (isq_iff hp).2 ⟨rt a, by grind⟩
omit hp in
theorem odd_pow : ∀ k : Nat, (-1 : Fin n) ^ (2 * k + 1) = -1
  | 0 => by rw [pow_s, pow_0]; grind
  | k + 1 => by rw [show 2 * (k + 1) + 1 = 2 * k + 1 + 1 + 1 by omega, pow_s, pow_s, odd_pow k]; grind
theorem neg_one_no (x : Fin n) : x * x ≠ -1 := by
  have h3 := hp.2
  intro h
  have hx : x ≠ 0 := by
    rintro rfl
    exact one_ne hp.1 (by grind)
  have h1 := half_pow hp x
  rw [h, fermat' hp.1 hx, show (n - 1) / 2 = 2 * (n / 4) + 1 by omega, odd_pow] at h1
  exact two_ne hp (by grind)
theorem sum_sq {x y : Fin n} (h : x * x + y * y = 0) : x = 0 ∧ y = 0 := by
  by_cases hy : y = 0
  · subst hy
    have : x * x = 0 := by grind
    rcases mul_zero' hp.1 this with h1 | h1 <;> exact ⟨h1, rfl⟩
  · exfalso
    have h1 := mul_inv hp.1 hy
    refine neg_one_no hp (x * inv y) ?_
    have : (x * inv y) * (x * inv y) = (x * x) * (inv y * inv y) := by grind
    rw [this, show x * x = -(y * y) by grind]
    have : -(y * y) * (inv y * inv y) = -((y * inv y) * (y * inv y)) := by grind
    rw [this, h1]; grind
theorem not_both {a : Fin n} (ha : a ≠ 0) (h1 : isq a = true) (h2 : isq (-a) = true) : False := by
  obtain ⟨x, hx⟩ := (isq_iff hp).1 h1
  obtain ⟨y, hy⟩ := (isq_iff hp).1 h2
  have := sum_sq hp (x := x) (y := y) (by grind)
  exact ha (by rw [← hx, this.1]; grind)
theorem isq_neg {a : Fin n} (ha : a ≠ 0) : isq (-a) = !isq a := by
  cases h1 : isq a
  · rcases sq_or hp a with h | h
    · rw [h1] at h; exact absurd h (by decide)
    · rw [h]; rfl
  · cases h2 : isq (-a)
    · rfl
    · exact (not_both hp ha h1 h2).elim
theorem isq_mul {a b : Fin n} (ha : a ≠ 0) (hb : b ≠ 0) : isq (a * b) = (isq a == isq b) := by
  have hm : ∀ x y : Fin n, isq x = true → isq y = true → isq (x * y) = true := by
    intro x y hx hy
    obtain ⟨s, hs⟩ := (isq_iff hp).1 hx
    obtain ⟨t, ht⟩ := (isq_iff hp).1 hy
    exact (isq_iff hp).2 ⟨s * t, by grind⟩
  have hab : a * b ≠ 0 := fun h => by
    rcases mul_zero' hp.1 h with h | h
    · exact ha h
    · exact hb h
  have e1 : -a * b = -(a * b) := by grind
  have e2 : a * -b = -(a * b) := by grind
  have e3 : -a * -b = a * b := by grind
  cases h1 : isq a <;> cases h2 : isq b
  · rw [← e3, hm _ _ (by rw [isq_neg hp ha, h1]; rfl) (by rw [isq_neg hp hb, h2]; rfl)]; rfl
  · have := hm (-a) b (by rw [isq_neg hp ha, h1]; rfl) h2
    rw [e1, isq_neg hp hab] at this
    cases h : isq (a * b)
    · rfl
    · rw [h] at this; exact absurd this (by decide)
  · have := hm a (-b) h1 (by rw [isq_neg hp hb, h2]; rfl)
    rw [e2, isq_neg hp hab] at this
    cases h : isq (a * b)
    · rfl
    · rw [h] at this; exact absurd this (by decide)
  · rw [hm a b h1 h2]; rfl
omit hp in
theorem val_neg {a : Fin n} (ha : a ≠ 0) : (-a).val = n - a.val := by
  have h0 : a.val ≠ 0 := fun h => ha (Fin.ext h)
  have := a.isLt
  rw [← κ_val a, ← κ_neg (by omega), val_κ, val_κ, Nat.mod_eq_of_lt this, Nat.mod_eq_of_lt (by omega)]
theorem sg_neg {a : Fin n} (ha : a ≠ 0) : sg a + sg (-a) = 1 := by
  have h3 := hp.2
  have h := val_neg ha
  have := a.isLt
  rw [sg, sg, h]; omega
omit hp
theorem neg_zero' : -(0 : Fin n) = 0 := by grind
theorem sg_zero : sg (0 : Fin n) = 0 := rfl
include hp
theorem sg_evn (a : Fin n) : sg (evn a) = 0 := by
  rw [evn]
  split
  · rename_i h
    by_cases ha : a = 0
    · subst ha; exact absurd h (by rw [sg_zero]; decide)
    · have := sg_neg hp ha; omega
  · rename_i h
    have : sg a < 2 := Nat.mod_lt _ (by decide)
    omega
omit hp
theorem evn_sq (a : Fin n) : evn a * evn a = a * a := by
  rw [evn]; split <;> grind
omit [NeZero n] in
theorem evn_or (a : Fin n) : evn a = a ∨ evn a = -a := by
  rw [evn]; split
  · exact .inr rfl
  · exact .inl rfl
end roots

/-! ## Numbers with u -/
structure K2 (n : Nat) where
  re : Fin n
  im : Fin n
deriving DecidableEq

namespace K2
variable {n : Nat} [NeZero n]
omit [NeZero n] in
theorem ext' {a b : K2 n} (h1 : a.re = b.re) (h2 : a.im = b.im) : a = b := by
  cases a; cases b; cases h1; cases h2; rfl
def zero : K2 n := ⟨0, 0⟩
def one : K2 n := ⟨1, 0⟩
def add (a b : K2 n) : K2 n := ⟨a.re + b.re, a.im + b.im⟩
def neg (a : K2 n) : K2 n := ⟨-a.re, -a.im⟩
def sub (a b : K2 n) : K2 n := ⟨a.re - b.re, a.im - b.im⟩
def mul (a b : K2 n) : K2 n := ⟨a.re * b.re - a.im * b.im, a.re * b.im + a.im * b.re⟩
def conj (a : K2 n) : K2 n := ⟨a.re, -a.im⟩
def scale (a : K2 n) (k : Fin n) : K2 n := ⟨a.re * k, a.im * k⟩
def norm (a : K2 n) : Fin n := a.re * a.re + a.im * a.im
def inv (a : K2 n) : K2 n := scale (conj a) (Kf.inv (norm a))
def pw (a : K2 n) : Nat → K2 n
  | 0 => one
  | k + 1 => mul (pw a k) a
def sgn (a : K2 n) : Nat := if a.re = 0 then sg a.im else sg a.re

theorem mul_comm' (a b : K2 n) : mul a b = mul b a := ext' (by simp only [mul]; grind) (by simp only [mul]; grind)
theorem mul_assoc' (a b c : K2 n) : mul (mul a b) c = mul a (mul b c) := ext' (by simp only [mul]; grind) (by simp only [mul]; grind)
theorem mul_one' (a : K2 n) : mul a one = a := ext' (by simp only [mul, one]; grind) (by simp only [mul, one]; grind)
theorem one_mul' (a : K2 n) : mul one a = a := ext' (by simp only [mul, one]; grind) (by simp only [mul, one]; grind)
theorem mul_add' (a b c : K2 n) : mul a (add b c) = add (mul a b) (mul a c) := ext' (by simp only [mul, add]; grind) (by simp only [mul, add]; grind)
theorem mul_zero2 (a : K2 n) : mul a zero = zero := ext' (by simp only [mul, zero]; grind) (by simp only [mul, zero]; grind)
theorem add_zero' (a : K2 n) : add a zero = a := ext' (by simp only [add, zero]; grind) (by simp only [add, zero]; grind)
theorem add_comm' (a b : K2 n) : add a b = add b a := ext' (by simp only [add]; grind) (by simp only [add]; grind)
theorem add_assoc' (a b c : K2 n) : add (add a b) c = add a (add b c) := ext' (by simp only [add]; grind) (by simp only [add]; grind)
theorem norm_mul (a b : K2 n) : norm (mul a b) = norm a * norm b := by simp only [norm, mul]; grind
theorem neg_neg' (a : K2 n) : neg (neg a) = a := ext' (by simp only [neg]; grind) (by simp only [neg]; grind)
theorem neg_mul_neg (a b : K2 n) : mul (neg a) (neg b) = mul a b := ext' (by simp only [mul, neg]; grind) (by simp only [mul, neg]; grind)

theorem pw_add (a : K2 n) (i : Nat) : ∀ k, pw a (i + k) = mul (pw a i) (pw a k)
  | 0 => by rw [pw, mul_one', Nat.add_zero]
  | k + 1 => by rw [← Nat.add_assoc, pw, pw_add a i k, pw, mul_assoc']
theorem pw_mul (a : K2 n) (i : Nat) : ∀ k, pw a (i * k) = pw (pw a i) k
  | 0 => rfl
  | k + 1 => by rw [Nat.mul_add, Nat.mul_one, pw_add, pw_mul a i k, pw]
theorem mul_pw (a b : K2 n) : ∀ k, pw (mul a b) k = mul (pw a k) (pw b k)
  | 0 => by simp only [pw, mul_one']
  | k + 1 => by
    rw [pw, mul_pw a b k, pw, pw]
    generalize pw a k = x; generalize pw b k = y
    exact ext' (by simp only [mul]; grind) (by simp only [mul]; grind)
theorem pw_one : ∀ k, pw (one : K2 n) k = one
  | 0 => rfl
  | k + 1 => by rw [pw, pw_one k, mul_one']
theorem pw_1 (a : K2 n) : pw a 1 = a := one_mul' a
theorem norm_pw (a : K2 n) : ∀ k, norm (pw a k) = norm a ^ k
  | 0 => by simp only [pw, norm, one, pow_0]; grind
  | k + 1 => by rw [pw, norm_mul, norm_pw a k, pow_s]
theorem pw_base (x : Fin n) : ∀ k, pw ⟨x, 0⟩ k = ⟨x ^ k, 0⟩
  | 0 => rfl
  | k + 1 => by rw [pw, pw_base x k, pow_s]; exact ext' (by simp only [mul]; grind) (by simp only [mul]; grind)

variable (hp : P3 n)
include hp
theorem norm_zero {a : K2 n} (h : norm a = 0) : a = zero := by
  have := sum_sq hp h
  exact ext' this.1 this.2
theorem norm_ne {a : K2 n} (h : a ≠ zero) : norm a ≠ 0 := fun hc => h (norm_zero hp hc)
theorem mul_zero_or {a b : K2 n} (h : mul a b = zero) : a = zero ∨ b = zero := by
  have h1 : norm a * norm b = 0 := by rw [← norm_mul, h]; simp only [norm, zero]; grind
  rcases mul_zero' hp.1 h1 with h2 | h2
  · exact .inl (norm_zero hp h2)
  · exact .inr (norm_zero hp h2)
theorem mul_inv2 {a : K2 n} (h : a ≠ zero) : mul a (inv a) = one := by
  have h1 := mul_inv hp.1 (norm_ne hp h)
  generalize hN : Kf.inv (norm a) = N at h1
  simp only [inv, hN]
  simp only [norm] at h1
  refine ext' ?_ ?_
  · simp only [mul, scale, conj, one]; grind
  · simp only [mul, scale, conj, one]; grind
theorem cancel2 {a b c : K2 n} (hc : c ≠ zero) (h : mul a c = mul b c) : a = b := by
  have h1 : mul (mul a c) (inv c) = mul (mul b c) (inv c) := by rw [h]
  rwa [mul_assoc', mul_assoc', mul_inv2 hp hc, mul_one', mul_one'] at h1
theorem sq_eq2 {a b : K2 n} (h : mul a a = mul b b) : a = b ∨ a = neg b := by
  have : mul (sub a b) (add a b) = zero := by
    have e1 := congrArg re h
    have e2 := congrArg im h
    simp only [mul] at e1 e2
    refine ext' ?_ ?_
    · simp only [mul, sub, add, zero]; grind
    · simp only [mul, sub, add, zero]; grind
  rcases mul_zero_or hp this with h1 | h1
  · left
    have e1 := congrArg re h1
    have e2 := congrArg im h1
    simp only [sub, zero] at e1 e2
    exact ext' (by grind) (by grind)
  · right
    have e1 := congrArg re h1
    have e2 := congrArg im h1
    simp only [add, zero] at e1 e2
    exact ext' (by simp only [neg]; grind) (by simp only [neg]; grind)
theorem sgn_neg {a : K2 n} (ha : a ≠ zero) : sgn a + sgn (neg a) = 1 := by
  by_cases h : a.re = 0
  · have him : a.im ≠ 0 := fun hc => ha (ext' h hc)
    have e1 : sgn a = sg a.im := if_pos h
    have e2 : sgn (neg a) = sg (-a.im) := if_pos (show -a.re = 0 by rw [h]; grind)
    rw [e1, e2]
    exact sg_neg hp him
  · have e1 : sgn a = sg a.re := if_neg h
    have e2 : sgn (neg a) = sg (-a.re) := if_neg (show ¬ -a.re = 0 from fun hc => h (by grind))
    rw [e1, e2]
    exact sg_neg hp h
omit hp
theorem sgn_zero : sgn (zero : K2 n) = 0 := by simp only [sgn, zero, if_true]; rfl
theorem neg_zero2 : neg (zero : K2 n) = zero := ext' (by simp only [neg, zero]; grind) (by simp only [neg, zero]; grind)
def evn2 (a : K2 n) : K2 n := if sgn a = 1 then neg a else a
theorem sgn_lt (a : K2 n) : sgn a < 2 := by
  simp only [sgn]; split <;> exact Nat.mod_lt _ (by decide)
include hp
theorem sgn_evn2 (a : K2 n) : sgn (evn2 a) = 0 := by
  rw [evn2]
  have := sgn_lt a
  split
  · rename_i h
    by_cases ha : a = zero
    · subst ha; exact absurd h (by rw [sgn_zero]; decide)
    · have := sgn_neg hp ha; omega
  · omega
omit hp
theorem evn2_sq (a : K2 n) : mul (evn2 a) (evn2 a) = mul a a := by
  rw [evn2]; split
  · exact neg_mul_neg a a
  · rfl
include hp
/-- A root whose sign is 0 is the only one. -/
theorem root_unique {x y a : K2 n} (hx : mul x x = a) (hy : mul y y = a) (sx : sgn x = 0) (sy : sgn y = 0) : x = y := by
  rcases sq_eq2 hp (hx.trans hy.symm) with h | h
  · exact h
  · by_cases h0 : y = zero
    · subst h0; rw [h, neg_zero2]
    · have := sgn_neg hp h0
      rw [← h] at this; omega
end K2
end Go.Proofs.Ytfhempgkdnecnaa.L.Kf
