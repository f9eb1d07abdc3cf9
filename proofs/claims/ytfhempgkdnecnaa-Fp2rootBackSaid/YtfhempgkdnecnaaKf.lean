/- The numbers modulo a prime, as a field. No condition. -/
import Derived.Test.YtfhempgkdnecnaaPri
namespace Go.Proofs.Ytfhempgkdnecnaa.L.Kf
open Pr

section ring
variable {n : Nat} [NeZero n]

def κ (n : Nat) [NeZero n] (a : Nat) : Fin n := Fin.ofNat n a
theorem κ_val (x : Fin n) : κ n x.val = x := Fin.ext (Nat.mod_eq_of_lt x.isLt)
theorem val_κ (a : Nat) : (κ n a).val = a % n := rfl
theorem κ_eq {a b : Nat} : κ n a = κ n b ↔ a % n = b % n := Fin.ext_iff
theorem κ_mod (a : Nat) : κ n (a % n) = κ n a := Fin.ext (Nat.mod_mod a n)
theorem κ_add (a b : Nat) : κ n (a + b) = κ n a + κ n b := Fin.ext (by rw [Fin.val_add, val_κ, val_κ, val_κ, ← Nat.add_mod])
theorem κ_mul (a b : Nat) : κ n (a * b) = κ n a * κ n b := Fin.ext (by rw [Fin.val_mul, val_κ, val_κ, val_κ, ← Nat.mul_mod])
theorem κ_0 : κ n 0 = 0 := rfl
theorem κ_1 : κ n 1 = 1 := rfl
theorem κ_n : κ n n = 0 := Fin.ext (by rw [val_κ, Nat.mod_self]; rfl)
theorem κ_sub {a b : Nat} (h : b ≤ a) : κ n (a - b) = κ n a - κ n b := by
  have h1 := κ_add (n := n) (a - b) b
  rw [Nat.sub_add_cancel h] at h1
  rw [h1]; grind
theorem κ_neg {a : Nat} (h : a ≤ n) : κ n (n - a) = - κ n a := by
  rw [κ_sub h, κ_n]; grind
theorem pow_s (a : Fin n) (k : Nat) : a ^ (k + 1) = a ^ k * a := rfl
theorem pow_0 (a : Fin n) : a ^ 0 = 1 := rfl
theorem κ_pow (a : Nat) : ∀ k, κ n (a ^ k) = κ n a ^ k
  | 0 => rfl
  | k + 1 => by rw [Nat.pow_succ, κ_mul, κ_pow a k, pow_s]
theorem val_pow (x : Fin n) (k : Nat) : (x ^ k).val = x.val ^ k % n := by
  rw [← val_κ, κ_pow, κ_val]
theorem one_pow' : ∀ k : Nat, (1 : Fin n) ^ k = 1
  | 0 => rfl
  | k + 1 => by rw [pow_s, one_pow' k]; grind
theorem pow_add' (a : Fin n) (i : Nat) : ∀ k, a ^ (i + k) = a ^ i * a ^ k
  | 0 => by rw [pow_0]; grind
  | k + 1 => by rw [← Nat.add_assoc, pow_s, pow_add' a i k, pow_s]; grind
theorem pow_mul' (a : Fin n) (i : Nat) : ∀ k, a ^ (i * k) = (a ^ i) ^ k
  | 0 => rfl
  | k + 1 => by rw [Nat.mul_add, Nat.mul_one, pow_add', pow_mul' a i k, pow_s]
theorem mul_pow' (a b : Fin n) : ∀ k : Nat, (a * b) ^ k = a ^ k * b ^ k
  | 0 => by simp only [pow_0]; grind
  | k + 1 => by rw [pow_s, mul_pow' a b k, pow_s, pow_s]; grind
theorem zero_pow' {k : Nat} (h : 0 < k) : (0 : Fin n) ^ k = 0 := by
  obtain ⟨j, rfl⟩ : ∃ j, k = j + 1 := ⟨k - 1, by omega⟩
  rw [pow_s]; grind
end ring

section field
variable {n : Nat} [NeZero n] (hp : Prime n)
include hp
theorem one_ne : (1 : Fin n) ≠ 0 := by
  intro h
  have := congrArg Fin.val h
  have h1 : (κ n 1).val = 0 := this
  rw [val_κ, Nat.mod_eq_of_lt hp.1] at h1
  exact absurd h1 (by decide)
omit hp in
theorem dvd_zero {a : Nat} : κ n a = 0 ↔ n ∣ a := by
  rw [← κ_0, κ_eq, Nat.zero_mod]
  exact ⟨Nat.dvd_of_mod_eq_zero, Nat.mod_eq_zero_of_dvd⟩
theorem mul_zero' {a b : Fin n} (h : a * b = 0) : a = 0 ∨ b = 0 := by
  rw [← κ_val a, ← κ_val b, ← κ_mul, dvd_zero] at h
  rcases hp.dvd_mul h with h1 | h1
  · exact .inl (by rw [← κ_val a]; exact (dvd_zero).2 h1)
  · exact .inr (by rw [← κ_val b]; exact (dvd_zero).2 h1)
theorem cancel' {a b c : Fin n} (hc : c ≠ 0) (h : a * c = b * c) : a = b := by
  have : (a - b) * c = 0 := by grind
  rcases mul_zero' hp this with h1 | h1
  · grind
  · exact absurd h1 hc
theorem fermat' {a : Fin n} (h : a ≠ 0) : a ^ (n - 1) = 1 := by
  have h1 : ¬ n ∣ a.val := fun hd => h (by rw [← κ_val a]; exact (dvd_zero).2 hd)
  have h2 := fermat hp h1
  refine Fin.ext ?_
  rw [val_pow, h2]
  show 1 = 1 % n
  rw [Nat.mod_eq_of_lt hp.1]
theorem pow_ne {a : Fin n} (h : a ≠ 0) : ∀ k : Nat, a ^ k ≠ 0
  | 0 => one_ne hp
  | k + 1 => fun hc => by
    rw [pow_s] at hc
    rcases mul_zero' hp hc with h1 | h1
    · exact pow_ne h k h1
    · exact h h1
theorem fermat_p (a : Fin n) : a ^ n = a := by
  have h1 := hp.1
  by_cases h : a = 0
  · subst h; exact zero_pow' (by omega)
  · have h2 := fermat' hp h
    have h3 := pow_s a (n - 1)
    rw [h2, Nat.sub_add_cancel (by omega)] at h3
    rw [h3]; grind
omit hp
def inv (a : Fin n) : Fin n := a ^ (n - 2)
include hp
theorem mul_inv {a : Fin n} (h : a ≠ 0) : a * inv a = 1 := by
  have h1 := hp.1
  have h2 := fermat' hp h
  rw [show n - 1 = n - 2 + 1 by omega, pow_s] at h2
  rw [inv]; grind
omit hp in
theorem inv_zero (h2 : 2 < n) : inv (0 : Fin n) = 0 := zero_pow' (by omega)
theorem inv_unique {a b : Fin n} (h : a * b = 1) : inv a = b := by
  have ha : a ≠ 0 := by
    rintro rfl
    exact one_ne hp (by grind)
  have h1 := mul_inv hp ha
  refine cancel' hp ha ?_
  grind
theorem inv_ne {a : Fin n} (h : a ≠ 0) : inv a ≠ 0 := pow_ne hp h _
omit hp in
theorem inv_mul (a b : Fin n) : inv (a * b) = inv a * inv b := mul_pow' a b _
theorem sq_eq {a b : Fin n} (h : a * a = b * b) : a = b ∨ a = -b := by
  have : (a - b) * (a + b) = 0 := by grind
  rcases mul_zero' hp this with h1 | h1
  · exact .inl (by grind)
  · exact .inr (by grind)
end field
end Go.Proofs.Ytfhempgkdnecnaa.L.Kf
