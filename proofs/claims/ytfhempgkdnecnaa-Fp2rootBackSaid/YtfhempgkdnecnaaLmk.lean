/- Bits of numbers, in plain Lean. No condition. -/
import Derived.Test.YtfhempgkdnecnaaLmd
namespace Go.Proofs.Ytfhempgkdnecnaa.Num

theorem W_2 : W = 2 ^ 64 := by decide
/-- A bit of a number. -/
theorem word_bit (A i : Nat) : ((A / W ^ (i / 64) % W) >>> (i % 64)) % 2 = A / 2 ^ i % 2 := by
  have hk := Nat.div_add_mod i 64
  have hr : i % 64 < 64 := Nat.mod_lt _ (by decide)
  have e1 : A / 2 ^ i = A / W ^ (i / 64) / 2 ^ (i % 64) := by
    conv => lhs; rw [← hk, Nat.pow_add, Nat.pow_mul, ← W_2, ← Nat.div_div_eq_div_mul]
  rw [e1]
  generalize A / W ^ (i / 64) = z
  rw [Nat.shiftRight_eq_div_pow]
  have e3 : W = 2 ^ (i % 64) * (2 * 2 ^ (63 - i % 64)) := by
    rw [W_2, ← Nat.pow_succ', ← Nat.pow_add, show i % 64 + (63 - i % 64 + 1) = 64 by omega]
  rw [e3, Nat.mod_mul_right_div_self, Nat.mod_mul_right_mod]
theorem bit_step (A i : Nat) : A / 2 ^ i = 2 * (A / 2 ^ (i + 1)) + A / 2 ^ i % 2 := by
  have := Nat.div_add_mod (A / 2 ^ i) 2
  rw [Nat.div_div_eq_div_mul, ← Nat.pow_succ] at this
  exact this.symm
end Go.Proofs.Ytfhempgkdnecnaa.Num
