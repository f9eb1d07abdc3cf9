/- Bytes of numbers, in plain Lean. No condition. -/
import Derived.Test.YtfhempgkdnecnaaLmd
namespace Go.Proofs.Ytfhempgkdnecnaa.Num

theorem W_256 : W = 256 ^ 8 := by decide
/-- A byte of a number. -/
theorem word_byte (A k : Nat) : (A / W ^ (k / 8) % W) >>> (8 * (k % 8)) % 256 = A / 256 ^ k % 256 := by
  have hk := Nat.div_add_mod k 8
  have hr : k % 8 < 8 := Nat.mod_lt _ (by decide)
  have e1 : A / 256 ^ k = A / W ^ (k / 8) / 256 ^ (k % 8) := by
    conv => lhs; rw [← hk, Nat.pow_add, Nat.pow_mul, ← W_256, ← Nat.div_div_eq_div_mul]
  rw [e1]
  generalize A / W ^ (k / 8) = z
  have e2 : 2 ^ (8 * (k % 8)) = 256 ^ (k % 8) := by rw [Nat.pow_mul]
  rw [Nat.shiftRight_eq_div_pow, e2]
  have e3 : W = 256 ^ (k % 8) * (256 * 256 ^ (7 - k % 8)) := by
    rw [W_256, ← Nat.pow_succ', ← Nat.pow_add, show k % 8 + (7 - k % 8 + 1) = 8 by omega]
  rw [e3, Nat.mod_mul_right_div_self, Nat.mod_mul_right_mod]

/-- The bytes of a number, so many, the highest first. -/
def octs (A n : Nat) : List Nat := (List.range n).map fun i => A / 256 ^ (n - 1 - i) % 256
theorem octs_len (A n : Nat) : (octs A n).length = n := by simp [octs]
theorem octs_lt (A n : Nat) : Lt 256 (octs A n) := by
  intro x hx
  simp only [octs, List.mem_map] at hx
  obtain ⟨i, _, rfl⟩ := hx
  exact Nat.mod_lt _ (by decide)
theorem octs_getD (A n i : Nat) (h : i < n) : (octs A n).getD i 0 = A / 256 ^ (n - 1 - i) % 256 := by
  simp [octs, List.getD_eq_getElem?_getD, h]
/-- The number of bytes, the highest first. -/
def bval (bs : List Nat) : Nat := val 256 bs.reverse
theorem bval_lt {bs : List Nat} (h : Lt 256 bs) : bval bs < 256 ^ bs.length := by
  have : Lt 256 bs.reverse := fun x hx => h x (List.mem_reverse.1 hx)
  have := val_lt (by decide) this
  simpa [bval] using this
theorem bval_digit {bs : List Nat} (h : Lt 256 bs) {i : Nat} (hi : i < bs.length) : bval bs / 256 ^ (bs.length - 1 - i) % 256 = bs.getD i 0 := by
  have h' : Lt 256 bs.reverse := fun x hx => h x (List.mem_reverse.1 hx)
  have := getD_val h' (bs.length - 1 - i)
  rw [bval, ← this, List.getD_eq_getElem?_getD, List.getD_eq_getElem?_getD, List.getElem?_reverse (by omega), show bs.length - 1 - (bs.length - 1 - i) = i by omega]
theorem octs_bval (A n : Nat) (h : A < 256 ^ n) : bval (octs A n) = A := by
  have e : (octs A n).reverse = dig 256 n A := by
    apply List.ext_getElem?
    intro i
    rcases Nat.lt_or_ge i n with hi | hi
    · have h1 := getD_dig (B := 256) n A i hi
      have h2 := octs_getD A n (n - 1 - i) (by omega)
      have hl := octs_len A n
      have hd := dig_len (B := 256) n A
      rw [List.getElem?_reverse (by omega), hl]
      rw [List.getD_eq_getElem?_getD, List.getElem?_eq_getElem (by omega)] at h1 h2
      rw [List.getElem?_eq_getElem (by omega), List.getElem?_eq_getElem (by omega)]
      simp only [Option.getD_some] at h1 h2
      rw [h1, h2, show n - 1 - (n - 1 - i) = i by omega]
    · rw [List.getElem?_eq_none (by simp [octs_len]; omega), List.getElem?_eq_none (by simp [dig_len]; omega)]
  rw [bval, e, val_dig, Nat.mod_eq_of_lt h]
attribute [irreducible] octs bval

/-- What the highest bytes make. -/
def hi8 (Y k : Nat) : Nat := Y - Y % 256 ^ k
theorem hi8_step (Y k : Nat) : hi8 Y k = hi8 Y (k + 1) + 256 ^ k * (Y / 256 ^ k % 256) := by
  unfold hi8
  have h := mod_pow_succ' (B := 256) Y k
  have h1 := Nat.mod_le Y (256 ^ (k + 1))
  rw [h] at h1 ⊢
  omega
theorem hi8_all {Y n : Nat} (h : Y < 256 ^ n) : hi8 Y n = 0 := by unfold hi8; rw [Nat.mod_eq_of_lt h]; omega
theorem hi8_0 (Y : Nat) : hi8 Y 0 = Y := by simp [hi8, Nat.mod_one]
theorem hi8_mul (Y k : Nat) : hi8 Y k = 256 ^ k * (Y / 256 ^ k) := by
  unfold hi8
  have := split_p Y (256 ^ k)
  omega
/-- One more byte is laid into its word. -/
theorem put_byte (Y k n : Nat) (hY : hi8 Y k < W ^ n) (hk : k < 8 * n) :
    let w := hi8 Y (k + 1) / W ^ (k / 8) % W
    let x := Y / 256 ^ k % 256
    (w ||| (x <<< (8 * (k % 8)) % 18446744073709551616)) = w + x * 256 ^ (k % 8) ∧ w + x * 256 ^ (k % 8) < W ∧
    D n (hi8 Y k) = (D n (hi8 Y (k + 1))).set (k / 8) (w + x * 256 ^ (k % 8)) := by
  intro w x
  have hkd := Nat.div_add_mod k 8
  have hr : k % 8 < 8 := Nat.mod_lt _ (by decide)
  have hx : x < 256 := Nat.mod_lt _ (by decide)
  have e2 : 2 ^ (8 * (k % 8)) = 256 ^ (k % 8) := by rw [Nat.pow_mul]
  -- the word is a multiple of 256 ^ (k % 8 + 1)
  have hw : w = 256 ^ (k % 8 + 1) * (Y / 256 ^ (k + 1) % 256 ^ (7 - k % 8)) := by
    show hi8 Y (k + 1) / W ^ (k / 8) % W = _
    rw [hi8_mul]
    have e3 : 256 ^ (k + 1) = W ^ (k / 8) * 256 ^ (k % 8 + 1) := by
      rw [W_256, ← Nat.pow_mul, ← Nat.pow_add, show 8 * (k / 8) + (k % 8 + 1) = k + 1 by omega]
    have e4 : 256 ^ (k + 1) * (Y / 256 ^ (k + 1)) / W ^ (k / 8) = 256 ^ (k % 8 + 1) * (Y / 256 ^ (k + 1)) := by
      conv => lhs; rw [show 256 ^ (k + 1) * (Y / 256 ^ (k + 1)) = W ^ (k / 8) * (256 ^ (k % 8 + 1) * (Y / 256 ^ (k + 1))) by rw [← Nat.mul_assoc, ← e3]]
      exact Nat.mul_div_cancel_left _ (W_pow_pos _)
    rw [e4]
    have e5 : W = 256 ^ (k % 8 + 1) * 256 ^ (7 - k % 8) := by rw [W_256, ← Nat.pow_add, show k % 8 + 1 + (7 - k % 8) = 8 by omega]
    rw [e5, Nat.mul_mod_mul_left]
  have hlt : w + x * 256 ^ (k % 8) < W := by
    have h1 : Y / 256 ^ (k + 1) % 256 ^ (7 - k % 8) + 1 ≤ 256 ^ (7 - k % 8) := Nat.mod_lt _ (Nat.pow_pos (by decide))
    have h2 := Nat.mul_le_mul_left (256 ^ (k % 8 + 1)) h1
    have e5 : 256 ^ (k % 8 + 1) * 256 ^ (7 - k % 8) = W := by rw [W_256, ← Nat.pow_add, show k % 8 + 1 + (7 - k % 8) = 8 by omega]
    rw [e5, Nat.mul_add, ← hw, Nat.mul_one] at h2
    have h3 := Nat.mul_le_mul_right (256 ^ (k % 8)) (show x + 1 ≤ 256 from hx)
    rw [Nat.add_mul, Nat.one_mul, ← Nat.pow_succ'] at h3
    have h4 : 0 < 256 ^ (k % 8) := Nat.pow_pos (by decide)
    have h5 : k % 8 + 1 = (k % 8).succ := rfl
    rw [h5] at h2
    omega
  have hsl : x * 256 ^ (k % 8) < 256 ^ (k % 8 + 1) := by
    rw [Nat.pow_succ, Nat.mul_comm]; exact Nat.mul_lt_mul_of_pos_left hx (Nat.pow_pos (by decide))
  refine ⟨?_, hlt, ?_⟩
  · have hxl : x * 256 ^ (k % 8) < 18446744073709551616 := Nat.lt_of_le_of_lt (Nat.le_add_left _ _) hlt
    rw [Nat.shiftLeft_eq, e2, Nat.mod_eq_of_lt hxl, hw]
    have e6 : 256 ^ (k % 8 + 1) = 2 ^ (8 * (k % 8 + 1)) := by rw [Nat.pow_mul]
    rw [e6] at hsl ⊢
    rw [Nat.two_pow_add_eq_or_of_lt hsl]
  · have hle : hi8 Y (k + 1) < W ^ n := Nat.lt_of_le_of_lt (by rw [hi8_step Y k]; exact Nat.le_add_right _ _) hY
    refine V_inj (D_lt _ _) ((D_lt _ _).set hlt _) (by simp [D_len]) ?_
    have hvs := V_set (D_lt n (hi8 Y (k + 1))) (k / 8) (w + x * 256 ^ (k % 8)) (by rw [D_len]; omega)
    rw [D_getD _ _ _ (by omega), V_D' hle] at hvs
    rw [V_D' hY, hi8_step Y k]
    have e7 : W ^ (k / 8) * (x * 256 ^ (k % 8)) = 256 ^ k * x := by
      rw [W_256, ← Nat.pow_mul, Nat.mul_comm x, ← Nat.mul_assoc, ← Nat.pow_add, hkd]
    have e10 : W ^ (k / 8) * (w + x * 256 ^ (k % 8)) = W ^ (k / 8) * w + 256 ^ k * x := by rw [Nat.mul_add, e7]
    have e8 : W ^ (k / 8) * (hi8 Y (k + 1) / W ^ (k / 8) % W) = W ^ (k / 8) * w := rfl
    rw [e10, e8] at hvs
    have e9 : hi8 Y (k + 1) + 256 ^ k * (Y / 256 ^ k % 256) = hi8 Y (k + 1) + 256 ^ k * x := rfl
    rw [e9]
    generalize W ^ (k / 8) * w = p1 at *
    generalize 256 ^ k * x = p2 at *
    omega
end Go.Proofs.Ytfhempgkdnecnaa.Num
