/- Sums, differences, orders and products of numbers of many words, word by word, in plain Lean. No condition. -/
import Derived.Test.YtfhempgkdnecnaaNum
namespace Go.Proofs.Ytfhempgkdnecnaa.Num

theorem split_p (A p : Nat) : A % p + p * (A / p) = A := Nat.mod_add_div A p
theorem add_digit (A B i : Nat) : (A + B) / W ^ i % W = (A / W ^ i % W + B / W ^ i % W + (A % W ^ i + B % W ^ i) / W ^ i) % W := by
  have hp := W_pow_pos i
  generalize W ^ i = p at *
  have hA := split_p A p
  have hB := split_p B p
  have e : A + B = (A % p + B % p) + p * (A / p + B / p) := by rw [Nat.mul_add]; omega
  conv => lhs; rw [e, Nat.add_mul_div_left _ _ hp]
  generalize A / p = x
  generalize B / p = y
  generalize (A % p + B % p) / p = c
  simp only [W]; omega
theorem add_carry (A B i : Nat) : (A % W ^ (i + 1) + B % W ^ (i + 1)) / W ^ (i + 1) = (A / W ^ i % W + B / W ^ i % W + (A % W ^ i + B % W ^ i) / W ^ i) / W := by
  rw [W_mod_succ, W_mod_succ, Nat.pow_succ, ← Nat.div_div_eq_div_mul]
  have hp := W_pow_pos i
  generalize W ^ i = p at *
  have e : A % p + p * (A / p % W) + (B % p + p * (B / p % W)) = (A % p + B % p) + p * (A / p % W + B / p % W) := by rw [Nat.mul_add]; omega
  rw [e, Nat.add_mul_div_left _ _ hp, Nat.add_comm ((A % p + B % p) / p)]
theorem add_carry_le (A B i : Nat) : (A % W ^ i + B % W ^ i) / W ^ i ≤ 1 := by
  have hp := W_pow_pos i
  have h1 := Nat.mod_lt A hp
  have h2 := Nat.mod_lt B hp
  have : (A % W ^ i + B % W ^ i) / W ^ i < 2 := (Nat.div_lt_iff_lt_mul hp).2 (by omega)
  omega
theorem add_step (A B i : Nat) : D (i + 1) (A + B) = D i (A + B) ++ [(A / W ^ i % W + B / W ^ i % W + (A % W ^ i + B % W ^ i) / W ^ i) % W] := by
  rw [D_snoc, add_digit]

/-! ## Differences -/
def bw (A B i : Nat) : Nat := if A % W ^ i < B % W ^ i then 1 else 0
def sb (A B i : Nat) : Nat := A % W ^ i + W ^ i - B % W ^ i
theorem bw_le (A B i : Nat) : bw A B i ≤ 1 := by unfold bw; split <;> omega
theorem bw_0 (A B : Nat) : bw A B 0 = 0 := by simp [bw, Nat.mod_one]
theorem sub_carry (A B i : Nat) : bw A B (i + 1) = if A / W ^ i % W < B / W ^ i % W + bw A B i then 1 else 0 := by
  unfold bw
  rw [W_mod_succ, W_mod_succ]
  have hp := W_pow_pos i
  generalize W ^ i = p at *
  have h1 := Nat.mod_lt A hp
  have h2 := Nat.mod_lt B hp
  generalize A / p % W = x
  generalize B / p % W = y
  generalize A % p = a at *
  generalize B % p = b at *
  rcases Nat.lt_trichotomy x y with h | h | h
  · have := Nat.mul_le_mul_left p (show x + 1 ≤ y from h)
    rw [Nat.mul_add] at this
    rw [if_pos (show a + p * x < b + p * y by omega), if_pos (by split <;> omega)]
  · subst h
    by_cases hab : a < b
    · rw [if_pos (by omega), if_pos (by rw [if_pos hab]; omega)]
    · rw [if_neg (by omega), if_neg (by rw [if_neg hab]; omega)]
  · have := Nat.mul_le_mul_left p (show y + 1 ≤ x from h)
    rw [Nat.mul_add] at this
    rw [if_neg (show ¬ a + p * x < b + p * y by omega), if_neg (by split <;> omega)]
theorem sub_step (A B i : Nat) : D (i + 1) (sb A B (i + 1)) = D i (sb A B i) ++ [(A / W ^ i % W + 18446744073709551616 - B / W ^ i % W - bw A B i) % W] := by
  have hp := W_pow_pos i
  have h1 := Nat.mod_lt A hp
  have h2 := Nat.mod_lt B hp
  have hx : A / W ^ i % W < W := Nat.mod_lt _ W_pos
  have hy : B / W ^ i % W < W := Nat.mod_lt _ W_pos
  have hW : W = 18446744073709551616 := rfl
  have e : sb A B (i + 1) = sb A B i + W ^ i * (A / W ^ i % W + W - B / W ^ i % W - 1) := by
    unfold sb
    rw [W_mod_succ, W_mod_succ, Nat.pow_succ]
    generalize W ^ i = p at *
    generalize A / p % W = x at *
    generalize B / p % W = y at *
    have e2 : p * (x + W - y - 1) + p * y + p = p * x + p * W := by
      rw [← Nat.mul_add, ← Nat.mul_succ, ← Nat.mul_add]; congr 1; omega
    omega
  rw [D_snoc, e]
  have e3 : D i (sb A B i + W ^ i * (A / W ^ i % W + W - B / W ^ i % W - 1)) = D i (sb A B i) := by
    rw [← D_mod, Nat.add_mul_mod_self_left, D_mod]
  rw [e3, Nat.add_mul_div_left _ _ hp]
  have e4 : sb A B i / W ^ i = 1 - bw A B i := by
    unfold sb bw
    by_cases hab : A % W ^ i < B % W ^ i
    · rw [if_pos hab, Nat.div_eq_of_lt (by omega)]
    · rw [if_neg hab]
      generalize W ^ i = p at *
      generalize A % p = a at *
      generalize B % p = b at *
      rw [show a + p - b = (a - b) + p * 1 by omega, Nat.add_mul_div_left _ _ hp, Nat.div_eq_of_lt (by omega)]
  rw [e4]
  have := bw_le A B i
  congr 2
  generalize A / W ^ i % W = x at *
  generalize B / W ^ i % W = y at *
  generalize bw A B i = b at *
  rw [hW] at *
  rw [show 1 - b + (x + 18446744073709551616 - y - 1) = x + 18446744073709551616 - y - b by omega]

/-! ## Two numbers gone through -/
def crun (g : Nat → Nat → Nat → Nat × Nat) (xs ys : List Nat) : Nat → List Nat × Nat
  | 0 => ([], 0)
  | i + 1 => ((crun g xs ys i).1 ++ [(g (xs.getD i 0) (ys.getD i 0) (crun g xs ys i).2).1], (g (xs.getD i 0) (ys.getD i 0) (crun g xs ys i).2).2)
theorem crun_len (g : Nat → Nat → Nat → Nat × Nat) (xs ys : List Nat) (i : Nat) : (crun g xs ys i).1.length = i := by
  induction i with
  | zero => rfl
  | succ i ih => simp [crun, ih]
theorem crun_0 (g : Nat → Nat → Nat → Nat × Nat) (xs ys : List Nat) : crun g xs ys 0 = ([], 0) := rfl
theorem crun_fst (g : Nat → Nat → Nat → Nat × Nat) (xs ys : List Nat) (i : Nat) : (crun g xs ys (i + 1)).1 = (crun g xs ys i).1 ++ [(g (xs.getD i 0) (ys.getD i 0) (crun g xs ys i).2).1] := rfl
theorem crun_snd (g : Nat → Nat → Nat → Nat × Nat) (xs ys : List Nat) (i : Nat) : (crun g xs ys (i + 1)).2 = (g (xs.getD i 0) (ys.getD i 0) (crun g xs ys i).2).2 := rfl
theorem crun_le {g : Nat → Nat → Nat → Nat × Nat} (hg : ∀ x y c, x < 18446744073709551616 → y < 18446744073709551616 → c ≤ 1 → (g x y c).2 ≤ 1) {xs ys : List Nat} (hx : Lt 18446744073709551616 xs) (hy : Lt 18446744073709551616 ys) (i : Nat) : (crun g xs ys i).2 ≤ 1 := by
  induction i with
  | zero => exact Nat.zero_le _
  | succ i ih => exact hg _ _ _ (hx.getD (by decide) i) (hy.getD (by decide) i) ih
def addg (x y c : Nat) : Nat × Nat := ((x + y + c) % 18446744073709551616, (x + y + c) / 18446744073709551616)
def subg (x y c : Nat) : Nat × Nat := ((x + 18446744073709551616 - y - c) % 18446744073709551616, if x < y + c then 1 else 0)
theorem addg_le (x y c : Nat) (hx : x < 18446744073709551616) (hy : y < 18446744073709551616) (hc : c ≤ 1) : (addg x y c).2 ≤ 1 := by
  simp only [addg]; omega
theorem subg_le (x y c : Nat) (_ : x < 18446744073709551616) (_ : y < 18446744073709551616) (_ : c ≤ 1) : (subg x y c).2 ≤ 1 := by
  simp only [subg]; split <;> omega
theorem crun_add {xs ys : List Nat} (hx : Lt 18446744073709551616 xs) (hy : Lt 18446744073709551616 ys) (i : Nat) :
    crun addg xs ys i = (D i (V xs + V ys), (V xs % W ^ i + V ys % W ^ i) / W ^ i) := by
  induction i with
  | zero => simp [crun, D_0, Nat.mod_one]
  | succ i ih =>
    have e1 := crun_fst addg xs ys i
    have e2 := crun_snd addg xs ys i
    rw [ih] at e1 e2
    rw [add_step, add_carry]
    refine Prod.ext ?_ ?_
    · rw [e1, V_getD hx, V_getD hy]; rfl
    · rw [e2, V_getD hx, V_getD hy]; rfl
theorem crun_sub {xs ys : List Nat} (hx : Lt 18446744073709551616 xs) (hy : Lt 18446744073709551616 ys) (i : Nat) :
    crun subg xs ys i = (D i (sb (V xs) (V ys) i), bw (V xs) (V ys) i) := by
  induction i with
  | zero => simp [crun, D_0, bw_0]
  | succ i ih =>
    have e1 := crun_fst subg xs ys i
    have e2 := crun_snd subg xs ys i
    rw [ih] at e1 e2
    rw [sub_step, sub_carry]
    refine Prod.ext ?_ ?_
    · rw [e1, V_getD hx, V_getD hy]; rfl
    · rw [e2, V_getD hx, V_getD hy]; rfl
theorem V_lt_le {xs : List Nat} (h : Lt 18446744073709551616 xs) {n : Nat} (hn : xs.length ≤ n) : V xs < W ^ n := Nat.lt_of_lt_of_le (V_lt h) (W_le hn)
theorem crun_add_end {xs ys : List Nat} (hx : Lt 18446744073709551616 xs) (hy : Lt 18446744073709551616 ys) {n : Nat} (h1 : xs.length ≤ n) (h2 : ys.length ≤ n) :
    crun addg xs ys n = (D n (V xs + V ys), (V xs + V ys) / W ^ n) := by
  rw [crun_add hx hy, Nat.mod_eq_of_lt (V_lt_le hx h1), Nat.mod_eq_of_lt (V_lt_le hy h2)]
/-- A difference, of so many words. -/
def sbn (n A B : Nat) : Nat := A + W ^ n - B
def bwn (A B : Nat) : Nat := if A < B then 1 else 0
theorem crun_sub_end {xs ys : List Nat} (hx : Lt 18446744073709551616 xs) (hy : Lt 18446744073709551616 ys) {n : Nat} (h1 : xs.length ≤ n) (h2 : ys.length ≤ n) :
    crun subg xs ys n = (D n (sbn n (V xs) (V ys)), bwn (V xs) (V ys)) := by
  rw [crun_sub hx hy]; unfold sb bw sbn bwn
  rw [Nat.mod_eq_of_lt (V_lt_le hx h1), Nat.mod_eq_of_lt (V_lt_le hy h2)]
theorem bwn_le (A B : Nat) : bwn A B ≤ 1 := by unfold bwn; split <;> omega
theorem crun_set (g : Nat → Nat → Nat → Nat × Nat) (xs ys : List Nat) (i n : Nat) (h : i < n) (y : Nat) : ((crun g xs ys i).1 ++ List.replicate (n - i) 0).set i y = (crun g xs ys i).1 ++ [y] ++ List.replicate (n - (i + 1)) 0 := by
  have hl := crun_len g xs ys i
  rw [List.set_append_right _ _ (by omega), hl, Nat.sub_self, show n - i = (n - (i + 1)) + 1 by omega, List.replicate_succ, List.set_cons_zero, List.append_assoc]; rfl
attribute [irreducible] crun

/-! ## The order -/
def ord3 (A B : Nat) : Int := if A < B then -1 else if A = B then 0 else 1
theorem ord3_lt {A B : Nat} (h : A < B) : ord3 A B = -1 := if_pos h
theorem ord3_eq {A B : Nat} (h : A = B) : ord3 A B = 0 := by unfold ord3; rw [if_neg (by omega), if_pos h]
theorem ord3_gt {A B : Nat} (h : B < A) : ord3 A B = 1 := by unfold ord3; rw [if_neg (by omega), if_neg (by omega)]
theorem div_top (A j : Nat) : A / W ^ j = W * (A / W ^ (j + 1)) + A / W ^ j % W := by
  rw [Nat.pow_succ, ← Nat.div_div_eq_div_mul]; exact (Nat.div_add_mod _ _).symm
theorem ord_same {A B j : Nat} (h : A / W ^ (j + 1) = B / W ^ (j + 1)) (hd : A / W ^ j % W = B / W ^ j % W) : A / W ^ j = B / W ^ j := by
  rw [div_top A, div_top B, h, hd]
theorem ord_less {A B j : Nat} (h : A / W ^ (j + 1) = B / W ^ (j + 1)) (hd : A / W ^ j % W < B / W ^ j % W) : A < B := by
  have h1 : A / W ^ j < B / W ^ j := by rw [div_top A, div_top B, h]; omega
  rcases Nat.lt_or_ge A B with h2 | h2
  · exact h2
  · have := Nat.div_le_div_right (c := W ^ j) h2; omega

/-! ## Products -/
theorem mul_bound {x y : Nat} (hx : x < 18446744073709551616) (hy : y < 18446744073709551616) : x * y ≤ 340282366920938463426481119284349108225 :=
  Nat.mul_le_mul (show x ≤ 18446744073709551615 by omega) (show y ≤ 18446744073709551615 by omega)
theorem mul64_hi (x y : Nat) (hx : x < 18446744073709551616) (hy : y < 18446744073709551616) :
    (x % 4294967296) * (y % 4294967296) < 18446744073709551616 ∧
    (x / 4294967296) * (y % 4294967296) + (x % 4294967296) * (y % 4294967296) / 4294967296 < 18446744073709551616 ∧
    ((x / 4294967296) * (y % 4294967296) + (x % 4294967296) * (y % 4294967296) / 4294967296) % 4294967296 + (x % 4294967296) * (y / 4294967296) < 18446744073709551616 ∧
    (x / 4294967296) * (y / 4294967296) + ((x / 4294967296) * (y % 4294967296) + (x % 4294967296) * (y % 4294967296) / 4294967296) / 4294967296 +
      (((x / 4294967296) * (y % 4294967296) + (x % 4294967296) * (y % 4294967296) / 4294967296) % 4294967296 + (x % 4294967296) * (y / 4294967296)) / 4294967296 = x * y / 18446744073709551616 := by
  have hx1 : x / 4294967296 ≤ 4294967295 := by omega
  have hx0 : x % 4294967296 ≤ 4294967295 := by omega
  have hy1 : y / 4294967296 ≤ 4294967295 := by omega
  have hy0 : y % 4294967296 ≤ 4294967295 := by omega
  have e : x * y = x / 4294967296 * (y / 4294967296) * 18446744073709551616 + (x / 4294967296 * (y % 4294967296) + x % 4294967296 * (y / 4294967296)) * 4294967296 + x % 4294967296 * (y % 4294967296) := by
    have h1 : x = x / 4294967296 * 4294967296 + x % 4294967296 := by omega
    have h2 : y = y / 4294967296 * 4294967296 + y % 4294967296 := by omega
    generalize x / 4294967296 = p at *
    generalize x % 4294967296 = q at *
    generalize y / 4294967296 = r at *
    generalize y % 4294967296 = s at *
    subst h1; subst h2
    grind
  have ha := Nat.mul_le_mul hx1 hy1
  have hb := Nat.mul_le_mul hx1 hy0
  have hc := Nat.mul_le_mul hx0 hy1
  have hd := Nat.mul_le_mul hx0 hy0
  rw [e]
  generalize x / 4294967296 * (y / 4294967296) = a at *
  generalize x / 4294967296 * (y % 4294967296) = b at *
  generalize x % 4294967296 * (y / 4294967296) = c at *
  generalize x % 4294967296 * (y % 4294967296) = d at *
  refine ⟨by omega, by omega, by omega, by omega⟩
/-- One word of a product, added to what is there. -/
theorem mul_word {p c s : Nat} (hp : p < 18446744073709551616) (hc : c < 18446744073709551616) (hs : s ≤ 340282366920938463426481119284349108225) :
    (p + (s % 18446744073709551616 + c) % 18446744073709551616) % 18446744073709551616 + 18446744073709551616 * ((((s / 18446744073709551616 + (s % 18446744073709551616 + c) / 18446744073709551616) % 18446744073709551616) +
      (p + (s % 18446744073709551616 + c) % 18446744073709551616) / 18446744073709551616) % 18446744073709551616) = p + s + c ∧
    (((s / 18446744073709551616 + (s % 18446744073709551616 + c) / 18446744073709551616) % 18446744073709551616) + (p + (s % 18446744073709551616 + c) % 18446744073709551616) / 18446744073709551616) % 18446744073709551616 < 18446744073709551616 := by
  omega
end Go.Proofs.Ytfhempgkdnecnaa.Num
