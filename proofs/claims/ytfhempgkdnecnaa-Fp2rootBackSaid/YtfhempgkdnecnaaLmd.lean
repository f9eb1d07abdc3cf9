/- Divisions of two words by one, and of numbers of many words, in plain Lean. No condition. -/
import Derived.Test.YtfhempgkdnecnaaLmb
namespace Go.Proofs.Ytfhempgkdnecnaa.Num

theorem mul64_mod {a b d e H : Nat} (h1 : e < 18446744073709551616) (h2 : b + e / 4294967296 < 18446744073709551616) (h3 : (b + e / 4294967296) % 4294967296 + d < 18446744073709551616)
    (h4 : a + (b + e / 4294967296) / 4294967296 + ((b + e / 4294967296) % 4294967296 + d) / 4294967296 = H) (h5 : H < 18446744073709551616) :
    ((a % 18446744073709551616 + (b % 18446744073709551616 + e % 18446744073709551616 / 4294967296) % 18446744073709551616 / 4294967296) % 18446744073709551616 +
      ((b % 18446744073709551616 + e % 18446744073709551616 / 4294967296) % 18446744073709551616 % 4294967296 + d % 18446744073709551616) % 18446744073709551616 / 4294967296) % 18446744073709551616 = H := by
  have hb : b < 18446744073709551616 := Nat.lt_of_le_of_lt (Nat.le_add_right _ _) h2
  have hd : d < 18446744073709551616 := Nat.lt_of_le_of_lt (Nat.le_add_left _ _) h3
  have h6 : a + (b + e / 4294967296) / 4294967296 < 18446744073709551616 := Nat.lt_of_le_of_lt (Nat.le_add_right _ _) (h4 ▸ h5)
  have ha : a < 18446744073709551616 := Nat.lt_of_le_of_lt (Nat.le_add_right _ _) h6
  rw [Nat.mod_eq_of_lt h1, Nat.mod_eq_of_lt hb, Nat.mod_eq_of_lt h2, Nat.mod_eq_of_lt hd, Nat.mod_eq_of_lt h3, Nat.mod_eq_of_lt ha, Nat.mod_eq_of_lt h6, h4, Nat.mod_eq_of_lt h5]

/-! ## A quotient by its highest half -/
def bb : Nat := 4294967296
/-- The quotient is no more than what the highest halves give. -/
theorem qhat_ge {u u1 v1 v0 : Nat} (hv1 : 0 < v1) (h1 : u1 < 4294967296) : (u * 4294967296 + u1) / (v1 * 4294967296 + v0) ≤ u / v1 := by
  rw [Nat.le_div_iff_mul_le hv1]
  have h := Nat.div_mul_le_self (u * 4294967296 + u1) (v1 * 4294967296 + v0)
  generalize (u * 4294967296 + u1) / (v1 * 4294967296 + v0) = q at *
  rw [Nat.mul_add q, ← Nat.mul_assoc q v1] at h
  omega
theorem qkey {A B r u u1 : Nat} (h : A + r = u) (h2 : r * 4294967296 + u1 < B) : u * 4294967296 + u1 < A * 4294967296 + B := by
  subst h; rw [Nat.add_mul, Nat.add_assoc]; exact Nat.add_lt_add_left h2 _
/-- A guess that is too great. -/
theorem qhat_step {u u1 v1 v0 q r : Nat} (hu : u < v1 * 4294967296 + v0) (hqr : q * v1 + r = u) (h1 : u1 < 4294967296) (hc : 4294967296 ≤ q ∨ r * 4294967296 + u1 < q * v0) :
    (u * 4294967296 + u1) / (v1 * 4294967296 + v0) < q := by
  have hp : 0 < v1 * 4294967296 + v0 := by omega
  rw [Nat.div_lt_iff_lt_mul hp]
  rcases hc with hc | hc
  · have h2 := Nat.mul_le_mul_right (v1 * 4294967296 + v0) hc
    have h3 := Nat.mul_le_mul_left 4294967296 (show u + 1 ≤ v1 * 4294967296 + v0 from hu)
    omega
  · rw [Nat.mul_add q, ← Nat.mul_assoc q v1]
    exact qkey hqr hc
/-- A guess that is not. -/
theorem qhat_stop {u u1 v1 v0 q r : Nat} (hp : 0 < v1 * 4294967296 + v0) (hqr : q * v1 + r = u) (hc : q * v0 ≤ r * 4294967296 + u1) (hq : (u * 4294967296 + u1) / (v1 * 4294967296 + v0) ≤ q) :
    q = (u * 4294967296 + u1) / (v1 * 4294967296 + v0) := by
  refine Nat.le_antisymm ?_ hq
  rw [Nat.le_div_iff_mul_le hp, Nat.mul_add q, ← Nat.mul_assoc q v1]
  omega
theorem qhat_break {u u1 v1 v0 q r : Nat} (hv0 : v0 < 4294967296) (hu : u < v1 * 4294967296 + v0) (hqr : q * v1 + r = u) (hr : 4294967296 ≤ r) : q * v0 ≤ r * 4294967296 + u1 := by
  have hq : q ≤ 4294967296 := by
    rcases Nat.lt_or_ge 4294967296 q with h | h
    · exfalso
      have h2 := Nat.mul_le_mul_right v1 (show 4294967297 ≤ q from h)
      omega
    · exact h
  have h3 : q * v0 ≤ 4294967296 * 4294967296 := Nat.mul_le_mul hq (by omega)
  have h4 : 4294967296 * 4294967296 ≤ r * 4294967296 := Nat.mul_le_mul_right _ hr
  omega
theorem qhat_lt {u u1 y : Nat} (hu : u < y) (h1 : u1 < 4294967296) : (u * 4294967296 + u1) / y < 4294967296 := by
  rw [Nat.div_lt_iff_lt_mul (by omega)]
  have := Nat.mul_le_mul_left 4294967296 (show u + 1 ≤ y from hu)
  omega
/-- Both halves together. -/
theorem div_two {u u1 u0 y : Nat} (hy : 0 < y) :
    ((u * 4294967296 + u1) / y) * 4294967296 + (((u * 4294967296 + u1) % y) * 4294967296 + u0) / y = (u * 18446744073709551616 + (u1 * 4294967296 + u0)) / y ∧
    (((u * 4294967296 + u1) % y) * 4294967296 + u0) % y = (u * 18446744073709551616 + (u1 * 4294967296 + u0)) % y := by
  have h1 := Nat.div_add_mod (u * 4294967296 + u1) y
  have h2 := Nat.div_add_mod (((u * 4294967296 + u1) % y) * 4294967296 + u0) y
  have h3 := Nat.mod_lt (((u * 4294967296 + u1) % y) * 4294967296 + u0) hy
  obtain ⟨a, ha⟩ : ∃ a, a = (u * 4294967296 + u1) / y := ⟨_, rfl⟩
  obtain ⟨b, hb⟩ : ∃ b, b = (u * 4294967296 + u1) % y := ⟨_, rfl⟩
  rw [← ha, ← hb] at h1
  rw [← hb] at h2 h3
  rw [← ha, ← hb]
  obtain ⟨d, hd⟩ : ∃ d, d = (b * 4294967296 + u0) / y := ⟨_, rfl⟩
  obtain ⟨e, he⟩ : ∃ e, e = (b * 4294967296 + u0) % y := ⟨_, rfl⟩
  rw [← hd, ← he] at h2
  rw [← he] at h3
  rw [← hd, ← he]
  have e1 : u * 18446744073709551616 + (u1 * 4294967296 + u0) = y * (a * 4294967296 + d) + e := by
    rw [Nat.mul_add y, ← Nat.mul_assoc y a]
    omega
  rw [e1]
  have e2 : (y * (a * 4294967296 + d) + e) / y = a * 4294967296 + d := by rw [Nat.mul_add_div hy, Nat.div_eq_of_lt h3, Nat.add_zero]
  have e3 : (y * (a * 4294967296 + d) + e) % y = e := by rw [Nat.mul_add_mod y, Nat.mod_eq_of_lt h3]
  exact ⟨e2.symm, e3.symm⟩

theorem norm_div {hi lo y s : Nat} (hy : hi < y) (hlo : lo < 18446744073709551616) (hs : s ≤ 64) :
    (hi * 2 ^ s + lo / 2 ^ (64 - s)) * 18446744073709551616 + lo * 2 ^ s % 18446744073709551616 = (hi * 18446744073709551616 + lo) * 2 ^ s ∧ hi * 2 ^ s + lo / 2 ^ (64 - s) < y * 2 ^ s := by
  have hW : (18446744073709551616 : Nat) = 2 ^ (64 - s) * 2 ^ s := by rw [← Nat.pow_add, show 64 - s + s = 64 by omega]
  have hq : lo * 2 ^ s / 18446744073709551616 = lo / 2 ^ (64 - s) := by rw [hW, Nat.mul_div_mul_right _ _ (Nat.two_pow_pos s)]
  have hd := Nat.div_add_mod (lo * 2 ^ s) 18446744073709551616
  rw [hq] at hd
  have hl : lo / 2 ^ (64 - s) < 2 ^ s := by
    rw [Nat.div_lt_iff_lt_mul (Nat.two_pow_pos _), Nat.mul_comm, ← hW]; exact hlo
  have hm := Nat.mul_le_mul_right (2 ^ s) (show hi + 1 ≤ y from hy)
  rw [Nat.add_mul, Nat.one_mul] at hm
  refine ⟨?_, by omega⟩
  rw [Nat.add_mul, Nat.add_mul (hi * 18446744073709551616), show hi * 18446744073709551616 * 2 ^ s = hi * 2 ^ s * 18446744073709551616 by rw [Nat.mul_assoc, Nat.mul_comm 18446744073709551616, Nat.mul_assoc], Nat.add_assoc, Nat.mul_comm (lo / 2 ^ (64 - s)), hd]
theorem or_plus {a b s : Nat} (hb : b < 2 ^ s) : a * 2 ^ s ||| b = a * 2 ^ s + b := by
  rw [Nat.mul_comm, Nat.two_pow_add_eq_or_of_lt hb]
theorem wrap_sub {a b c d : Nat} (h : a + b = c + d) (hd : d < 18446744073709551616) :
    ((a % 18446744073709551616 + b) % 18446744073709551616 + (18446744073709551616 - c % 18446744073709551616 % 18446744073709551616)) % 18446744073709551616 = d := by
  have e1 : (a % 18446744073709551616 + b) % 18446744073709551616 = (a + b) % 18446744073709551616 := by omega
  rw [e1, h]; omega
theorem wrap_sub1 {a c d : Nat} (h : a = c + d) (hd : d < 18446744073709551616) :
    (a + (18446744073709551616 - c % 18446744073709551616 % 18446744073709551616)) % 18446744073709551616 = d := by
  subst h; omega
theorem wrap_dec {q : Nat} (h : 0 < q) (hq : q < 18446744073709551616) : (q + (18446744073709551616 - 1 % 18446744073709551616)) % 18446744073709551616 = q - 1 := by omega
theorem div_rem_eq (a b : Nat) : a = a / b * b + a % b := by rw [Nat.mul_comm]; exact (Nat.div_add_mod a b).symm

/-! ## How long a number is -/
def bl (x : Nat) : Nat := if x = 0 then 0 else x.log2 + 1
theorem bl_spec (x : Nat) (h : 0 < x) : x < 2 ^ bl x ∧ 2 ^ (bl x - 1) ≤ x ∧ 0 < bl x := by
  unfold bl
  rw [if_neg (by omega)]
  exact ⟨Nat.lt_log2_self, by simpa using Nat.log2_self_le (by omega), by omega⟩
theorem bl_shift (x k : Nat) (h : 2 ^ k ≤ x) : bl x = k + bl (x >>> k) := by
  have hp : 0 < 2 ^ k := Nat.two_pow_pos k
  have hq : 0 < x / 2 ^ k := Nat.div_pos h hp
  have hx : x ≠ 0 := by omega
  rw [Nat.shiftRight_eq_div_pow]
  unfold bl
  rw [if_neg hx, if_neg (by omega)]
  have h1 := Nat.log2_self_le (show x / 2 ^ k ≠ 0 by omega)
  have h2 : x / 2 ^ k < 2 ^ ((x / 2 ^ k).log2 + 1) := Nat.lt_log2_self
  have e : x.log2 = (x / 2 ^ k).log2 + k := (Nat.log2_eq_iff hx).2
    ⟨by rw [Nat.pow_add]; exact (Nat.le_div_iff_mul_le hp).1 h1, by rw [show (x / 2 ^ k).log2 + k + 1 = ((x / 2 ^ k).log2 + 1) + k by omega, Nat.pow_add]; exact (Nat.div_lt_iff_lt_mul hp).1 h2⟩
  omega
theorem bl_le (x k : Nat) (h : x < 2 ^ k) : bl x ≤ k := by
  unfold bl
  split
  · omega
  · rename_i h0
    have := (Nat.log2_lt h0).2 h
    omega
attribute [irreducible] bl

/-! ## A number less its divisor, some times -/
theorem qM_le_top {X M m n : Nat} (hM : M < W ^ n) (_ : m = W ^ n) (_ : 0 < n) : X / W ^ n * M ≤ X :=
  Nat.le_trans (Nat.mul_le_mul_left _ (Nat.le_of_lt hM)) (Nat.div_mul_le_self _ _)
/-- The quotient of the two highest words by the highest word of the divisor, made greater by one, is in it as often. -/
theorem qM_le_two {X M a b t n : Nat} (hM : M < t * W ^ n) (hX : (a * W + b) * W ^ n ≤ X) : (a * W + b) / t * M ≤ X := by
  refine Nat.le_trans ?_ hX
  refine Nat.le_trans (Nat.mul_le_mul_left _ (Nat.le_of_lt hM)) ?_
  rw [← Nat.mul_assoc]
  exact Nat.mul_le_mul_right _ (Nat.div_mul_le_self _ _)
theorem two_words (X n : Nat) : ((X / W ^ (n + 1) % W) * W + X / W ^ n % W) * W ^ n ≤ X := by
  have h : (X / W ^ (n + 1) % W) * W + X / W ^ n % W ≤ X / W ^ n := by
    have e : X / W ^ (n + 1) = X / W ^ n / W := by rw [Nat.pow_succ, Nat.div_div_eq_div_mul]
    rw [e]
    generalize X / W ^ n = z
    simp only [W]
    omega
  exact Nat.le_trans (Nat.mul_le_mul_right _ h) (Nat.div_mul_le_self _ _)
theorem top_word {M n : Nat} (hM : M < W ^ (n + 1)) : M < (M / W ^ n % W + 1) * W ^ n := by
  have hp := W_pow_pos n
  have h1 : M / W ^ n < W := by
    rw [Nat.div_lt_iff_lt_mul hp]
    rw [Nat.pow_succ, Nat.mul_comm] at hM; exact hM
  rw [Nat.mod_eq_of_lt h1]
  have := Nat.lt_div_mul_add hp (a := M)
  rw [Nat.add_mul, Nat.one_mul]; exact this
theorem mod_sub {X M q : Nat} (h : q * M ≤ X) : (X - q * M) % M = X % M := by
  have e : X = (X - q * M) + M * q := by rw [Nat.mul_comm M q]; omega
  conv => rhs; rw [e]
  rw [Nat.add_mul_mod_self_left]

/-- Words of a product by one word, with what is carried. -/
theorem mulw_carry (q M i : Nat) : (q * (M / W ^ i % W)) + (q * (M % W ^ i)) / W ^ i = q * (M % W ^ (i + 1)) / W ^ i := by
  rw [W_mod_succ, Nat.mul_add, show q * (W ^ i * (M / W ^ i % W)) = W ^ i * (q * (M / W ^ i % W)) by rw [← Nat.mul_assoc, Nat.mul_comm q, Nat.mul_assoc], Nat.add_mul_div_left _ _ (W_pow_pos i)]
  omega
theorem mulw_next (q M i : Nat) : q * (M % W ^ (i + 1)) / W ^ (i + 1) = ((q * (M / W ^ i % W)) + (q * (M % W ^ i)) / W ^ i) / W := by
  rw [mulw_carry, Nat.pow_succ, ← Nat.div_div_eq_div_mul]
theorem mulw_word (q M i : Nat) : (q * M) / W ^ i % W = ((q * (M / W ^ i % W)) + (q * (M % W ^ i)) / W ^ i) % W := by
  have hp := W_pow_pos i
  have e : q * M = q * (M % W ^ i) + W ^ i * (q * (M / W ^ i)) := by
    have := split_p M (W ^ i)
    conv => lhs; rw [← this]
    rw [Nat.mul_add, ← Nat.mul_assoc, Nat.mul_comm q (W ^ i), Nat.mul_assoc]
  rw [e, Nat.add_mul_div_left _ _ hp, Nat.add_comm]
  rw [Nat.add_mod, Nat.mul_mod, ← Nat.mod_mod (M / W ^ i) W, ← Nat.mul_mod, ← Nat.add_mod]
  simp
theorem mulw_lt (q M i : Nat) (hq : q < W) : q * (M % W ^ i) / W ^ i < W := by
  rw [Nat.div_lt_iff_lt_mul (W_pow_pos i)]
  exact Nat.mul_lt_mul_of_lt_of_le hq (Nat.le_of_lt (Nat.mod_lt _ (W_pow_pos i))) (W_pow_pos i)

/-! ## A product's steps -/
theorem mul_inner {vP vP' p new c c' x y wi wk T bk : Nat} (h1 : vP' + wi * wk * p = vP + wi * wk * new) (h2 : new + W * c' = p + x * y + c) (h3 : vP + wi * wk * c = T + x * wi * bk) :
    vP' + wi * (wk * W) * c' = T + x * wi * (bk + wk * y) := by
  have e1 : wi * wk * new + wi * wk * (W * c') = wi * wk * p + wi * wk * (x * y) + wi * wk * c := by rw [← Nat.mul_add, h2, Nat.mul_add, Nat.mul_add]
  have e2 : wi * wk * (x * y) = x * wi * (wk * y) := by ac_rfl
  have e3 : wi * wk * (W * c') = wi * (wk * W) * c' := by ac_rfl
  rw [Nat.mul_add (x * wi)]
  rw [e2, e3] at e1
  generalize wi * wk * p = a1 at *
  generalize wi * wk * new = a2 at *
  generalize wi * wk * c = a3 at *
  generalize x * wi * bk = a4 at *
  generalize x * wi * (wk * y) = a5 at *
  generalize wi * (wk * W) * c' = a6 at *
  omega
theorem mul_outer (A B i : Nat) : A % W ^ i * B + A / W ^ i % W * W ^ i * B = A % W ^ (i + 1) * B := by
  rw [W_mod_succ, Nat.add_mul, Nat.mul_comm (W ^ i)]
theorem set_mid {P : List Nat} {i m : Nat} (h : P.length = i) (hm : 0 < m) (c : Nat) : (P ++ List.replicate m 0).set i c = (P ++ [c]) ++ List.replicate (m - 1) 0 := by
  rw [List.set_append_right _ _ (by omega), h, Nat.sub_self]
  obtain ⟨k, rfl⟩ : ∃ k, m = k + 1 := ⟨m - 1, by omega⟩
  simp [List.replicate_succ]
theorem set_low {P : List Nat} {i m : Nat} (h : i < P.length) (c : Nat) : (P ++ List.replicate m 0).set i c = P.set i c ++ List.replicate m 0 := by
  rw [List.set_append_left _ _ h]
theorem getD_low {P Q : List Nat} {i : Nat} (h : i < P.length) : (P ++ Q).getD i 0 = P.getD i 0 := by
  rw [List.getD_eq_getElem?_getD, List.getD_eq_getElem?_getD, List.getElem?_append_left h]
theorem V_snoc {P : List Nat} {i : Nat} (h : P.length = i) (c : Nat) : V (P ++ [c]) = V P + W ^ i * c := by rw [V_append, V_one, h]
theorem D_of_V {P : List Nat} {n v : Nat} (h : Lt 18446744073709551616 P) (hl : P.length = n) (hv : V P = v) : P = D n v := by
  rw [← hv, ← hl, D_V h]

/-! ## A remainder's steps -/
theorem take_word {X q M i L : Nat} {ls : List Nat} (hls : Lt 18446744073709551616 ls) (_ : ls.length = L) (hX : V ls = X) (_ : i < L) : (D i (sb X (q * M) i) ++ ls.drop i).getD i 0 = X / W ^ i % W := by
  have h := D_len i (sb X (q * M) i)
  rw [List.getD_eq_getElem?_getD, List.getElem?_append_right (by omega), h, Nat.sub_self, List.getElem?_drop, Nat.add_zero, ← List.getD_eq_getElem?_getD, V_getD hls, hX]
theorem take_set {X Y i L y : Nat} {ls : List Nat} (hl : ls.length = L) (hi : i < L) (hy : y = (X / W ^ i % W + 18446744073709551616 - Y / W ^ i % W - bw X Y i) % 18446744073709551616) :
    (D i (sb X Y i) ++ ls.drop i).set i y = D (i + 1) (sb X Y (i + 1)) ++ ls.drop (i + 1) := by
  have h := D_len i (sb X Y i)
  rw [List.set_append_right _ _ (by omega), h, Nat.sub_self, List.drop_eq_getElem_cons (by omega), List.set_cons_zero, sub_step, hy, List.append_assoc]; rfl
theorem take_end {X Y L : Nat} (h : Y ≤ X) (hX : X < W ^ L) : D L (sb X Y L) = D L (X - Y) := by
  unfold sb
  rw [Nat.mod_eq_of_lt hX, Nat.mod_eq_of_lt (by omega), show X + W ^ L - Y = (X - Y) + W ^ L by omega, ← D_mod, Nat.add_mod_right, D_mod]
theorem shift_val {ls : List Nat} {L a : Nat} (_ : ls.length = L + 1) (h : Lt 18446744073709551616 ls) (hv : V ls < W ^ L) : V (a :: ls.take L) = a + W * V ls := by
  rw [V_def, val_cons, ← V_def, V_take h, Nat.mod_eq_of_lt hv]
theorem mod_step (A M i : Nat) : (A / W ^ i % W + W * (A / W ^ (i + 1) % M)) % M = A / W ^ i % M := by
  conv => rhs; rw [div_top A i]
  rw [Nat.add_comm, Nat.add_mod, Nat.mul_mod, Nat.mod_mod, ← Nat.mul_mod, ← Nat.add_mod]

theorem quo_lt {a b t : Nat} (ha : a < t) (hb : b < 18446744073709551616) : (a * 18446744073709551616 + b) / t < 18446744073709551616 := by
  rw [Nat.div_lt_iff_lt_mul (by omega)]
  have := Nat.mul_le_mul_left 18446744073709551616 (show a + 1 ≤ t from ha)
  omega
theorem ge_top {ms : List Nat} (hm : Lt 18446744073709551616 ms) {n : Nat} (ht : ms.getD (n - 1) 0 ≠ 0) : W ^ (n - 1) ≤ V ms := by
  have h := V_getD hm (n - 1)
  rcases Nat.lt_or_ge (V ms) (W ^ (n - 1)) with h1 | h1
  · rw [Nat.div_eq_of_lt h1] at h; exact absurd (by simpa using h) ht
  · exact h1
end Go.Proofs.Ytfhempgkdnecnaa.Num
