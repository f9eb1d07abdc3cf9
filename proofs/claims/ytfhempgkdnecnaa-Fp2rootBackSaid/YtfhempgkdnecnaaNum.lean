/- Numbers of many words, in plain Lean. No condition. -/
namespace Go.Proofs.Ytfhempgkdnecnaa.Num

def val (B : Nat) : List Nat → Nat
  | [] => 0
  | x :: r => x + B * val B r
def dig (B : Nat) : Nat → Nat → List Nat
  | 0, _ => []
  | n + 1, v => v % B :: dig B n (v / B)
def Lt (m : Nat) (xs : List Nat) : Prop := ∀ x ∈ xs, x < m

section
variable {B : Nat}
theorem dig_len (n v : Nat) : (dig B n v).length = n := by
  induction n generalizing v with
  | zero => rfl
  | succ n ih => simp [dig, ih]
theorem dig_lt (hB : 0 < B) (n v : Nat) : Lt B (dig B n v) := by
  induction n generalizing v with
  | zero => intro x hx; simp [dig] at hx
  | succ n ih =>
    intro x hx
    simp only [dig, List.mem_cons] at hx
    rcases hx with rfl | hx
    · exact Nat.mod_lt _ hB
    · exact ih _ x hx
theorem mod_pow_succ (v n : Nat) : v % B ^ (n + 1) = v % B + B * (v / B % B ^ n) := by
  rw [Nat.pow_succ, Nat.mul_comm, Nat.mod_mul]
theorem mod_pow_succ' (v n : Nat) : v % B ^ (n + 1) = v % B ^ n + B ^ n * (v / B ^ n % B) := by
  rw [Nat.pow_succ, Nat.mod_mul]
theorem val_dig (n v : Nat) : val B (dig B n v) = v % B ^ n := by
  induction n generalizing v with
  | zero => simp [dig, val, Nat.mod_one]
  | succ n ih => simp only [dig, val, ih, mod_pow_succ]
theorem val_nil : val B [] = 0 := rfl
theorem val_cons (x : Nat) (r : List Nat) : val B (x :: r) = x + B * val B r := rfl
theorem Lt.nil (m : Nat) : Lt m [] := by intro x hx; cases hx
theorem Lt.cons {m x : Nat} {r : List Nat} (h : x < m) (hr : Lt m r) : Lt m (x :: r) := by
  intro y hy
  rcases List.mem_cons.1 hy with rfl | hy
  · exact h
  · exact hr y hy
theorem Lt.tail {m x : Nat} {r : List Nat} (h : Lt m (x :: r)) : Lt m r := fun y hy => h y (List.mem_cons_of_mem _ hy)
theorem Lt.head {m x : Nat} {r : List Nat} (h : Lt m (x :: r)) : x < m := h x (List.mem_cons_self ..)
theorem Lt.append {m : Nat} {xs ys : List Nat} (h : Lt m xs) (k : Lt m ys) : Lt m (xs ++ ys) := fun x hx => by
  rcases List.mem_append.1 hx with hx | hx
  · exact h x hx
  · exact k x hx
theorem Lt.take {m : Nat} {xs : List Nat} (h : Lt m xs) (i : Nat) : Lt m (xs.take i) := fun x hx => h x (List.mem_of_mem_take hx)
theorem Lt.drop {m : Nat} {xs : List Nat} (h : Lt m xs) (i : Nat) : Lt m (xs.drop i) := fun x hx => h x (List.mem_of_mem_drop hx)
theorem Lt.rep {m x : Nat} (h : x < m) (n : Nat) : Lt m (List.replicate n x) := fun y hy => by rw [List.eq_of_mem_replicate hy]; exact h
theorem Lt.getD {m : Nat} {xs : List Nat} (h : Lt m xs) (hm : 0 < m) (i : Nat) : xs.getD i 0 < m := by
  rw [List.getD_eq_getElem?_getD]
  cases hi : xs[i]? with
  | none => exact hm
  | some v => exact h v (List.mem_of_getElem? hi)
theorem val_lt (_ : 0 < B) {xs : List Nat} (h : Lt B xs) : val B xs < B ^ xs.length := by
  induction xs with
  | nil => simp [val]
  | cons x r ih =>
    have h1 := ih h.tail
    have h2 := h.head
    have h3 : B * (val B r + 1) ≤ B * B ^ r.length := Nat.mul_le_mul_left _ h1
    simp only [val_cons, List.length_cons, Nat.pow_succ]
    rw [Nat.mul_comm (B ^ r.length)]
    rw [Nat.mul_add] at h3
    omega
theorem dig_val {xs : List Nat} (h : Lt B xs) : dig B xs.length (val B xs) = xs := by
  induction xs with
  | nil => rfl
  | cons x r ih =>
    have h2 := h.head
    have hB : 0 < B := by omega
    have e1 : (x + B * val B r) % B = x := by rw [Nat.add_mul_mod_self_left, Nat.mod_eq_of_lt h2]
    have e2 : (x + B * val B r) / B = val B r := by rw [Nat.add_mul_div_left _ _ hB, Nat.div_eq_of_lt h2]; omega
    simp only [val_cons, List.length_cons, dig, e1, e2, ih h.tail]
theorem dig_mod (n m v : Nat) (h : n ≤ m) : dig B n (v % B ^ m) = dig B n v := by
  induction n generalizing v m with
  | zero => rfl
  | succ n ih =>
    obtain ⟨k, rfl⟩ : ∃ k, m = k + 1 := ⟨m - 1, by omega⟩
    simp only [dig]
    have e1 : v % B ^ (k + 1) % B = v % B := by rw [Nat.pow_succ]; exact Nat.mod_mul_left_mod _ _ _
    have e2 : v % B ^ (k + 1) / B = v / B % B ^ k := by
      rw [Nat.pow_succ, Nat.mul_comm, Nat.mod_mul_right_div_self]
    rw [e1, e2, ih _ _ (by omega)]
theorem dig_eq {n : Nat} {v : Nat} {xs : List Nat} (h : Lt B xs) (hl : xs.length = n) (hv : val B xs = v % B ^ n) : xs = dig B n v := by
  rw [← dig_val h, hl, hv, dig_mod _ _ _ (Nat.le_refl _)]
theorem val_append (xs ys : List Nat) : val B (xs ++ ys) = val B xs + B ^ xs.length * val B ys := by
  induction xs with
  | nil => simp [val]
  | cons x r ih => simp only [List.cons_append, val_cons, ih, List.length_cons, Nat.pow_succ, Nat.mul_add, Nat.add_assoc]; congr 2; rw [Nat.mul_comm (B ^ r.length) B, Nat.mul_assoc]
theorem val_rep0 (n : Nat) : val B (List.replicate n 0) = 0 := by
  induction n with
  | zero => rfl
  | succ n ih => simp [List.replicate_succ, val, ih]
theorem dig_add (n m v : Nat) : dig B (n + m) v = dig B n v ++ dig B m (v / B ^ n) := by
  induction n generalizing v with
  | zero => simp [dig]
  | succ n ih => rw [Nat.add_right_comm]; simp only [dig, ih, List.cons_append, Nat.pow_succ]; rw [Nat.div_div_eq_div_mul, Nat.mul_comm B]
theorem dig_snoc (n v : Nat) : dig B (n + 1) v = dig B n v ++ [v / B ^ n % B] := by rw [dig_add]; simp [dig]
theorem dig_zero (n : Nat) : dig B n 0 = List.replicate n 0 := by
  induction n with
  | zero => rfl
  | succ n ih => simp [dig, ih, List.replicate_succ]
theorem getD_val {xs : List Nat} (h : Lt B xs) (i : Nat) : xs.getD i 0 = val B xs / B ^ i % B := by
  induction xs generalizing i with
  | nil => simp [val]
  | cons x r ih =>
    have h2 := h.head
    have hB : 0 < B := by omega
    have e2 : (x + B * val B r) / B = val B r := by rw [Nat.add_mul_div_left _ _ hB, Nat.div_eq_of_lt h2]; omega
    cases i with
    | zero => simp only [List.getD_cons_zero, val_cons, Nat.pow_zero, Nat.div_one, Nat.add_mul_mod_self_left, Nat.mod_eq_of_lt h2]
    | succ i => rw [List.getD_cons_succ, ih h.tail, val_cons, Nat.pow_succ, Nat.mul_comm (B ^ i), ← Nat.div_div_eq_div_mul, e2]
theorem getD_dig (n v i : Nat) (h : i < n) : (dig B n v).getD i 0 = v / B ^ i % B := by
  induction n generalizing v i with
  | zero => omega
  | succ n ih =>
    cases i with
    | zero => simp [dig]
    | succ i => rw [dig, List.getD_cons_succ, ih _ _ (by omega), Nat.pow_succ, Nat.mul_comm (B ^ i), Nat.div_div_eq_div_mul]
theorem getD_out {xs : List Nat} {i : Nat} (h : xs.length ≤ i) : xs.getD i 0 = 0 := by
  rw [List.getD_eq_getElem?_getD, List.getElem?_eq_none h]; rfl
theorem val_take {xs : List Nat} (h : Lt B xs) (i : Nat) : val B (xs.take i) = val B xs % B ^ i := by
  induction xs generalizing i with
  | nil => simp [val]
  | cons x r ih =>
    have h2 := h.head
    have hB : 0 < B := by omega
    have e2 : (x + B * val B r) / B = val B r := by rw [Nat.add_mul_div_left _ _ hB, Nat.div_eq_of_lt h2]; omega
    cases i with
    | zero => simp [val, Nat.mod_one]
    | succ i =>
      rw [List.take_succ_cons, val_cons, ih h.tail, val_cons, mod_pow_succ, e2, Nat.add_mul_mod_self_left, Nat.mod_eq_of_lt h2]
theorem val_drop {xs : List Nat} (h : Lt B xs) (i : Nat) : val B (xs.drop i) = val B xs / B ^ i := by
  induction xs generalizing i with
  | nil => simp [val]
  | cons x r ih =>
    have h2 := h.head
    have hB : 0 < B := by omega
    have e2 : (x + B * val B r) / B = val B r := by rw [Nat.add_mul_div_left _ _ hB, Nat.div_eq_of_lt h2]; omega
    cases i with
    | zero => simp
    | succ i => rw [List.drop_succ_cons, ih h.tail, val_cons, Nat.pow_succ, Nat.mul_comm (B ^ i), ← Nat.div_div_eq_div_mul, e2]
theorem val_inj {xs ys : List Nat} (h : Lt B xs) (k : Lt B ys) (hl : xs.length = ys.length) (hv : val B xs = val B ys) : xs = ys := by
  rw [← dig_val h, ← dig_val k, hl, hv]
/-- One place is written. -/
theorem val_set {xs : List Nat} (h : Lt B xs) (i y : Nat) (hi : i < xs.length) : val B (xs.set i y) + B ^ i * xs.getD i 0 = val B xs + B ^ i * y := by
  induction xs generalizing i with
  | nil => simp at hi
  | cons x r ih =>
    cases i with
    | zero => simp [val]; omega
    | succ i =>
      have := ih h.tail i (by simpa using hi)
      simp only [List.set_cons_succ, val_cons, List.getD_cons_succ, Nat.pow_succ]
      have e : ∀ z, B ^ i * B * z = B * (B ^ i * z) := fun z => by rw [Nat.mul_comm (B ^ i), Nat.mul_assoc]
      have h3 : B * (val B (r.set i y) + B ^ i * r.getD i 0) = B * (val B r + B ^ i * y) := by rw [this]
      rw [Nat.mul_add, Nat.mul_add] at h3
      rw [e, e]; omega
theorem Lt.set {m : Nat} {xs : List Nat} (h : Lt m xs) {y : Nat} (hy : y < m) (i : Nat) : Lt m (xs.set i y) := fun x hx => by
  rcases List.mem_or_eq_of_mem_set hx with hx | rfl
  · exact h x hx
  · exact hy
end

/-! ## Words of 64 bits -/
def W : Nat := 18446744073709551616
theorem W_pos : 0 < W := by decide
@[irreducible] def V (xs : List Nat) : Nat := val W xs
@[irreducible] def D (n v : Nat) : List Nat := dig W n v
theorem V_def (xs : List Nat) : V xs = val W xs := by unfold V; rfl
theorem D_def (n v : Nat) : D n v = dig W n v := by unfold D; rfl
theorem D_len (n v : Nat) : (D n v).length = n := by rw [D_def]; exact dig_len _ _
theorem D_lt (n v : Nat) : Lt 18446744073709551616 (D n v) := by rw [D_def]; exact dig_lt W_pos _ _
theorem V_D (n v : Nat) : V (D n v) = v % W ^ n := by rw [V_def, D_def]; exact val_dig _ _
theorem V_D' {n v : Nat} (h : v < W ^ n) : V (D n v) = v := by rw [V_D, Nat.mod_eq_of_lt h]
theorem D_V {xs : List Nat} (h : Lt 18446744073709551616 xs) : D xs.length (V xs) = xs := by rw [V_def, D_def]; exact dig_val h
theorem V_lt {xs : List Nat} (h : Lt 18446744073709551616 xs) : V xs < W ^ xs.length := by rw [V_def]; exact val_lt W_pos h
theorem V_nil : V [] = 0 := by rw [V_def]; rfl
theorem V_one (x : Nat) : V [x] = x := by rw [V_def]; simp [val]
theorem D_mod (n v : Nat) : D n (v % W ^ n) = D n v := by rw [D_def, D_def]; exact dig_mod _ _ _ (Nat.le_refl _)
theorem D_eq {n v : Nat} {xs : List Nat} (h : Lt 18446744073709551616 xs) (hl : xs.length = n) (hv : V xs = v % W ^ n) : xs = D n v := by
  rw [D_def]; rw [V_def] at hv; exact dig_eq h hl hv
theorem D_inj {n v v' : Nat} (h : D n v = D n v') : v % W ^ n = v' % W ^ n := by rw [← V_D, h, V_D]
theorem D_snoc (n v : Nat) : D (n + 1) v = D n v ++ [v / W ^ n % W] := by rw [D_def, D_def]; exact dig_snoc _ _
theorem D_0 (v : Nat) : D 0 v = [] := by rw [D_def]; rfl
theorem D_zero (n : Nat) : D n 0 = List.replicate n 0 := by rw [D_def]; exact dig_zero n
theorem D_add (n m v : Nat) : D (n + m) v = D n v ++ D m (v / W ^ n) := by simp only [D_def]; exact dig_add _ _ _
theorem V_append (xs ys : List Nat) : V (xs ++ ys) = V xs + W ^ xs.length * V ys := by simp only [V_def]; exact val_append _ _
theorem V_getD {xs : List Nat} (h : Lt 18446744073709551616 xs) (i : Nat) : xs.getD i 0 = V xs / W ^ i % W := by rw [V_def]; exact getD_val h i
theorem D_getD (n v i : Nat) (h : i < n) : (D n v).getD i 0 = v / W ^ i % W := by rw [D_def]; exact getD_dig n v i h
theorem V_take {xs : List Nat} (h : Lt 18446744073709551616 xs) (i : Nat) : V (xs.take i) = V xs % W ^ i := by simp only [V_def]; exact val_take h i
theorem V_drop {xs : List Nat} (h : Lt 18446744073709551616 xs) (i : Nat) : V (xs.drop i) = V xs / W ^ i := by simp only [V_def]; exact val_drop h i
theorem V_rep0 (n : Nat) : V (List.replicate n 0) = 0 := by rw [V_def]; exact val_rep0 n
theorem V_set {xs : List Nat} (h : Lt 18446744073709551616 xs) (i y : Nat) (hi : i < xs.length) : V (xs.set i y) + W ^ i * xs.getD i 0 = V xs + W ^ i * y := by simp only [V_def]; exact val_set h i y hi
theorem V_inj {xs ys : List Nat} (h : Lt 18446744073709551616 xs) (k : Lt 18446744073709551616 ys) (hl : xs.length = ys.length) (hv : V xs = V ys) : xs = ys := by
  simp only [V_def] at hv; exact val_inj h k hl hv
theorem W_mod_succ (v n : Nat) : v % W ^ (n + 1) = v % W ^ n + W ^ n * (v / W ^ n % W) := mod_pow_succ' v n
theorem W_pow_pos (n : Nat) : 0 < W ^ n := Nat.pow_pos W_pos
theorem W_le {m n : Nat} (h : m ≤ n) : W ^ m ≤ W ^ n := Nat.pow_le_pow_right W_pos h
end Go.Proofs.Ytfhempgkdnecnaa.Num
