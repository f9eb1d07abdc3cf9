/- A number's digits between minus half a base and half of it, in plain Lean. No condition. -/
import Derived.Test.YtfhempgkdnecnaaLmk
namespace Go.Proofs.Ytfhempgkdnecnaa.Num

def wnext (w L : Nat) : Nat := L / 2 ^ w + (if 2 ^ (w - 1) < L % 2 ^ w then 1 else 0)
def wdig (w L : Nat) : Int := if 2 ^ (w - 1) < L % 2 ^ w then ((L % 2 ^ w : Nat) : Int) - ((2 ^ w : Nat) : Int) else ((L % 2 ^ w : Nat) : Int)
theorem pow_half {w : Nat} (hw : 2 ≤ w) : 2 ^ w = 2 * 2 ^ (w - 1) ∧ 2 ≤ 2 ^ (w - 1) := by
  refine ⟨by rw [← Nat.pow_succ']; congr 1; omega, ?_⟩
  have := Nat.pow_le_pow_right (n := 2) (by decide) (show 1 ≤ w - 1 by omega)
  simpa using this
theorem wdig_eq (w L : Nat) : wdig w L + ((2 ^ w * wnext w L : Nat) : Int) = (L : Int) := by
  have h := Nat.mod_add_div L (2 ^ w)
  unfold wdig wnext
  split
  · rw [Nat.mul_add, Nat.mul_one]; omega
  · rw [Nat.add_zero]; omega
theorem wdig_bounds {w : Nat} (hw : 2 ≤ w) (L : Nat) : -((2 ^ (w - 1) : Nat) : Int) < wdig w L ∧ wdig w L ≤ ((2 ^ (w - 1) : Nat) : Int) := by
  have h := Nat.mod_lt L (Nat.two_pow_pos w)
  have h2 := pow_half hw
  unfold wdig
  split <;> omega
theorem wnext_lt {w L : Nat} (hw : 2 ≤ w) (h : 0 < L) : wnext w L < L := by
  have h1 := Nat.mod_add_div L (2 ^ w)
  have h2 := pow_half hw
  unfold wnext
  generalize L / 2 ^ w = q at *
  generalize 2 ^ (w - 1) = H at *
  have h3 := Nat.mul_le_mul_right q (show 2 ≤ 2 ^ w by omega)
  split <;> omega
theorem wnext_0 (w : Nat) : wnext w 0 = 0 := by
  have := Nat.two_pow_pos (w - 1)
  unfold wnext; rw [Nat.zero_div, Nat.zero_mod, if_neg (by omega)]
theorem wdig_0 (w : Nat) : wdig w 0 = 0 := by
  have := Nat.two_pow_pos (w - 1)
  unfold wdig; rw [Nat.zero_mod, if_neg (by omega)]; rfl
theorem wdig_zero {w L : Nat} (h1 : wdig w L = 0) (h2 : wnext w L = 0) : L = 0 := by
  have := wdig_eq w L
  rw [h1, h2, Nat.mul_zero] at this
  omega
def wds (w : Nat) : Nat → Nat → List Int
  | 0, _ => []
  | f + 1, L => if L = 0 then [] else wdig w L :: wds w f (wnext w L)
theorem wds_fuel {w : Nat} (hw : 2 ≤ w) : ∀ {f g L : Nat}, L ≤ f → L ≤ g → wds w f L = wds w g L
  | 0, 0, _, _, _ => rfl
  | 0, g + 1, L, h1, _ => by
    have : L = 0 := by omega
    rw [wds, wds, if_pos this]
  | f + 1, 0, L, _, h2 => by
    have : L = 0 := by omega
    rw [wds, wds, if_pos this]
  | f + 1, g + 1, L, h1, h2 => by
    rw [wds, wds]
    split
    · rfl
    · rename_i h
      have := wnext_lt hw (L := L) (by omega)
      rw [wds_fuel hw (f := f) (g := g) (by omega) (by omega)]
def digits (w L : Nat) : List Int := wds w L L
theorem digits_0 (w : Nat) : digits w 0 = [] := rfl
theorem digits_pos {w L : Nat} (hw : 2 ≤ w) (h : L ≠ 0) : digits w L = wdig w L :: digits w (wnext w L) := by
  obtain ⟨f, rfl⟩ : ∃ f, L = f + 1 := ⟨L - 1, by omega⟩
  have := wnext_lt hw (L := f + 1) (by omega)
  conv => lhs; rw [digits, wds, if_neg h]
  rw [digits, wds_fuel hw (f := f) (g := wnext w (f + 1)) (by omega) (Nat.le_refl _)]

/-! ## What is left behind so many digits -/
def Lk (w A : Nat) : Nat → Nat
  | 0 => A
  | k + 1 => wnext w (Lk w A k)
theorem Lk_head (w A : Nat) : ∀ k, Lk w A (k + 1) = Lk w (wnext w A) k
  | 0 => rfl
  | k + 1 => by rw [Lk, Lk_head w A k, Lk]
def outs (w A : Nat) : Nat → List Int
  | 0 => []
  | k + 1 => outs w A k ++ [wdig w (Lk w A k)]
theorem outs_len (w A : Nat) : ∀ k, (outs w A k).length = k
  | 0 => rfl
  | k + 1 => by rw [outs, List.length_append, outs_len w A k]; rfl
theorem outs_head (w A : Nat) : ∀ k, outs w A (k + 1) = wdig w A :: outs w (wnext w A) k
  | 0 => rfl
  | k + 1 => by rw [outs, outs_head w A k, Lk_head, outs, List.cons_append]
theorem Lk_0 (w : Nat) : ∀ k, Lk w 0 k = 0
  | 0 => rfl
  | k + 1 => by rw [Lk, Lk_0 w k, wnext_0]
theorem outs_digits {w : Nat} (hw : 2 ≤ w) : ∀ {k A : Nat}, Lk w A k = 0 → (k = 0 ∨ Lk w A (k - 1) ≠ 0) → outs w A k = digits w A
  | 0, A, h, _ => by
    have : A = 0 := h
    subst this; rfl
  | k + 1, A, h, h2 => by
    have hA : A ≠ 0 := by
      rintro rfl
      rcases h2 with h2 | h2
      · omega
      · exact h2 (Lk_0 _ _)
    rw [outs_head, digits_pos hw hA, outs_digits hw (k := k) (A := wnext w A)]
    · rw [← Lk_head]; exact h
    · rcases Nat.eq_zero_or_pos k with h0 | h0
      · exact .inl h0
      · obtain ⟨j, rfl⟩ : ∃ j, k = j + 1 := ⟨k - 1, by omega⟩
        right
        rcases h2 with h2 | h2
        · omega
        · simp only [Nat.add_sub_cancel] at h2 ⊢
          rw [← Lk_head]; exact h2
theorem outs_take (w A k : Nat) : (outs w A (k + 1)).take k = outs w A k := by
  rw [outs, List.take_left' (outs_len w A k)]
/-- One digit, as the program makes it. -/
theorem win_step {w Q c : Nat} (hw : 2 ≤ w) (hc : c ≤ 1) :
    (if 2 ^ (w - 1) < Q % 2 ^ w + c then ((Q % 2 ^ w + c : Nat) : Int) - ((2 ^ w : Nat) : Int) else ((Q % 2 ^ w + c : Nat) : Int)) = wdig w (Q + c) ∧
    Q / 2 ^ w + (if 2 ^ (w - 1) < Q % 2 ^ w + c then 1 else 0) = wnext w (Q + c) := by
  have h := Nat.mod_lt Q (Nat.two_pow_pos w)
  have h2 := pow_half hw
  have h3 := Nat.mod_add_div Q (2 ^ w)
  by_cases hd : Q % 2 ^ w + c < 2 ^ w
  · have e1 : (Q + c) % 2 ^ w = Q % 2 ^ w + c := by
      rw [Nat.add_mod, Nat.mod_eq_of_lt (a := c) (by omega), Nat.mod_eq_of_lt hd]
    have e2 : (Q + c) / 2 ^ w = Q / 2 ^ w := by
      conv => lhs; rw [← h3, Nat.add_right_comm, Nat.add_mul_div_left _ _ (Nat.two_pow_pos w), Nat.div_eq_of_lt hd, Nat.zero_add]
    unfold wdig wnext
    rw [e1, e2]
    exact ⟨rfl, rfl⟩
  · have hd2 : Q % 2 ^ w + c = 2 ^ w := by omega
    have e0 : Q + c = 2 ^ w * (Q / 2 ^ w + 1) := by rw [Nat.mul_add]; omega
    have e1 : (Q + c) % 2 ^ w = 0 := by rw [e0, Nat.mul_mod_right]
    have e2 : (Q + c) / 2 ^ w = Q / 2 ^ w + 1 := by rw [e0, Nat.mul_div_cancel_left _ (Nat.two_pow_pos w)]
    unfold wdig wnext
    rw [e1, e2, hd2, if_pos (by omega), if_neg (by omega), if_pos (by omega), if_neg (by omega)]
    exact ⟨by omega, rfl⟩
theorem bit_sum (Q i : Nat) : Q % 2 ^ (i + 1) = Q % 2 ^ i + Q / 2 ^ i % 2 * 2 ^ i := by
  rw [Nat.mod_pow_succ, Nat.mul_comm]
/-- How many digits there are. -/
theorem digits_len {w : Nat} (hw : 2 ≤ w) : ∀ {k L : Nat}, L ≤ (2 ^ w) ^ k * 2 ^ (w - 1) → (digits w L).length ≤ k + 1
  | 0, L, h => by
    by_cases h0 : L = 0
    · subst h0; rw [digits_0]; exact Nat.zero_le _
    · have h2 := pow_half hw
      rw [Nat.pow_zero, Nat.one_mul] at h
      have e : wnext w L = 0 := by
        unfold wnext
        rw [Nat.div_eq_of_lt (by omega), Nat.mod_eq_of_lt (by omega), if_neg (by omega)]
      rw [digits_pos hw h0, e, digits_0]; exact Nat.le_refl _
  | k + 1, L, h => by
    by_cases h0 : L = 0
    · subst h0; rw [digits_0]; exact Nat.zero_le _
    · rw [digits_pos hw h0, List.length_cons]
      refine Nat.succ_le_succ (digits_len hw ?_)
      have h3 := Nat.mod_add_div L (2 ^ w)
      have e : (2 ^ w) ^ (k + 1) * 2 ^ (w - 1) = 2 ^ w * ((2 ^ w) ^ k * 2 ^ (w - 1)) := by
        rw [Nat.pow_succ, Nat.mul_comm ((2 ^ w) ^ k), Nat.mul_assoc]
      rw [e] at h
      generalize (2 ^ w) ^ k * 2 ^ (w - 1) = M at *
      unfold wnext
      have hp := Nat.two_pow_pos w
      have h4 : L / 2 ^ w ≤ M := by
        have := Nat.div_le_div_right (c := 2 ^ w) h
        rwa [Nat.mul_div_cancel_left _ hp] at this
      split
      · rename_i hlt
        rcases Nat.lt_or_ge (L / 2 ^ w) M with h5 | h5
        · omega
        · have h6 : L / 2 ^ w = M := Nat.le_antisymm h4 h5
          rw [h6] at h3
          have := Nat.two_pow_pos (w - 1)
          omega
      · omega
theorem digits_ne {w : Nat} (hw : 2 ≤ w) {L : Nat} : ∀ {f}, L ≤ f → L ≠ 0 → (digits w L).getD ((digits w L).length - 1) 0 ≠ 0 := by
  intro f
  induction f generalizing L with
  | zero => intro h h0; omega
  | succ f ih =>
    intro h h0
    rw [digits_pos hw h0]
    have hlt := wnext_lt hw (L := L) (by omega)
    by_cases hn : wnext w L = 0
    · rw [hn, digits_0]
      intro hc
      exact h0 (wdig_zero (by simpa using hc) hn)
    · have := ih (L := wnext w L) (by omega) hn
      have hl : 0 < (digits w (wnext w L)).length := by rw [digits_pos hw hn]; simp
      obtain ⟨m, hm⟩ : ∃ m, (digits w (wnext w L)).length = m + 1 := ⟨_, (Nat.sub_add_cancel hl).symm⟩
      rw [hm] at this
      simpa [hm] using this
theorem digits_get {w : Nat} (hw : 2 ≤ w) : ∀ {i A : Nat}, i < (digits w A).length → (digits w A).getD i 0 = wdig w (Lk w A i)
  | 0, A, h => by
    have hA : A ≠ 0 := by rintro rfl; simp [digits_0] at h
    rw [digits_pos hw hA]; rfl
  | i + 1, A, h => by
    have hA : A ≠ 0 := by rintro rfl; simp [digits_0] at h
    rw [digits_pos hw hA] at h ⊢
    rw [Lk_head, ← digits_get hw (i := i) (A := wnext w A) (by simpa using h)]
    rfl
theorem Lk_end {w : Nat} (hw : 2 ≤ w) : ∀ {f A : Nat}, A ≤ f → Lk w A (digits w A).length = 0
  | 0, A, h => by
    have : A = 0 := by omega
    subst this; rfl
  | f + 1, A, h => by
    by_cases h0 : A = 0
    · subst h0; rfl
    · have := wnext_lt hw (L := A) (by omega)
      rw [digits_pos hw h0, List.length_cons, Lk_head]
      exact Lk_end hw (f := f) (by omega)
theorem Lk_le {w : Nat} (hw : 2 ≤ w) (A : Nat) : ∀ k, Lk w A k ≤ A
  | 0 => Nat.le_refl _
  | k + 1 => by
    have h := Lk_le hw A k
    rw [Lk]
    rcases Nat.eq_zero_or_pos (Lk w A k) with h0 | h0
    · rw [h0, wnext_0]; exact Nat.zero_le _
    · have := wnext_lt hw h0; omega
theorem Lk_stay {w A j : Nat} (h : Lk w A j = 0) : ∀ d, Lk w A (j + d) = 0
  | 0 => h
  | d + 1 => by rw [← Nat.add_assoc, Lk, Lk_stay h d, wnext_0]
theorem digits_ge {w : Nat} (hw : 2 ≤ w) {A k : Nat} (h : k = 0 ∨ Lk w A (k - 1) ≠ 0) : k ≤ (digits w A).length := by
  rcases h with h | h
  · omega
  · apply Classical.byContradiction
    intro hc
    have := Lk_stay (Lk_end hw (Nat.le_refl A)) (k - 1 - (digits w A).length)
    rw [show (digits w A).length + (k - 1 - (digits w A).length) = k - 1 by omega] at this
    exact h this
theorem digits_bound {w : Nat} (hw : 2 ≤ w) {A n : Nat} (h : A < 2 ^ n) : (digits w A).length ≤ n + 1 := by
  refine digits_len hw (Nat.le_trans (Nat.le_of_lt h) ?_)
  have h1 : 2 ^ n ≤ (2 ^ w) ^ n := Nat.pow_le_pow_left (by have := pow_half hw; omega) n
  exact Nat.le_trans h1 (Nat.le_mul_of_pos_right _ (Nat.two_pow_pos _))
/-! ## A number shifted, word by word -/
theorem mod_pq {a b p q : Nat} (h : a < p) : (a + p * b) % (p * q) = a + p * (b % q) := by
  rw [Nat.mod_mul, Nat.add_mul_mod_self_left, Nat.mod_eq_of_lt h, Nat.add_mul_div_left _ _ (Nat.lt_of_le_of_lt (Nat.zero_le _) h), Nat.div_eq_of_lt h, Nat.zero_add]
theorem shift_word {w : Nat} (hw : w ≤ 63) (X i : Nat) :
    ((X / W ^ i % W) >>> w + (X / W ^ (i + 1) % W) <<< (64 - w) % 18446744073709551616) % 18446744073709551616 = X / 2 ^ w / W ^ i % W := by
  have e1 : X / 2 ^ w / W ^ i = X / W ^ i / 2 ^ w := by rw [Nat.div_div_eq_div_mul, Nat.mul_comm, ← Nat.div_div_eq_div_mul]
  have e2 : X / W ^ (i + 1) = X / W ^ i / W := by rw [Nat.pow_succ, Nat.div_div_eq_div_mul]
  rw [e1, e2, Nat.shiftRight_eq_div_pow, Nat.shiftLeft_eq]
  generalize X / W ^ i = Y
  have hW : W = 2 ^ w * 2 ^ (64 - w) := by rw [← Nat.pow_add, W_2, show w + (64 - w) = 64 by omega]
  have hW' : (18446744073709551616 : Nat) = 2 ^ (64 - w) * 2 ^ w := by rw [← Nat.pow_add, show 64 - w + w = 64 by omega]
  have hY := Nat.mod_add_div Y W
  have ha := Nat.two_pow_pos w
  have hb := Nat.two_pow_pos (64 - w)
  have h3 : Y / W % W * 2 ^ (64 - w) % 18446744073709551616 = 2 ^ (64 - w) * (Y / W % 2 ^ w) := by
    rw [hW', Nat.mul_comm (Y / W % W), Nat.mul_mod_mul_left, hW, Nat.mod_mul_right_mod]
  have h4 : Y / 2 ^ w = Y % W / 2 ^ w + 2 ^ (64 - w) * (Y / W) := by
    conv => lhs; rw [← hY]
    rw [hW, Nat.mul_assoc, Nat.add_mul_div_left _ _ ha, ← hW]
  have h5 : Y % W / 2 ^ w < 2 ^ (64 - w) := by
    refine Nat.div_lt_of_lt_mul ?_
    rw [← hW]; exact Nat.mod_lt _ W_pos
  have h6 : Y / 2 ^ w % W = Y % W / 2 ^ w + 2 ^ (64 - w) * (Y / W % 2 ^ w) := by
    rw [h4]
    have := mod_pq (b := Y / W) (q := 2 ^ w) h5
    rwa [Nat.mul_comm (2 ^ (64 - w)) (2 ^ w), ← hW] at this
  rw [h3, h6]
  refine Nat.mod_eq_of_lt ?_
  have h7 : Y / W % 2 ^ w < 2 ^ w := Nat.mod_lt _ ha
  have h8 := Nat.mul_le_mul_left (2 ^ (64 - w)) (show Y / W % 2 ^ w + 1 ≤ 2 ^ w from h7)
  rw [← hW', Nat.mul_add] at h8
  omega
end Go.Proofs.Ytfhempgkdnecnaa.Num
