/- Primes: Fermat's little theorem, and Pocklington's test. No condition. -/
import Derived.Tactics
namespace Go.Proofs.Ytfhempgkdnecnaa.L.Pr

def Prime (p : Nat) : Prop := 1 < p ∧ ∀ d, d ∣ p → d = 1 ∨ d = p

theorem Prime.pos {p : Nat} (h : Prime p) : 0 < p := Nat.lt_trans Nat.zero_lt_one h.1
theorem Prime.cop {p a : Nat} (hp : Prime p) (h : ¬ p ∣ a) : Nat.Coprime p a := by
  rcases hp.2 _ (Nat.gcd_dvd_left p a) with h1 | h1
  · exact h1
  · exact absurd (h1 ▸ Nat.gcd_dvd_right p a) h
theorem Prime.dvd_mul {p a b : Nat} (hp : Prime p) (h : p ∣ a * b) : p ∣ a ∨ p ∣ b := by
  by_cases ha : p ∣ a
  · exact .inl ha
  · exact .inr ((hp.cop ha).dvd_of_dvd_mul_left h)
theorem Prime.dvd_pow {p a : Nat} (hp : Prime p) : ∀ {k : Nat}, p ∣ a ^ k → p ∣ a
  | 0, h => by
    rw [Nat.pow_zero] at h
    have := Nat.le_of_dvd (by decide) h
    have := hp.1
    omega
  | k + 1, h => by
    rw [Nat.pow_succ] at h
    rcases hp.dvd_mul h with h1 | h1
    · exact hp.dvd_pow h1
    · exact h1

theorem has_prime : ∀ {n : Nat}, 1 < n → ∃ p, Prime p ∧ p ∣ n := by
  intro n
  induction n using Nat.strongRecOn with
  | ind n ih =>
    intro h
    by_cases hp : Prime n
    · exact ⟨n, hp, Nat.dvd_refl n⟩
    · have : ∃ d, d ∣ n ∧ d ≠ 1 ∧ d ≠ n := by
        apply Classical.byContradiction
        intro hc
        refine hp ⟨h, fun d hd => ?_⟩
        apply Classical.byContradiction
        intro hd2
        exact hc ⟨d, hd, fun e => hd2 (.inl e), fun e => hd2 (.inr e)⟩
      obtain ⟨d, hd, h1, h2⟩ := this
      have h3 := Nat.le_of_dvd (by omega) hd
      have h4 := Nat.pos_of_dvd_of_pos hd (by omega)
      obtain ⟨p, hp1, hp2⟩ := ih d (by omega) (by omega)
      exact ⟨p, hp1, Nat.dvd_trans hp2 hd⟩

/-- A number that is not prime has a prime divisor whose square is not greater. -/
theorem small_prime {n : Nat} (h : 1 < n) (hn : ¬ Prime n) : ∃ p, Prime p ∧ p ∣ n ∧ p * p ≤ n := by
  have : ∃ d, d ∣ n ∧ d ≠ 1 ∧ d ≠ n := by
    apply Classical.byContradiction
    intro hc
    refine hn ⟨h, fun d hd => ?_⟩
    apply Classical.byContradiction
    intro hd2
    exact hc ⟨d, hd, fun e => hd2 (.inl e), fun e => hd2 (.inr e)⟩
  obtain ⟨d, ⟨e, he⟩, h1, h2⟩ := this
  have hd0 : d ≠ 0 := by rintro rfl; omega
  have he0 : e ≠ 0 := by rintro rfl; omega
  have he1 : e ≠ 1 := by rintro rfl; omega
  rcases Nat.le_total d e with hle | hle
  · obtain ⟨p, hp, hpd⟩ := has_prime (n := d) (by omega)
    have := Nat.le_of_dvd (by omega) hpd
    exact ⟨p, hp, he ▸ Nat.dvd_trans hpd (Nat.dvd_mul_right d e), he ▸ Nat.mul_le_mul this (Nat.le_trans this hle)⟩
  · obtain ⟨p, hp, hpd⟩ := has_prime (n := e) (by omega)
    have := Nat.le_of_dvd (by omega) hpd
    exact ⟨p, hp, he ▸ Nat.dvd_trans hpd (Nat.dvd_mul_left e d), he ▸ Nat.mul_le_mul (Nat.le_trans this hle) this⟩

/-! ## Fermat -/
def lst (g : Nat → Nat) : Nat → List Nat
  | 0 => []
  | n + 1 => g n :: lst g n
def prod : List Nat → Nat
  | [] => 1
  | x :: r => x * prod r
theorem mem_lst {g : Nat → Nat} {y : Nat} : ∀ {n : Nat}, y ∈ lst g n ↔ ∃ i, i < n ∧ y = g i
  | 0 => by simp [lst]
  | n + 1 => by
    rw [lst, List.mem_cons, mem_lst]
    constructor
    · rintro (h | ⟨i, hi, h⟩)
      · exact ⟨n, by omega, h⟩
      · exact ⟨i, by omega, h⟩
    · rintro ⟨i, hi, h⟩
      by_cases hc : i = n
      · subst hc; exact .inl h
      · exact .inr ⟨i, by omega, h⟩
theorem len_lst {g : Nat → Nat} : ∀ {n : Nat}, (lst g n).length = n
  | 0 => rfl
  | n + 1 => by rw [lst, List.length_cons, len_lst]
theorem nodup_lst {g : Nat → Nat} : ∀ {n : Nat}, (∀ i j, i < j → j < n → g j ≠ g i) → (lst g n).Nodup
  | 0, _ => List.nodup_nil
  | n + 1, h => by
    rw [lst, List.nodup_cons]
    refine ⟨fun hm => ?_, nodup_lst fun i j h1 h2 => h i j h1 (by omega)⟩
    obtain ⟨i, hi, he⟩ := mem_lst.1 hm
    exact h i n hi (by omega) he
theorem prod_perm {l m : List Nat} (h : l.Perm m) : prod l = prod m := by
  induction h with
  | nil => rfl
  | cons x _ ih => simp only [prod, ih]
  | swap x y l => simp only [prod, Nat.mul_left_comm]
  | trans _ _ h1 h2 => exact h1.trans h2
theorem perm_of_sub : ∀ {l m : List Nat}, l.Nodup → (∀ x ∈ l, x ∈ m) → m.length ≤ l.length → l.Perm m
  | [], m, _, _, hl => by
    cases m with
    | nil => exact .nil
    | cons x r => simp at hl
  | x :: l, m, hn, hs, hl => by
    have hx := hs x (List.mem_cons_self ..)
    have hn := List.nodup_cons.1 hn
    have hp := List.perm_cons_erase hx
    refine List.Perm.trans (List.Perm.cons x (perm_of_sub hn.2 (fun y hy => ?_) ?_)) hp.symm
    · have hne : y ≠ x := by rintro rfl; exact hn.1 hy
      exact (List.mem_erase_of_ne hne).2 (hs y (List.mem_cons_of_mem _ hy))
    · have := hp.length_eq
      simp only [List.length_cons] at this hl
      omega
theorem prod_mul_mod (a p : Nat) : ∀ n, prod (lst (fun i => a * (i + 1) % p) n) % p = a ^ n * prod (lst (fun i => i + 1) n) % p
  | 0 => by simp [lst, prod]
  | n + 1 => by
    rw [lst, prod, lst, prod, Nat.mul_mod, prod_mul_mod a p n, Nat.mod_mod, ← Nat.mul_mod]
    congr 1
    rw [Nat.pow_succ]
    simp only [Nat.mul_assoc, Nat.mul_left_comm, Nat.mul_comm]
theorem prod_cop {p : Nat} (hp : Prime p) : ∀ n, n < p → ¬ p ∣ prod (lst (fun i => i + 1) n)
  | 0, _, h => by
    rw [lst, prod] at h
    have := Nat.le_of_dvd (by decide) h
    have := hp.1
    omega
  | n + 1, hn, h => by
    rw [lst, prod] at h
    rcases hp.dvd_mul h with h1 | h1
    · have := Nat.le_of_dvd (by omega) h1
      omega
    · exact prod_cop hp n (by omega) h1
theorem cancel {p a b q : Nat} (hp : Prime p) (hq : ¬ p ∣ q) (hab : b ≤ a) (h : a * q % p = b * q % p) : a % p = b % p := by
  have h1 := Nat.sub_mod_eq_zero_of_mod_eq h
  rw [← Nat.sub_mul] at h1
  rcases hp.dvd_mul (Nat.dvd_of_mod_eq_zero h1) with h2 | h2
  · obtain ⟨c, hc⟩ := h2
    rw [show a = b + p * c by omega, Nat.add_mul_mod_self_left]
  · exact absurd h2 hq
theorem fermat {p a : Nat} (hp : Prime p) (ha : ¬ p ∣ a) : a ^ (p - 1) % p = 1 := by
  have hp1 := hp.1
  have ha0 : 0 < a := by
    rcases Nat.eq_zero_or_pos a with h | h
    · subst h; exact absurd (Nat.dvd_zero p) ha
    · exact h
  have hperm : (lst (fun i => a * (i + 1) % p) (p - 1)).Perm (lst (fun i => i + 1) (p - 1)) := by
    refine perm_of_sub (nodup_lst fun i j hij hj he => ?_) (fun x hx => ?_) (by rw [len_lst, len_lst]; exact Nat.le_refl _)
    · have h1 := Nat.sub_mod_eq_zero_of_mod_eq he
      rw [← Nat.mul_sub] at h1
      rcases hp.dvd_mul (Nat.dvd_of_mod_eq_zero h1) with h2 | h2
      · exact ha h2
      · have := Nat.le_of_dvd (by omega) h2
        omega
    · obtain ⟨i, hi, rfl⟩ := mem_lst.1 hx
      have hlt : a * (i + 1) % p < p := Nat.mod_lt _ hp.pos
      have hne : a * (i + 1) % p ≠ 0 := by
        intro h0
        rcases hp.dvd_mul (Nat.dvd_of_mod_eq_zero h0) with h2 | h2
        · exact ha h2
        · have := Nat.le_of_dvd (by omega) h2
          omega
      exact mem_lst.2 ⟨a * (i + 1) % p - 1, by omega, by omega⟩
  have h1 := prod_mul_mod a p (p - 1)
  rw [prod_perm hperm] at h1
  have h2 := cancel hp (prod_cop hp (p - 1) (by omega)) (Nat.pow_pos ha0 : 1 ≤ a ^ (p - 1)) (by rw [Nat.one_mul]; exact h1.symm)
  rw [h2, Nat.mod_eq_of_lt hp1]

/-! ## Orders -/
theorem pow_one_mod {b k P : Nat} (hP : 1 < P) (h : b % P = 1) : b ^ k % P = 1 := by
  rw [Nat.pow_mod, h, Nat.one_pow, Nat.mod_eq_of_lt hP]
theorem order_gcd {b P : Nat} (hP : 1 < P) : ∀ m k, b ^ m % P = 1 → b ^ k % P = 1 → b ^ Nat.gcd m k % P = 1 := by
  intro m k
  induction m, k using Nat.gcd.induction with
  | H0 k => intro _ h; rw [Nat.gcd_zero_left]; exact h
  | H1 m k hm ih =>
    intro h1 h2
    rw [Nat.gcd_rec]
    refine ih ?_ h1
    have h3 : b ^ k = (b ^ m) ^ (k / m) * b ^ (k % m) := by rw [← Nat.pow_mul, ← Nat.pow_add, Nat.div_add_mod]
    rw [h3, Nat.mul_mod, pow_one_mod hP h1, Nat.one_mul, Nat.mod_mod] at h2
    exact h2
/-- A divisor of a prime's power is the power itself, or divides the one before. -/
theorem dvd_pow_lt {q g e : Nat} (hq : Prime q) (h : g ∣ q ^ (e + 1)) : g = q ^ (e + 1) ∨ g ∣ q ^ e := by
  obtain ⟨c, hc⟩ := h
  by_cases h1 : c = 1
  · subst h1; rw [Nat.mul_one] at hc; exact .inl hc.symm
  · right
    have hc0 : c ≠ 0 := by
      rintro rfl
      have := Nat.pow_pos (n := e + 1) hq.pos
      omega
    obtain ⟨s, hs, hsc⟩ := has_prime (n := c) (by omega)
    have hsq : s ∣ q := hs.dvd_pow (k := e + 1) (hc ▸ Nat.dvd_trans hsc (Nat.dvd_mul_left c g))
    have hse : s = q := by
      rcases hq.2 s hsq with h2 | h2
      · have := hs.1; omega
      · exact h2
    subst hse
    obtain ⟨c', hc'⟩ := hsc
    refine ⟨c', ?_⟩
    rw [hc', Nat.pow_succ, Nat.mul_left_comm, Nat.mul_comm] at hc
    exact Nat.eq_of_mul_eq_mul_left hs.pos hc
theorem pock1 {n P q e a : Nat} (hP : Prime P) (hPn : P ∣ n) (hn : 1 < n) (hq : Prime q) (hd : (n - 1) % q ^ (e + 1) = 0) (h1 : a ^ (n - 1) % n = 1)
    (h2 : Nat.gcd (a ^ ((n - 1) / q) % n + (n - 1)) n = 1) : q ^ (e + 1) ∣ P - 1 := by
  obtain ⟨m, hm⟩ := Nat.dvd_of_mod_eq_zero hd
  have hmod : ∀ x, x % n = 1 → x % P = 1 := by
    intro x hx
    rw [← Nat.mod_mod_of_dvd x hPn, hx, Nat.mod_eq_of_lt hP.1]
  have hb1 : (a ^ m) ^ (q ^ (e + 1)) % P = 1 := by
    rw [← Nat.pow_mul, Nat.mul_comm, ← hm]; exact hmod _ h1
  have haP : ¬ P ∣ a ^ m := by
    intro hc
    have : (a ^ m) ^ (q ^ (e + 1)) % P = 0 := by
      rw [Nat.pow_mod, Nat.mod_eq_zero_of_dvd hc, Nat.zero_pow (Nat.pow_pos hq.pos), Nat.zero_mod]
    omega
  have hg := order_gcd hP.1 _ _ hb1 (fermat hP haP)
  rcases dvd_pow_lt hq (Nat.gcd_dvd_left (q ^ (e + 1)) (P - 1)) with h3 | ⟨c, h3⟩
  · rw [← h3]; exact Nat.gcd_dvd_right _ _
  · exfalso
    have h4 : a ^ ((n - 1) / q) % P = 1 := by
      have : (n - 1) / q = m * q ^ e := by
        rw [hm, Nat.pow_succ, Nat.mul_comm (q ^ e) q, Nat.mul_assoc, Nat.mul_div_cancel_left _ hq.pos, Nat.mul_comm]
      rw [this, Nat.pow_mul, h3, Nat.pow_mul]
      exact pow_one_mod hP.1 hg
    have h5 : P ∣ a ^ ((n - 1) / q) % n + (n - 1) := by
      have h6 : a ^ ((n - 1) / q) % n % P = 1 := by rw [Nat.mod_mod_of_dvd _ hPn]; exact h4
      obtain ⟨c, hc⟩ := hPn
      have h7 : (a ^ ((n - 1) / q) % n + (n - 1) + 1) % P = 1 % P := by
        rw [show a ^ ((n - 1) / q) % n + (n - 1) + 1 = a ^ ((n - 1) / q) % n + P * c by omega, Nat.add_mul_mod_self_left, h6, Nat.mod_eq_of_lt hP.1]
      exact Nat.dvd_of_mod_eq_zero (Nat.add_right_cancel_iff.1 (rfl : 0 + 1 = 0 + 1) ▸ (by
        have h8 := Nat.sub_mod_eq_zero_of_mod_eq h7
        rwa [Nat.add_sub_cancel] at h8))
    have h8 := Nat.dvd_gcd h5 hPn
    rw [h2] at h8
    have := Nat.le_of_dvd (by decide) h8
    have := hP.1
    omega

/-! ## Powers, reckoned -/
def pm (n : Nat) : Nat → Nat → Nat → Nat
  | 0, _, _ => 1 % n
  | f + 1, b, e => cond (Nat.beq (e % 2) 1) (b * pm n f (b * b % n) (e / 2) % n) (pm n f (b * b % n) (e / 2))
theorem pm_eq (n : Nat) : ∀ (f b e : Nat), e < 2 ^ f → pm n f b e = b ^ e % n
  | 0, b, e, h => by
    have : e = 0 := by simpa using h
    subst this; rw [pm, Nat.pow_zero]
  | f + 1, b, e, h => by
    have ih := pm_eq n f (b * b % n) (e / 2) (by rw [Nat.pow_succ] at h; omega)
    have hs : (b * b % n) ^ (e / 2) % n = b ^ (2 * (e / 2)) % n := by
      rw [← Nat.pow_mod, ← Nat.pow_two, ← Nat.pow_mul]
    rw [pm, ih, hs]
    rcases Nat.mod_two_eq_zero_or_one e with h2 | h2
    · rw [h2]
      show b ^ (2 * (e / 2)) % n = _
      rw [show 2 * (e / 2) = e by omega]
    · rw [h2]
      show b * (b ^ (2 * (e / 2)) % n) % n = _
      rw [Nat.mul_mod, Nat.mod_mod, ← Nat.mul_mod, ← Nat.pow_succ', show (2 * (e / 2)).succ = e by omega]

def pkF : List (Nat × Nat × Nat) → Nat
  | [] => 1
  | (q, e, _) :: r => q ^ (e + 1) * pkF r
def pkOK (n f : Nat) : List (Nat × Nat × Nat) → Bool
  | [] => true
  | (q, e, a) :: r => Nat.beq ((n - 1) % q ^ (e + 1)) 0 && (Nat.beq (pm n f a (n - 1)) 1 && (Nat.beq (Nat.gcd (pm n f a ((n - 1) / q) + (n - 1)) n) 1 && (Nat.beq (Nat.gcd (q ^ (e + 1)) (pkF r)) 1 && pkOK n f r)))
theorem pkOK_dvd {n f P : Nat} (hP : Prime P) (hPn : P ∣ n) (hn : 1 < n) (hf : n < 2 ^ f) : ∀ {l : List (Nat × Nat × Nat)}, (∀ x ∈ l, Prime x.1) → pkOK n f l = true → pkF l ∣ P - 1
  | [], _, _ => Nat.one_dvd _
  | (q, e, a) :: r, hl, h => by
    simp only [pkOK, Bool.and_eq_true, Nat.beq_eq] at h
    obtain ⟨h1, h2, h3, h4, h5⟩ := h
    have hq := hl _ (List.mem_cons_self ..)
    rw [pm_eq n f a _ (by omega)] at h2
    rw [pm_eq n f a _ (Nat.lt_of_le_of_lt (Nat.div_le_self _ _) (by omega))] at h3
    exact Nat.Coprime.mul_dvd_of_dvd_of_dvd h4 (pock1 hP hPn hn hq h1 h2 h3) (pkOK_dvd hP hPn hn hf (fun x hx => hl x (List.mem_cons_of_mem _ hx)) h5)
theorem pock {n f : Nat} (l : List (Nat × Nat × Nat)) (hl : ∀ x ∈ l, Prime x.1)
    (h : (Nat.blt 1 n && (Nat.blt n (2 ^ f) && (Nat.blt n ((pkF l + 1) * (pkF l + 1)) && pkOK n f l))) = true) : Prime n := by
  simp only [Bool.and_eq_true, Nat.blt_eq] at h
  obtain ⟨h1, h2, h3, h4⟩ := h
  apply Classical.byContradiction
  intro hn
  obtain ⟨P, hP, hPn, hPP⟩ := small_prime h1 hn
  have hd := pkOK_dvd hP hPn h1 h2 hl h4
  have := Nat.le_of_dvd (by have := hP.1; omega) hd
  have hP1 := hP.1
  have hle : pkF l + 1 ≤ P := by omega
  exact Nat.lt_irrefl _ (Nat.lt_of_lt_of_le h3 (Nat.le_trans (Nat.mul_le_mul hle hle) hPP))

/-! ## Small primes -/
def noDiv (n : Nat) : Nat → Nat → Bool
  | lo, 0 => !Nat.beq (n % lo) 0
  | lo, k + 1 => noDiv n lo k && noDiv n (lo + 2 ^ k) k
theorem noDiv_spec {n : Nat} : ∀ {k lo d : Nat}, noDiv n lo k = true → lo ≤ d → d < lo + 2 ^ k → n % d ≠ 0
  | 0, lo, d, h, h1, h2 => by
    have : d = lo := by simp at h2; omega
    subst this
    intro h0
    rw [noDiv, h0] at h
    exact absurd h (by decide)
  | k + 1, lo, d, h, h1, h2 => by
    simp only [noDiv, Bool.and_eq_true] at h
    rw [Nat.pow_succ] at h2
    rcases Nat.lt_or_ge d (lo + 2 ^ k) with h3 | h3
    · exact noDiv_spec h.1 h1 h3
    · exact noDiv_spec h.2 h3 (by omega)
theorem small {n : Nat} (k : Nat) (h : (Nat.blt 1 n && (Nat.blt n ((2 + 2 ^ k) * (2 + 2 ^ k)) && noDiv n 2 k)) = true) : Prime n := by
  simp only [Bool.and_eq_true, Nat.blt_eq] at h
  obtain ⟨h1, h2, h3⟩ := h
  apply Classical.byContradiction
  intro hn
  obtain ⟨P, hP, hPn, hPP⟩ := small_prime h1 hn
  have hlt : P < 2 + 2 ^ k := by
    apply Classical.byContradiction
    intro hc
    have := Nat.mul_le_mul (Nat.le_of_not_lt hc) (Nat.le_of_not_lt hc)
    omega
  exact noDiv_spec h3 hP.1 hlt (Nat.mod_eq_zero_of_dvd hPn)
end Go.Proofs.Ytfhempgkdnecnaa.L.Pr
