/- Frobenius, and two ways to a root, in the numbers with u. No condition. -/
import Derived.Test.YtfhempgkdnecnaaKs
namespace Go.Proofs.Ytfhempgkdnecnaa.L.Kf
open Pr
namespace K2
variable {n : Nat} [NeZero n]

/-! ## Binomials -/
def ch : Nat → Nat → Nat
  | _, 0 => 1
  | 0, _ + 1 => 0
  | m + 1, k + 1 => ch m k + ch m (k + 1)
theorem ch_0 (m : Nat) : ch m 0 = 1 := by cases m <;> rfl
theorem ch_lt : ∀ {m k : Nat}, m < k → ch m k = 0
  | 0, 0, h => absurd h (by decide)
  | 0, _ + 1, _ => rfl
  | m + 1, 0, h => absurd h (by omega)
  | m + 1, k + 1, h => by rw [ch, ch_lt (by omega), ch_lt (by omega)]
theorem ch_self : ∀ m, ch m m = 1
  | 0 => rfl
  | m + 1 => by rw [ch, ch_self m, ch_lt (by omega)]
theorem ch_mul : ∀ m k, (k + 1) * ch (m + 1) (k + 1) = (m + 1) * ch m k
  | 0, 0 => rfl
  | 0, k + 1 => by rw [ch_lt (by omega), ch_lt (m := 0) (by omega)]; omega
  | m + 1, 0 => by
    have h0 : ch (m + 1 + 1) (0 + 1) = ch (m + 1) 0 + ch (m + 1) (0 + 1) := rfl
    have := ch_mul m 0
    rw [ch_0] at this
    rw [h0, ch_0]
    omega
  | m + 1, j + 1 => by
    have h1 := ch_mul m j
    have h2 := ch_mul m (j + 1)
    rw [ch]
    have h3 : ch (m + 1) (j + 1) = ch m j + ch m (j + 1) := rfl
    generalize ch (m + 1) (j + 1 + 1) = a at *
    generalize ch m (j + 1) = b at *
    generalize ch m j = c at *
    generalize ch (m + 1) (j + 1) = d at *
    subst h3
    grind
omit [NeZero n] in
theorem ch_dvd (hp : Prime n) {k : Nat} (h0 : 0 < k) (hk : k < n) : n ∣ ch n k := by
  obtain ⟨j, rfl⟩ : ∃ j, k = j + 1 := ⟨k - 1, by omega⟩
  have h := ch_mul (n - 1) j
  rw [Nat.sub_add_cancel (by omega)] at h
  rcases hp.dvd_mul (a := j + 1) (b := ch n (j + 1)) ⟨_, h⟩ with h1 | h1
  · have := Nat.le_of_dvd (by omega) h1
    omega
  · exact h1

def nm (c : Nat) (a : K2 n) : K2 n := scale a (κ n c)
def sm (f : Nat → K2 n) : Nat → K2 n
  | 0 => zero
  | k + 1 => add (sm f k) (f k)
theorem sm_zero {f : Nat → K2 n} : ∀ {R}, (∀ k, k < R → f k = zero) → sm f R = zero
  | 0, _ => rfl
  | R + 1, h => by rw [sm, sm_zero fun k hk => h k (by omega), h R (by omega), add_zero']
theorem sm_congr {f g : Nat → K2 n} : ∀ {R}, (∀ k, k < R → f k = g k) → sm f R = sm g R
  | 0, _ => rfl
  | R + 1, h => by rw [sm, sm, sm_congr fun k hk => h k (by omega), h R (by omega)]
theorem sm_shift (f : Nat → K2 n) : ∀ R, sm f (R + 1) = add (f 0) (sm (fun k => f (k + 1)) R)
  | 0 => by rw [sm, sm, sm, add_comm']
  | R + 1 => by rw [sm, sm_shift f R, sm, add_assoc']
theorem sm_add (f g : Nat → K2 n) : ∀ R, sm (fun k => add (f k) (g k)) R = add (sm f R) (sm g R)
  | 0 => (add_zero' _).symm
  | R + 1 => by
    rw [sm, sm_add f g R, sm, sm]
    generalize sm f R = a; generalize sm g R = b
    exact ext' (by simp only [add]; grind) (by simp only [add]; grind)
theorem sm_mul (a : K2 n) (f : Nat → K2 n) : ∀ R, mul a (sm f R) = sm (fun k => mul a (f k)) R
  | 0 => mul_zero2 a
  | R + 1 => by rw [sm, mul_add', sm_mul a f R, sm]
theorem nm_add (b c : Nat) (a : K2 n) : nm (b + c) a = add (nm b a) (nm c a) := by
  simp only [nm, κ_add]
  exact ext' (by simp only [scale, add]; grind) (by simp only [scale, add]; grind)
theorem nm_1 (a : K2 n) : nm 1 a = a := by
  simp only [nm, κ_1]
  exact ext' (by simp only [scale]; grind) (by simp only [scale]; grind)
theorem nm_0 {c : Nat} (h : κ n c = 0) (a : K2 n) : nm c a = zero := by
  simp only [nm, h]
  exact ext' (by simp only [scale, zero]; grind) (by simp only [scale, zero]; grind)
theorem nm_mul (c : Nat) (a b : K2 n) : mul a (nm c b) = nm c (mul b a) :=
  ext' (by simp only [scale, nm, mul]; grind) (by simp only [scale, nm, mul]; grind)
theorem binom (X : K2 n) : ∀ m R, m < R → pw (add X one) m = sm (fun k => nm (ch m k) (pw X k)) R
  | 0, R, h => by
    obtain ⟨r, rfl⟩ : ∃ r, R = r + 1 := ⟨R - 1, by omega⟩
    rw [sm_shift, sm_zero (f := fun k => nm (ch 0 (k + 1)) (pw X (k + 1))) fun k _ => nm_0 rfl _, add_zero']
    show one = nm 1 one
    rw [nm_1]
  | m + 1, R, h => by
    obtain ⟨r, rfl⟩ : ∃ r, R = r + 1 := ⟨R - 1, by omega⟩
    have h1 := binom X m r (by omega)
    have h2 := binom X m (r + 1) (by omega)
    rw [sm_shift] at h2
    rw [pw, mul_add', mul_one', sm_shift]
    have e1 : mul (pw (add X one) m) X = sm (fun k => nm (ch m k) (pw X (k + 1))) r := by
      rw [mul_comm', h1, sm_mul]
      exact sm_congr fun k _ => by rw [nm_mul, pw]
    have e2 : sm (fun k => nm (ch (m + 1) (k + 1)) (pw X (k + 1))) r = add (sm (fun k => nm (ch m k) (pw X (k + 1))) r) (sm (fun k => nm (ch m (k + 1)) (pw X (k + 1))) r) := by
      rw [← sm_add]
      exact sm_congr fun k _ => by rw [ch, nm_add]
    rw [e1, e2, h2, ch_0, ch_0]
    generalize sm (fun k => nm (ch m k) (pw X (k + 1))) r = a
    generalize sm (fun k => nm (ch m (k + 1)) (pw X (k + 1))) r = b
    generalize nm 1 (pw X 0) = c
    exact ext' (by simp only [add]; grind) (by simp only [add]; grind)
theorem zero_pw {k : Nat} (h : 0 < k) : pw (zero : K2 n) k = zero := by
  obtain ⟨j, rfl⟩ : ∃ j, k = j + 1 := ⟨k - 1, by omega⟩
  rw [pw, mul_zero2]
theorem frob1 (hp : Prime n) (X : K2 n) : pw (add X one) n = add (pw X n) one := by
  have h1 := hp.1
  obtain ⟨m, hm⟩ : ∃ m, n = m + 1 := ⟨n - 1, by omega⟩
  have h := binom X n (n + 1) (by omega)
  rw [h, sm, ch_self, nm_1, add_comm']
  congr 1
  have : ∀ N, N = m + 1 → sm (fun k => nm (ch n k) (pw X k)) N = one := by
    rintro N rfl
    rw [sm_shift, sm_zero (f := fun k => nm (ch n (k + 1)) (pw X (k + 1))) fun k hk => nm_0 ((dvd_zero).2 (ch_dvd hp (by omega) (by omega))) _, add_zero', ch_0, nm_1]
    rfl
  exact this n hm

variable (hp : P3 n)
include hp
theorem frob_add (X Y : K2 n) : pw (add X Y) n = add (pw X n) (pw Y n) := by
  by_cases hY : Y = zero
  · subst hY
    rw [add_zero', zero_pw hp.1.pos, add_zero']
  · have e1 : add X Y = mul (add (mul X (inv Y)) one) Y := by
      rw [mul_comm', mul_add', mul_one', mul_comm' X, ← mul_assoc', mul_inv2 hp hY, one_mul']
    have e2 : mul (mul X (inv Y)) Y = X := by
      rw [mul_assoc', mul_comm' (inv Y), mul_inv2 hp hY, mul_one']
    rw [e1, mul_pw, frob1 hp.1, mul_comm', mul_add', mul_one', mul_comm' (pw Y n), ← mul_pw, e2]
/-- The p-th power is the conjugate. -/
theorem frob (a : K2 n) : pw a n = conj a := by
  have h3 := hp.2
  have e : a = add ⟨a.re, 0⟩ (mul ⟨a.im, 0⟩ ⟨0, 1⟩) := ext' (by simp only [add, mul]; grind) (by simp only [add, mul]; grind)
  have hu : pw (⟨0, 1⟩ : K2 n) n = ⟨0, -1⟩ := by
    have h4 : pw (⟨0, 1⟩ : K2 n) 4 = one := by
      simp only [pw, one]
      exact ext' (by simp only [mul]; grind) (by simp only [mul]; grind)
    have : ∀ N, N = 4 * (n / 4) + 3 → pw (⟨0, 1⟩ : K2 n) N = ⟨0, -1⟩ := by
      rintro N rfl
      rw [pw_add, pw_mul, h4, pw_one, one_mul']
      simp only [pw, one]
      exact ext' (by simp only [mul]; grind) (by simp only [mul]; grind)
    exact this n (by omega)
  conv => lhs; rw [e]
  rw [frob_add hp, mul_pw, pw_base, pw_base, fermat_p hp.1, fermat_p hp.1, hu]
  exact ext' (by simp only [add, mul, conj]; grind) (by simp only [add, mul, conj]; grind)
omit hp

/-! ## Roots -/
def hv (n : Nat) [NeZero n] : Fin n := κ n ((n + 1) / 2)
def fsq (a : Fin n) : Fin n × Bool := if rt a * rt a = a then (evn (rt a), true) else (0, false)
def tryP (a : K2 n) (m : Fin n) : K2 n × Bool :=
  if (fsq ((a.re + m) * hv n)).1 = 0 then
    (evn2 ⟨0, (fsq (-a.re)).1⟩, (fsq (-a.re)).2 && decide (mul (evn2 ⟨0, (fsq (-a.re)).1⟩) (evn2 ⟨0, (fsq (-a.re)).1⟩) = a))
  else (evn2 ⟨(fsq ((a.re + m) * hv n)).1, a.im * hv n * Kf.inv (fsq ((a.re + m) * hv n)).1⟩, (fsq ((a.re + m) * hv n)).2 && decide (mul (evn2 ⟨(fsq ((a.re + m) * hv n)).1, a.im * hv n * Kf.inv (fsq ((a.re + m) * hv n)).1⟩) (evn2 ⟨(fsq ((a.re + m) * hv n)).1, a.im * hv n * Kf.inv (fsq ((a.re + m) * hv n)).1⟩) = a))
def sqrtP (a : K2 n) : K2 n × Bool :=
  if (fsq (norm a)).2 then
    if (tryP a (fsq (norm a)).1).2 then ((tryP a (fsq (norm a)).1).1, true)
    else if (tryP a (-(fsq (norm a)).1)).2 then ((tryP a (-(fsq (norm a)).1)).1, true)
    else (zero, false)
  else (zero, false)
def rootR (a : K2 n) : K2 n :=
  if mul (pw a ((n - 3) / 4)) (mul (pw a ((n - 3) / 4)) a) = neg one then mul (mul (pw a ((n - 3) / 4)) a) ⟨0, 1⟩
  else mul (pw (add one (mul (pw a ((n - 3) / 4)) (mul (pw a ((n - 3) / 4)) a))) ((n - 1) / 2)) (mul (pw a ((n - 3) / 4)) a)
def sqrtR (a : K2 n) : K2 n × Bool := if mul (rootR a) (rootR a) = a then (evn2 (rootR a), true) else (zero, false)

def RootOf (a : K2 n) (r : K2 n × Bool) : Prop := (r.2 = true ∧ mul r.1 r.1 = a ∧ sgn r.1 = 0) ∨ (r.2 = false ∧ r.1 = zero ∧ ∀ w, mul w w ≠ a)
include hp
theorem root_eq {a : K2 n} {r s : K2 n × Bool} (hr : RootOf a r) (hs : RootOf a s) : r = s := by
  obtain ⟨r1, r2⟩ := r
  obtain ⟨s1, s2⟩ := s
  rcases hr with ⟨h1, h2, h4⟩ | ⟨h1, h2, h4⟩ <;> rcases hs with ⟨k1, k2, k4⟩ | ⟨k1, k2, k4⟩
  · simp only at *
    rw [h1, k1, root_unique hp h2 k2 h4 k4]
  · exact absurd h2 (k4 _)
  · exact absurd k2 (h4 _)
  · simp only at *
    rw [h1, k1, h2, k2]
theorem hv_2 : 2 * hv n = 1 := by
  have h3 := hp.2
  have h : κ n (2 * ((n + 1) / 2)) = 1 := by
    rw [show 2 * ((n + 1) / 2) = n + 1 by omega, κ_add, κ_n, κ_1]; grind
  rw [κ_mul] at h
  exact h
theorem fsq_yes {a x : Fin n} (h : x * x = a) : (fsq a).2 = true ∧ (fsq a).1 * (fsq a).1 = a := by
  have h1 := rt_of_sq hp h
  rw [fsq, if_pos h1]
  exact ⟨rfl, by show evn (rt a) * evn (rt a) = a; rw [evn_sq, h1]⟩
omit hp
theorem fsq_no {a : Fin n} (h : (fsq a).2 = false) : (fsq a).1 = 0 ∧ isq a = false := by
  rw [fsq] at h ⊢
  split at h
  · simp at h
  · rename_i hc
    rw [if_neg hc]
    exact ⟨rfl, by rw [isq]; exact beq_eq_false_iff_ne.2 hc⟩
theorem fsq_2 (a : Fin n) : (fsq a).2 = isq a := by
  rw [fsq, isq]
  split
  · rename_i h; rw [h, beq_self_eq_true]
  · rename_i h; exact (beq_eq_false_iff_ne.2 h).symm
include hp
theorem tryP_sound {a : K2 n} {m : Fin n} (h : (tryP a m).2 = true) : mul (tryP a m).1 (tryP a m).1 = a ∧ sgn (tryP a m).1 = 0 := by
  rw [tryP] at h ⊢
  split
  · rename_i hc
    rw [if_pos hc] at h
    simp only [Bool.and_eq_true, decide_eq_true_eq] at h
    exact ⟨h.2, sgn_evn2 hp _⟩
  · rename_i hc
    rw [if_neg hc] at h
    simp only [Bool.and_eq_true, decide_eq_true_eq] at h
    exact ⟨h.2, sgn_evn2 hp _⟩
theorem tryP_yes {a w : K2 n} (h : mul w w = a) : (tryP a (w.re * w.re + w.im * w.im)).2 = true := by
  have h2 := hv_2 hp
  generalize hv n = v at h2
  obtain ⟨s, t⟩ := w
  have e1 : a.re = s * s - t * t := by rw [← h]; rfl
  have e2 : a.im = s * t + t * s := by rw [← h]; rfl
  have e3 : (a.re + (s * s + t * t)) * hv n = s * s := by
    have h2 := hv_2 hp
    rw [e1]
    generalize hv n = v at h2
    grind
  have hx := fsq_yes hp (x := s) (a := s * s) rfl
  simp only [tryP]
  rw [e3]
  generalize hX : (fsq (s * s)).1 = X at hx
  by_cases h0 : X = 0
  · rw [if_pos h0]
    have hs : s = 0 := by
      have : s * s = 0 := by rw [← hx.2, h0]; grind
      rcases mul_zero' hp.1 this with h | h <;> exact h
    have hy := fsq_yes hp (x := t) (a := -a.re) (by rw [e1, hs]; grind)
    generalize (fsq (-a.re)).1 = Y at hy
    simp only [Bool.and_eq_true, decide_eq_true_eq]
    refine ⟨hy.1, ?_⟩
    rw [evn2_sq]
    have hy2 := hy.2
    rw [e1] at hy2
    subst hs
    refine ext' ?_ ?_
    · rw [e1]; simp only [mul]; grind
    · rw [e2]; simp only [mul]; grind
  · rw [if_neg h0]
    simp only [Bool.and_eq_true, decide_eq_true_eq]
    refine ⟨hx.1, ?_⟩
    rw [evn2_sq]
    have hi := mul_inv hp.1 h0
    have hv2 := hv_2 hp
    have hx2 := hx.2
    generalize Kf.inv X = I at hi
    generalize hv n = v at hv2
    have hy : a.im * v * I = s * t * I := by rw [e2]; grind
    rw [hy]
    refine ext' ?_ ?_
    · rw [e1]; simp only [mul]
      have : s * t * I * (s * t * I) = (s * s) * (t * t) * (I * I) := by grind
      rw [this, ← hx2]
      have : X * X * (t * t) * (I * I) = t * t * ((X * I) * (X * I)) := by grind
      rw [this, hi]; grind
    · rw [e2]; simp only [mul]
      have : X * (s * t * I) = s * t * (X * I) := by grind
      rw [this]
      have : s * t * I * X = s * t * (X * I) := by grind
      rw [this, hi]; grind
theorem sqrtP_root (a : K2 n) : RootOf a (sqrtP a) := by
  have key : ∀ w, mul w w = a → (fsq (norm a)).2 = true ∧ ((tryP a (fsq (norm a)).1).2 = true ∨ (tryP a (-(fsq (norm a)).1)).2 = true) := by
    intro w hw
    have hN : (w.re * w.re + w.im * w.im) * (w.re * w.re + w.im * w.im) = norm a := by rw [← hw, norm_mul]; rfl
    have h1 := fsq_yes hp hN
    refine ⟨h1.1, ?_⟩
    have ht := tryP_yes hp hw
    rcases sq_eq hp.1 (h1.2.trans hN.symm) with h | h
    · left; rw [h]; exact ht
    · right; rw [h, show -(-(w.re * w.re + w.im * w.im)) = w.re * w.re + w.im * w.im by grind]; exact ht
  rw [sqrtP]
  split
  · split
    · rename_i h
      exact .inl ⟨rfl, tryP_sound hp h⟩
    · rename_i hn1
      split
      · rename_i h
        exact .inl ⟨rfl, tryP_sound hp h⟩
      · rename_i hn2
        refine .inr ⟨rfl, rfl, fun w hw => ?_⟩
        rcases (key w hw).2 with h | h
        · exact hn1 h
        · exact hn2 h
  · rename_i hn
    exact .inr ⟨rfl, rfl, fun w hw => hn (key w hw).1⟩
omit hp in
theorem pw_s (a : K2 n) (k : Nat) : mul (pw a k) a = pw a (k + 1) := rfl
theorem rootR_yes {a w : K2 n} (h : mul w w = a) : mul (rootR a) (rootR a) = a := by
  have h3 := hp.2
  by_cases ha : a = zero
  · subst ha
    rw [rootR, mul_zero2]
    have hz : ∀ b : K2 n, mul zero b = zero := fun b => by rw [mul_comm', mul_zero2]
    split
    · rw [hz, hz]
    · rw [mul_zero2, mul_zero2]
  · have hw : w ≠ zero := by rintro rfl; exact ha (by rw [← h, mul_zero2])
    generalize hb : pw a ((n - 3) / 4) = b
    have hc : mul b (mul b a) = pw w (n - 1) := by
      rw [← hb, ← mul_assoc', ← pw_add, ← pw, ← h, ← pw_1 w, ← pw_add, pw_1, ← pw_mul]
      congr 1; omega
    have hcw : mul (mul b (mul b a)) w = conj w := by
      rw [hc, pw_s, Nat.sub_add_cancel hp.1.pos]; exact frob hp w
    have hx : mul (mul b a) (mul b a) = mul (mul b (mul b a)) a := by
      rw [mul_comm' b (mul b a), mul_assoc', mul_assoc', mul_assoc']
    rw [rootR, hb]
    generalize mul b (mul b a) = c at hcw hx
    generalize mul b a = x at hx
    split
    · rename_i hc1
      subst hc1
      have : mul (mul x ⟨0, 1⟩) (mul x ⟨0, 1⟩) = mul (mul x x) (mul ⟨0, 1⟩ ⟨0, 1⟩) := ext' (by simp only [mul]; grind) (by simp only [mul]; grind)
      rw [this, hx]
      exact ext' (by simp only [mul, neg, one]; grind) (by simp only [mul, neg, one]; grind)
    · rename_i hc1
      have hd : add one c ≠ zero := by
        intro h0
        apply hc1
        have e1 := congrArg re h0
        have e2 := congrArg im h0
        simp only [add, one, zero] at e1 e2
        exact ext' (by simp only [neg, one]; grind) (by simp only [neg, one]; grind)
      have hcc : mul (conj c) c = one := by
        refine cancel2 hp hw ?_
        rw [one_mul', mul_assoc', hcw]
        have e1 := congrArg re hcw
        have e2 := congrArg im hcw
        simp only [mul, conj] at e1 e2
        refine ext' ?_ ?_
        · simp only [mul, conj]; grind
        · simp only [mul, conj]; grind
      have he : mul (mul (pw (add one c) ((n - 1) / 2)) (pw (add one c) ((n - 1) / 2))) (add one c) = conj (add one c) := by
        rw [← pw_add, pw_s, show (n - 1) / 2 + (n - 1) / 2 + 1 = n by omega]; exact frob hp _
      generalize pw (add one c) ((n - 1) / 2) = e at he
      have hec : mul (mul e e) c = one := by
        refine cancel2 hp hd ?_
        have h1 : mul (mul (mul e e) c) (add one c) = mul c (mul (mul e e) (add one c)) := by rw [mul_comm' (mul e e) c, mul_assoc']
        rw [h1, he, one_mul']
        have e1 := congrArg re hcc
        have e2 := congrArg im hcc
        simp only [mul, conj, one] at e1 e2
        exact ext' (by simp only [mul, conj, add, one]; grind) (by simp only [mul, conj, add, one]; grind)
      have : mul (mul e x) (mul e x) = mul (mul e e) (mul x x) := ext' (by simp only [mul]; grind) (by simp only [mul]; grind)
      rw [this, hx, ← mul_assoc', hec, one_mul']
theorem sqrtR_root (a : K2 n) : RootOf a (sqrtR a) := by
  rw [sqrtR]
  split
  · rename_i h
    exact .inl ⟨rfl, by show mul (evn2 _) (evn2 _) = a; rw [evn2_sq, h], sgn_evn2 hp _⟩
  · rename_i h
    exact .inr ⟨rfl, rfl, fun w hw => h (rootR_yes hp hw)⟩
theorem sqrt_same (a : K2 n) : sqrtP a = sqrtR a := root_eq hp (sqrtP_root hp a) (sqrtR_root hp a)
omit hp
def isq2 (a : K2 n) : Bool := (sqrtP a).2
include hp
theorem isq2_iff {a : K2 n} : isq2 a = true ↔ ∃ w, mul w w = a := by
  rcases sqrtP_root hp a with ⟨h1, h2, _⟩ | ⟨h1, _, h2⟩
  · exact ⟨fun _ => ⟨_, h2⟩, fun _ => h1⟩
  · exact ⟨fun h => (by rw [isq2, h1] at h; exact absurd h (by decide)), fun ⟨w, hw⟩ => absurd hw (h2 w)⟩
/-- A number is a square just if its norm is one. -/
theorem isq2_norm (a : K2 n) : isq2 a = isq (norm a) := by
  have h1 : isq2 a = true → isq (norm a) = true := by
    intro h
    obtain ⟨w, rfl⟩ := (isq2_iff hp).1 h
    rw [norm_mul]
    exact (isq_iff hp).2 ⟨_, rfl⟩
  have h2 : isq (norm a) = true → isq2 a = true := by
    intro h
    obtain ⟨m, hm⟩ := (isq_iff hp).1 h
    have hv2 := hv_2 hp
    refine (isq2_iff hp).2 ?_
    by_cases hi : a.im = 0
    · rcases sq_or hp a.re with hr | hr
      · obtain ⟨x, hx⟩ := (isq_iff hp).1 hr
        exact ⟨⟨x, 0⟩, ext' (by simp only [mul]; grind) (by simp only [mul]; grind)⟩
      · obtain ⟨x, hx⟩ := (isq_iff hp).1 hr
        exact ⟨⟨0, x⟩, ext' (by simp only [mul]; grind) (by simp only [mul]; grind)⟩
    · have hN : norm a = a.re * a.re + a.im * a.im := rfl
      rw [hN] at hm
      generalize hv n = v at hv2
      have key : ∀ x m' : Fin n, m' * m' = a.re * a.re + a.im * a.im → x * x = (a.re + m') * v → ∃ w, mul w w = a := by
        intro x m' hm' hx
        have hx0 : x ≠ 0 := by
          rintro rfl
          have h0 : m' = -a.re := by
            have : 2 * ((a.re + m') * v) = 0 := by rw [← hx]; grind
            have : (a.re + m') * (2 * v) = 0 := by grind
            rw [hv2] at this; grind
          have : a.im * a.im = 0 := by rw [h0] at hm'; grind
          rcases mul_zero' hp.1 this with h | h <;> exact hi h
        have hI := mul_inv hp.1 hx0
        generalize Kf.inv x = I at hI
        refine ⟨⟨x, a.im * v * I⟩, ext' ?_ ?_⟩
        · simp only [mul]
          have h5 : (a.im * v) * (a.im * v) = (x * x) * (x * x) - a.re * (x * x) := by
            rw [hx]
            have : a.im * a.im = m' * m' - a.re * a.re := by grind
            have e : (a.im * v) * (a.im * v) = (a.im * a.im) * (v * v) := by grind
            rw [e, this]
            have : 2 * v * v = v := by rw [hv2]; grind
            grind
          have h6 : a.im * v * I * (a.im * v * I) = (a.im * v) * (a.im * v) * (I * I) := by grind
          rw [h6, h5]
          have h7 : ((x * x) * (x * x) - a.re * (x * x)) * (I * I) = (x * x) * ((x * I) * (x * I)) - a.re * ((x * I) * (x * I)) := by grind
          rw [h7, hI]; grind
        · simp only [mul]
          have : x * (a.im * v * I) + a.im * v * I * x = a.im * (2 * v) * (x * I) := by grind
          rw [this, hv2, hI]; grind
      rcases sq_or hp ((a.re + m) * v) with hr | hr
      · obtain ⟨x, hx⟩ := (isq_iff hp).1 hr
        exact key x m hm hx
      · -- the other one: their product is minus a square
        have hne : (a.re + m) * v ≠ 0 := by
          intro h0
          have h00 : (a.re + m) * (2 * v) = 0 := by grind
          rw [hv2] at h00
          have hme : m = -a.re := by grind
          have : a.im * a.im = 0 := by rw [hme] at hm; grind
          rcases mul_zero' hp.1 this with h | h <;> exact hi h
        have hne2 : (a.re - m) * v ≠ 0 := by
          intro h0
          have h00 : (a.re - m) * (2 * v) = 0 := by grind
          rw [hv2] at h00
          have hme : m = a.re := by grind
          have : a.im * a.im = 0 := by rw [hme] at hm; grind
          rcases mul_zero' hp.1 this with h | h <;> exact hi h
        have hprod : -((a.re + m) * v) * ((a.re - m) * v) = (a.im * v) * (a.im * v) := by
          have : a.im * a.im = m * m - a.re * a.re := by grind
          have e : (a.im * v) * (a.im * v) = (a.im * a.im) * (v * v) := by grind
          rw [e, this]; grind
        have hsq : isq ((a.im * v) * (a.im * v)) = true := (isq_iff hp).2 ⟨_, rfl⟩
        rw [← hprod, isq_mul hp (fun h => hne (by grind)) hne2, hr] at hsq
        have hr2 : isq ((a.re - m) * v) = true := by
          cases h : isq ((a.re - m) * v)
          · rw [h] at hsq; exact absurd hsq (by decide)
          · rfl
        obtain ⟨x, hx⟩ := (isq_iff hp).1 hr2
        exact key x (-m) (by grind) (by rw [hx]; grind)
  cases h : isq2 a
  · cases k : isq (norm a)
    · rfl
    · rw [h2 k] at h; exact absurd h (by decide)
  · rw [h1 h]
end K2
end Go.Proofs.Ytfhempgkdnecnaa.L.Kf
