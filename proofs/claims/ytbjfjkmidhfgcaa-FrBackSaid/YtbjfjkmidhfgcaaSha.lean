/- SHA-256 in plain terms. No program in sight. No condition. -/
import Derived.KernelRfl
namespace Go.Proofs.Ytbjfjkmidhfgcaa.Sha

/-- A word turned to the right. -/
def rr (x k : Nat) : Nat := (x >>> k) ||| ((x <<< (32 - k)) % 4294967296)
def s0 (x : Nat) : Nat := rr x 7 ^^^ rr x 18 ^^^ (x >>> 3)
def s1 (x : Nat) : Nat := rr x 17 ^^^ rr x 19 ^^^ (x >>> 10)
def S1 (x : Nat) : Nat := rr x 6 ^^^ rr x 11 ^^^ rr x 25
def S0 (x : Nat) : Nat := rr x 2 ^^^ rr x 13 ^^^ rr x 22
def ch (e f g : Nat) : Nat := g ^^^ (e &&& (f ^^^ g))
def maj (a b c : Nat) : Nat := (a &&& b) ||| (c &&& (a ||| b))
def Kt : List Nat := [
  0x428a2f98, 0x71374491, 0xb5c0fbcf, 0xe9b5dba5, 0x3956c25b, 0x59f111f1, 0x923f82a4, 0xab1c5ed5,
  0xd807aa98, 0x12835b01, 0x243185be, 0x550c7dc3, 0x72be5d74, 0x80deb1fe, 0x9bdc06a7, 0xc19bf174,
  0xe49b69c1, 0xefbe4786, 0x0fc19dc6, 0x240ca1cc, 0x2de92c6f, 0x4a7484aa, 0x5cb0a9dc, 0x76f988da,
  0x983e5152, 0xa831c66d, 0xb00327c8, 0xbf597fc7, 0xc6e00bf3, 0xd5a79147, 0x06ca6351, 0x14292967,
  0x27b70a85, 0x2e1b2138, 0x4d2c6dfc, 0x53380d13, 0x650a7354, 0x766a0abb, 0x81c2c92e, 0x92722c85,
  0xa2bfe8a1, 0xa81a664b, 0xc24b8b70, 0xc76c51a3, 0xd192e819, 0xd6990624, 0xf40e3585, 0x106aa070,
  0x19a4c116, 0x1e376c08, 0x2748774c, 0x34b0bcb5, 0x391c0cb3, 0x4ed8aa4a, 0x5b9cca4f, 0x682e6ff3,
  0x748f82ee, 0x78a5636f, 0x84c87814, 0x8cc70208, 0x90befffa, 0xa4506ceb, 0xbef9a3f7, 0xc67178f2]
def H0 : List Nat := [0x6a09e667, 0xbb67ae85, 0x3c6ef372, 0xa54ff53a, 0x510e527f, 0x9b05688c, 0x1f83d9ab, 0x5be0cd19]

/-- Four bytes, the highest first. -/
def be4 (blk : List Nat) (t : Nat) : Nat := blk.getD (4 * t) 0 * 16777216 + blk.getD (4 * t + 1) 0 * 65536 + blk.getD (4 * t + 2) 0 * 256 + blk.getD (4 * t + 3) 0
def word (blk ws : List Nat) (t : Nat) : Nat :=
  if t < 16 then be4 blk t
  else (s1 (ws.getD (t - 2) 0) + ws.getD (t - 7) 0 + s0 (ws.getD (t - 15) 0) + ws.getD (t - 16) 0) % 4294967296
def sch (blk : List Nat) : Nat → List Nat
  | 0 => []
  | t + 1 => sch blk t ++ [word blk (sch blk t) t]
def rnd (k w : Nat) : List Nat → List Nat
  | [a, b, c, d, e, f, g, h] =>
    let t1 := (h + S1 e + ch e f g + k + w) % 4294967296
    [(t1 + (S0 a + maj a b c) % 4294967296) % 4294967296, a, b, c, (d + t1) % 4294967296, e, f, g]
  | s => s
def rnds (ws h : List Nat) : Nat → List Nat
  | 0 => h
  | t + 1 => rnd (Kt.getD t 0) (ws.getD t 0) (rnds ws h t)
def addw : List Nat → List Nat → List Nat
  | x :: xs, y :: ys => (x + y) % 4294967296 :: addw xs ys
  | _, _ => []
def step (h blk : List Nat) : List Nat := addw (rnds (sch blk 64) h 64) h
def be8 (x : Nat) : List Nat := [x >>> 56 % 256, x >>> 48 % 256, x >>> 40 % 256, x >>> 32 % 256, x >>> 24 % 256, x >>> 16 % 256, x >>> 8 % 256, x % 256]
def padLen (n : Nat) : Nat := (n + 9 + 63) / 64 * 64
def pad (b : List Nat) : List Nat := b ++ 128 :: List.replicate (padLen b.length - b.length - 9) 0 ++ be8 (8 * b.length)
/-- The state behind k blocks. -/
def fold (p : List Nat) : Nat → List Nat
  | 0 => H0
  | k + 1 => step (fold p k) ((p.drop (64 * k)).take 64)
def bytes (h : List Nat) : List Nat := (List.range 32).map fun i => (h.getD (i / 4) 0 >>> (24 - 8 * (i % 4))) % 256
def sum (b : List Nat) : List Nat := bytes (fold (pad b) (padLen b.length / 64))

/-! ## Bounds and shapes -/
def Lt (m : Nat) (xs : List Nat) : Prop := ∀ x ∈ xs, x < m

theorem Lt.getD {m : Nat} {xs : List Nat} (h : Lt m xs) (hm : 0 < m) (i : Nat) : xs.getD i 0 < m := by
  rw [List.getD_eq_getElem?_getD]
  cases hi : xs[i]? with
  | none => simpa using hm
  | some v => exact h v (List.mem_of_getElem? hi)
theorem rr_lt {x : Nat} (k : Nat) (h : x < 4294967296) : rr x k < 4294967296 := by
  unfold rr
  refine Nat.or_lt_two_pow (n := 32) ?_ (Nat.mod_lt _ (by decide))
  rw [Nat.shiftRight_eq_div_pow]
  exact Nat.lt_of_le_of_lt (Nat.div_le_self _ _) h
theorem shr_lt {x : Nat} (k : Nat) (h : x < 4294967296) : x >>> k < 4294967296 := by
  rw [Nat.shiftRight_eq_div_pow]
  exact Nat.lt_of_le_of_lt (Nat.div_le_self _ _) h
theorem xor_lt {x y : Nat} (hx : x < 4294967296) (hy : y < 4294967296) : x ^^^ y < 4294967296 := Nat.xor_lt_two_pow (n := 32) hx hy
theorem or_lt {x y : Nat} (hx : x < 4294967296) (hy : y < 4294967296) : x ||| y < 4294967296 := Nat.or_lt_two_pow (n := 32) hx hy
theorem and_lt {x y : Nat} (hx : x < 4294967296) : x &&& y < 4294967296 := Nat.lt_of_le_of_lt Nat.and_le_left hx
theorem s0_lt {x : Nat} (h : x < 4294967296) : s0 x < 4294967296 := xor_lt (xor_lt (rr_lt _ h) (rr_lt _ h)) (shr_lt _ h)
theorem s1_lt {x : Nat} (h : x < 4294967296) : s1 x < 4294967296 := xor_lt (xor_lt (rr_lt _ h) (rr_lt _ h)) (shr_lt _ h)
theorem S0_lt {x : Nat} (h : x < 4294967296) : S0 x < 4294967296 := xor_lt (xor_lt (rr_lt _ h) (rr_lt _ h)) (rr_lt _ h)
theorem S1_lt {x : Nat} (h : x < 4294967296) : S1 x < 4294967296 := xor_lt (xor_lt (rr_lt _ h) (rr_lt _ h)) (rr_lt _ h)
theorem ch_lt {e f g : Nat} (he : e < 4294967296) (hg : g < 4294967296) : ch e f g < 4294967296 := xor_lt hg (and_lt he)
theorem maj_lt {a b c : Nat} (ha : a < 4294967296) (hc : c < 4294967296) : maj a b c < 4294967296 := or_lt (and_lt ha) (and_lt hc)

theorem be4_lt {blk : List Nat} (h : Lt 256 blk) (t : Nat) : be4 blk t < 4294967296 := by
  unfold be4
  have h0 := h.getD (by decide) (4 * t)
  have h1 := h.getD (by decide) (4 * t + 1)
  have h2 := h.getD (by decide) (4 * t + 2)
  have h3 := h.getD (by decide) (4 * t + 3)
  omega
theorem word_lt {blk ws : List Nat} (h : Lt 256 blk) (t : Nat) : word blk ws t < 4294967296 := by
  unfold word; split
  · exact be4_lt h t
  · exact Nat.mod_lt _ (by decide)
theorem sch_len (blk : List Nat) : ∀ t, (sch blk t).length = t
  | 0 => rfl
  | t + 1 => by simp [sch, sch_len blk t]
theorem sch_lt {blk : List Nat} (h : Lt 256 blk) : ∀ t, Lt 4294967296 (sch blk t)
  | 0 => by simp [sch, Lt]
  | t + 1 => by
    intro x hx
    simp only [sch, List.mem_append, List.mem_singleton] at hx
    rcases hx with hx | rfl
    · exact sch_lt h t x hx
    · exact word_lt h t
theorem getD_append_left (xs ys : List Nat) {i : Nat} (h : i < xs.length) : (xs ++ ys).getD i 0 = xs.getD i 0 := by
  simp [List.getD_eq_getElem?_getD, List.getElem?_append_left h]
theorem set_at (xs ys : List Nat) (x y : Nat) : (xs ++ x :: ys).set xs.length y = xs ++ [y] ++ ys := by
  rw [List.set_append_right _ _ (by omega)]; simp

theorem rnd_len (k w : Nat) : ∀ s : List Nat, (rnd k w s).length = s.length
  | [] => rfl | [_] => rfl | [_, _] => rfl | [_, _, _] => rfl | [_, _, _, _] => rfl | [_, _, _, _, _] => rfl | [_, _, _, _, _, _] => rfl | [_, _, _, _, _, _, _] => rfl
  | [_, _, _, _, _, _, _, _] => rfl
  | _ :: _ :: _ :: _ :: _ :: _ :: _ :: _ :: _ :: _ => rfl
theorem len8 {s : List Nat} (h : s.length = 8) : ∃ a b c d e f g i, s = [a, b, c, d, e, f, g, i] := by
  match s, h with
  | [a, b, c, d, e, f, g, i], _ => exact ⟨a, b, c, d, e, f, g, i, rfl⟩
theorem rnd_lt {k w : Nat} {s : List Nat} (hl : s.length = 8) (h : Lt 4294967296 s) : Lt 4294967296 (rnd k w s) := by
  obtain ⟨a, b, c, d, e, f, g, i, rfl⟩ := len8 hl
  simp only [Lt, rnd, List.mem_cons, List.not_mem_nil, or_false, forall_eq_or_imp, forall_eq] at h ⊢
  obtain ⟨h1, h2, h3, h4, h5, h6, h7, h8⟩ := h
  exact ⟨Nat.mod_lt _ (by decide), h1, h2, h3, Nat.mod_lt _ (by decide), h5, h6, h7⟩
theorem rnds_len (ws h : List Nat) : ∀ t, (rnds ws h t).length = h.length
  | 0 => rfl
  | t + 1 => by simp [rnds, rnd_len, rnds_len ws h t]
theorem rnds_lt {ws h : List Nat} (hl : h.length = 8) (hh : Lt 4294967296 h) : ∀ t, Lt 4294967296 (rnds ws h t)
  | 0 => hh
  | t + 1 => rnd_lt (by rw [rnds_len, hl]) (rnds_lt hl hh t)
theorem addw_len : ∀ {xs ys : List Nat}, xs.length = ys.length → (addw xs ys).length = xs.length
  | [], [], _ => rfl
  | x :: xs, y :: ys, h => by simp [addw, addw_len (xs := xs) (ys := ys) (by simpa using h)]
  | [], _ :: _, h => by simp at h
  | _ :: _, [], h => by simp at h
theorem addw_lt : ∀ xs ys : List Nat, Lt 4294967296 (addw xs ys)
  | [], _ => by simp [addw, Lt]
  | _ :: _, [] => by simp [addw, Lt]
  | x :: xs, y :: ys => by
    intro z hz
    simp only [addw, List.mem_cons] at hz
    rcases hz with rfl | hz
    · exact Nat.mod_lt _ (by decide)
    · exact addw_lt xs ys z hz
theorem step_len {h blk : List Nat} (hl : h.length = 8) : (step h blk).length = 8 := by
  unfold step; rw [addw_len (by rw [rnds_len]), rnds_len, hl]
theorem step_lt (h blk : List Nat) : Lt 4294967296 (step h blk) := addw_lt _ _
theorem fold_len (p : List Nat) : ∀ k, (fold p k).length = 8
  | 0 => rfl
  | k + 1 => step_len (fold_len p k)
theorem H0_lt : Lt 4294967296 H0 := by unfold Lt H0; decide
theorem fold_lt (p : List Nat) : ∀ k, Lt 4294967296 (fold p k)
  | 0 => H0_lt
  | _ + 1 => step_lt _ _
theorem bytes_len (h : List Nat) : (bytes h).length = 32 := by simp [bytes]
theorem sum_len (b : List Nat) : (sum b).length = 32 := bytes_len _
theorem bytes_lt (h : List Nat) : Lt 256 (bytes h) := by
  intro x hx
  simp only [bytes, List.mem_map] at hx
  obtain ⟨i, _, rfl⟩ := hx
  exact Nat.mod_lt _ (by decide)
theorem sum_lt (b : List Nat) : Lt 256 (sum b) := bytes_lt _
theorem Kt_len : Kt.length = 64 := by decide
theorem Kt_lt : Lt 4294967296 Kt := by unfold Lt Kt; decide
theorem H0_len : H0.length = 8 := rfl
theorem be8_len (x : Nat) : (be8 x).length = 8 := rfl
theorem padLen_le (n : Nat) : n + 9 ≤ padLen n ∧ padLen n ≤ n + 72 ∧ padLen n % 64 = 0 := by unfold padLen; omega
theorem pad_len (b : List Nat) : (pad b).length = padLen b.length := by
  have := padLen_le b.length
  simp [pad, be8_len]; omega
theorem be8_lt (x : Nat) : Lt 256 (be8 x) := by
  intro y hy
  simp only [be8, List.mem_cons, List.not_mem_nil, or_false] at hy
  rcases hy with rfl | rfl | rfl | rfl | rfl | rfl | rfl | rfl <;> exact Nat.mod_lt _ (by decide)
theorem pad_lt {b : List Nat} (h : Lt 256 b) : Lt 256 (pad b) := by
  intro x hx
  simp only [pad, List.mem_append, List.mem_cons, List.mem_replicate] at hx
  rcases hx with (hx | rfl | ⟨_, rfl⟩) | hx
  · exact h x hx
  · decide
  · decide
  · exact be8_lt _ x hx

/-! ## Bits -/
theorem ch_other (e f g : Nat) (he : e < 4294967296) (hf : f < 4294967296) (hg : g < 4294967296) : (e &&& f) ^^^ ((4294967295 - e) &&& g) = ch e f g := by
  have hc : 4294967295 - e = 4294967295 ^^^ e := by
    have e1 : ((BitVec.allOnes 32) ^^^ BitVec.ofNat 32 e).toNat = (~~~ BitVec.ofNat 32 e).toNat := by rw [BitVec.allOnes_xor]
    rw [BitVec.toNat_xor, BitVec.toNat_not, BitVec.toNat_allOnes, BitVec.toNat_ofNat, Nat.mod_eq_of_lt he] at e1
    simpa using e1.symm
  rw [hc]
  apply Nat.eq_of_testBit_eq
  intro i
  unfold ch
  simp only [Nat.testBit_xor, Nat.testBit_and]
  have h1 : Nat.testBit 4294967295 i = decide (i < 32) := by
    have := Nat.testBit_two_pow_sub_one 32 i
    simpa using this
  rw [h1]
  by_cases hi : i < 32
  · simp only [hi, decide_true, Bool.true_bne]
    cases e.testBit i <;> cases f.testBit i <;> cases g.testBit i <;> rfl
  · have z : ∀ x : Nat, x < 4294967296 → x.testBit i = false := fun x hx => Nat.testBit_lt_two_pow (Nat.lt_of_lt_of_le hx (by
      have : 2 ^ 32 ≤ 2 ^ i := Nat.pow_le_pow_right (by decide) (by omega)
      exact this))
    simp [z e he, z f hf, z g hg]
theorem maj_other (a b c : Nat) : ((a &&& b) ^^^ (a &&& c)) ^^^ (b &&& c) = maj a b c := by
  apply Nat.eq_of_testBit_eq
  intro i
  unfold maj
  simp only [Nat.testBit_xor, Nat.testBit_and, Nat.testBit_or]
  cases a.testBit i <;> cases b.testBit i <;> cases c.testBit i <;> rfl
theorem or_add (x y : Nat) (hy : y < 256) (hx : x < 16777216) : ((x <<< 8) % 4294967296) ||| y = x * 256 + y := by
  rw [Nat.shiftLeft_eq, Nat.mod_eq_of_lt (by omega)]
  have := Nat.shiftLeft_add_eq_or_of_lt (a := x) (b := y) (i := 8) hy
  rw [Nat.shiftLeft_eq] at this
  exact this.symm
theorem neg_turn : ∀ k : Nat, k < 32 → 0 < k → ((-(k : Int) % 18446744073709551616).toNat % 18446744073709551616 &&& 31) = 32 - k := by decide

/-! ## For the walks -/
/-- A word's first j bytes. -/
def pw (blk : List Nat) (t : Nat) : Nat → Nat
  | 0 => 0
  | j + 1 => pw blk t j * 256 + blk.getD (4 * t + j) 0
theorem pw_lt {blk : List Nat} (h : Lt 256 blk) (t : Nat) : ∀ j, pw blk t j < 256 ^ j
  | 0 => by simp [pw]
  | j + 1 => by
    have := pw_lt h t j
    have h2 := h.getD (by decide) (4 * t + j)
    simp only [pw, Nat.pow_succ]; omega
theorem pw_4 (blk : List Nat) (t : Nat) : pw blk t 4 = be4 blk t := by simp only [pw, be4, Nat.add_zero]; omega
theorem pw_0 (blk : List Nat) (t : Nat) : pw blk t 0 = 0 := rfl
theorem pw_succ (blk : List Nat) (t j : Nat) : pw blk t (j + 1) = pw blk t j * 256 + blk.getD (4 * t + j) 0 := rfl
theorem getD_cut (ys : List Nat) (lo hi j : Nat) (h : lo + j < hi) : ((ys.take hi).drop lo).getD j 0 = ys.getD (lo + j) 0 := by
  simp only [List.getD_eq_getElem?_getD, List.getElem?_drop, List.getElem?_take, if_pos h]
theorem getD_at (xs ys : List Nat) (x i : Nat) (h : xs.length = i) : (xs ++ x :: ys).getD i 0 = x := by
  subst h; simp [List.getD_eq_getElem?_getD]
theorem set_at' (xs ys : List Nat) (x y i : Nat) (h : xs.length = i) : (xs ++ x :: ys).set i y = xs ++ y :: ys := by
  subst h; rw [List.set_append_right _ _ (by omega)]; simp
theorem add4 (a b c d : Nat) : (((a + b) % 4294967296 + c) % 4294967296 + d) % 4294967296 = (a + b + c + d) % 4294967296 := by omega
theorem mix_mod (x p q r : Nat) (hx : x < 4294967296) : (rr x p % 4294967296 ^^^ rr x q % 4294967296) % 4294967296 ^^^ x >>> r % 4294967296 = rr x p ^^^ rr x q ^^^ x >>> r := by
  rw [Nat.mod_eq_of_lt (rr_lt p hx), Nat.mod_eq_of_lt (rr_lt q hx), Nat.mod_eq_of_lt (xor_lt (rr_lt p hx) (rr_lt q hx)), Nat.mod_eq_of_lt (shr_lt r hx)]
theorem big_mod (x p q r : Nat) (hx : x < 4294967296) : (rr x p % 4294967296 ^^^ rr x q % 4294967296) % 4294967296 ^^^ rr x r % 4294967296 = rr x p ^^^ rr x q ^^^ rr x r := by
  rw [Nat.mod_eq_of_lt (rr_lt p hx), Nat.mod_eq_of_lt (rr_lt q hx), Nat.mod_eq_of_lt (xor_lt (rr_lt p hx) (rr_lt q hx)), Nat.mod_eq_of_lt (rr_lt r hx)]
theorem add5 (a b c d e : Nat) : ((((a + b) % 4294967296 + c) % 4294967296 + d) % 4294967296 + e) % 4294967296 = (a + b + c + d + e) % 4294967296 := by omega
theorem rep_cons (t : Nat) (h : t < 64) : List.replicate (64 - t) 0 = 0 :: List.replicate (64 - (t + 1)) 0 := by
  rw [show 64 - t = (64 - (t + 1)) + 1 by omega, List.replicate_succ]
theorem sch_0 (blk : List Nat) : sch blk 0 ++ List.replicate (64 - 0) 0 = List.replicate 64 0 := rfl
theorem sch_64 (blk : List Nat) : sch blk 64 ++ List.replicate (64 - 64) 0 = sch blk 64 := by simp
theorem sch_be (blk : List Nat) (t : Nat) (h : t < 16) : sch blk t ++ be4 blk t :: List.replicate (64 - (t + 1)) 0 = sch blk (t + 1) ++ List.replicate (64 - (t + 1)) 0 := by
  simp only [sch, word, if_pos h, List.append_assoc, List.singleton_append]
theorem sch_mix (blk : List Nat) (t : Nat) (h : 16 ≤ t) (h' : t < 64) :
    (sch blk t ++ List.replicate (64 - t) 0).set t ((((rr ((sch blk t).getD (t - 2) 0) 17 ^^^ rr ((sch blk t).getD (t - 2) 0) 19 ^^^ ((sch blk t).getD (t - 2) 0 >>> 10)) + (sch blk t).getD (t - 7) 0 +
      (rr ((sch blk t).getD (t - 15) 0) 7 ^^^ rr ((sch blk t).getD (t - 15) 0) 18 ^^^ ((sch blk t).getD (t - 15) 0 >>> 3)) + (sch blk t).getD (t - 16) 0) % 4294967296)) = sch blk (t + 1) ++ List.replicate (64 - (t + 1)) 0 := by
  rw [rep_cons t h', set_at' _ _ _ _ _ (sch_len blk t)]
  simp only [sch, word, if_neg (show ¬ t < 16 by omega), List.append_assoc, List.singleton_append, s0, s1]
/-- The first i are new, the others old. -/
def mixT (ys xs : List Nat) (i : Nat) : List Nat := ys.take i ++ xs.drop i
theorem mixT_len {ys xs : List Nat} (h : ys.length = xs.length) (i : Nat) : (mixT ys xs i).length = xs.length := by simp [mixT]; omega
theorem mixT_0 (ys xs : List Nat) : mixT ys xs 0 = xs := by simp [mixT]
theorem mixT_all {ys xs : List Nat} (h : ys.length = xs.length) : mixT ys xs xs.length = ys := by simp [mixT, ← h]
theorem mixT_getD {ys xs : List Nat} (h : ys.length = xs.length) {i : Nat} (hi : i < xs.length) : (mixT ys xs i).getD i 0 = xs.getD i 0 := by
  simp only [mixT, List.getD_eq_getElem?_getD]
  rw [List.getElem?_append_right (by simp; omega)]
  simp [Nat.min_eq_left (show i ≤ ys.length by omega)]
theorem mix_take {ys xs : List Nat} (h : ys.length = xs.length) {i : Nat} (hi : i < xs.length) : (mixT ys xs i).set i (ys.getD i 0) = mixT ys xs (i + 1) := by
  simp only [mixT]
  have hl : (ys.take i).length = i := by simp; omega
  rw [List.set_append_right _ _ (by omega), hl, Nat.sub_self, List.drop_eq_getElem_cons hi, List.set_cons_zero, List.take_succ_eq_append_getElem (show i < ys.length by omega)]
  simp [List.getD_eq_getElem?_getD, show i < ys.length by omega, -List.take_append_getElem]
theorem addw_getD : ∀ {xs ys : List Nat}, xs.length = ys.length → ∀ {i : Nat}, i < xs.length → (addw xs ys).getD i 0 = (xs.getD i 0 + ys.getD i 0) % 4294967296
  | x :: xs, y :: ys, h, 0, _ => rfl
  | x :: xs, y :: ys, h, i + 1, hi => by
    have := addw_getD (xs := xs) (ys := ys) (by simpa using h) (i := i) (by simpa using hi)
    simpa [addw] using this
  | [], _, _, _, hi => by simp at hi
  | _ :: _, [], h, _, _ => by simp at h
theorem addw_comm : ∀ xs ys : List Nat, addw xs ys = addw ys xs
  | [], [] => rfl
  | [], _ :: _ => rfl
  | _ :: _, [] => rfl
  | x :: xs, y :: ys => by simp only [addw]; rw [Nat.add_comm, addw_comm xs ys]
theorem rnds_0 (ws h : List Nat) : rnds ws h 0 = h := rfl
theorem rnds_succ (ws h : List Nat) (t : Nat) : rnds ws h (t + 1) = rnd (Kt.getD t 0) (ws.getD t 0) (rnds ws h t) := rfl
theorem rnd_def (k w a b c d e f g h : Nat) : rnd k w [a, b, c, d, e, f, g, h] =
    [((h + S1 e + ch e f g + k + w) % 4294967296 + (S0 a + maj a b c) % 4294967296) % 4294967296, a, b, c, (d + (h + S1 e + ch e f g + k + w) % 4294967296) % 4294967296, e, f, g] := rfl
theorem S1_def (x : Nat) : S1 x = rr x 6 ^^^ rr x 11 ^^^ rr x 25 := rfl
theorem S0_def (x : Nat) : S0 x = rr x 2 ^^^ rr x 13 ^^^ rr x 22 := rfl
theorem ch_def (e f g : Nat) : ch e f g = g ^^^ (e &&& (f ^^^ g)) := rfl
theorem maj_def (a b c : Nat) : maj a b c = (a &&& b) ||| (c &&& (a ||| b)) := rfl
theorem step_def (h blk : List Nat) : step h blk = addw (rnds (sch blk 64) h 64) h := rfl
theorem ch_mod (e f g : Nat) (he : e < 4294967296) (hf : f < 4294967296) (hg : g < 4294967296) : g % 4294967296 ^^^ (e % 4294967296 &&& (f % 4294967296 ^^^ g % 4294967296) % 4294967296) % 4294967296 = ch e f g := by
  rw [Nat.mod_eq_of_lt he, Nat.mod_eq_of_lt hf, Nat.mod_eq_of_lt hg, Nat.mod_eq_of_lt (xor_lt hf hg), Nat.mod_eq_of_lt (and_lt he)]; rfl
theorem maj_mod (a b c : Nat) (ha : a < 4294967296) (hb : b < 4294967296) (hc : c < 4294967296) : (a % 4294967296 &&& b % 4294967296) % 4294967296 ||| (c % 4294967296 &&& (a % 4294967296 ||| b % 4294967296) % 4294967296) % 4294967296 = maj a b c := by
  rw [Nat.mod_eq_of_lt ha, Nat.mod_eq_of_lt hb, Nat.mod_eq_of_lt hc, Nat.mod_eq_of_lt (or_lt ha hb), Nat.mod_eq_of_lt (and_lt ha), Nat.mod_eq_of_lt (and_lt hc)]; rfl
theorem ch_mod2 (e f g : Nat) (he : e < 4294967296) (hf : f < 4294967296) (hg : g < 4294967296) : (e % 4294967296 &&& f % 4294967296) % 4294967296 ^^^ ((4294967296 - 1 - e % 4294967296) % 4294967296 &&& g % 4294967296) % 4294967296 = ch e f g := by
  have h1 : 4294967296 - 1 - e % 4294967296 = 4294967295 - e := by omega
  have h2 : 4294967295 - e < 4294967296 := by omega
  rw [h1, Nat.mod_eq_of_lt he, Nat.mod_eq_of_lt hf, Nat.mod_eq_of_lt hg, Nat.mod_eq_of_lt h2, Nat.mod_eq_of_lt (and_lt he), Nat.mod_eq_of_lt (and_lt h2)]
  exact ch_other e f g he hf hg
theorem maj_mod2 (a b c : Nat) (ha : a < 4294967296) (hb : b < 4294967296) (hc : c < 4294967296) : ((a % 4294967296 &&& b % 4294967296) % 4294967296 ^^^ (a % 4294967296 &&& c % 4294967296) % 4294967296) % 4294967296 ^^^ (b % 4294967296 &&& c % 4294967296) % 4294967296 = maj a b c := by
  rw [Nat.mod_eq_of_lt ha, Nat.mod_eq_of_lt hb, Nat.mod_eq_of_lt hc, Nat.mod_eq_of_lt (and_lt ha), Nat.mod_eq_of_lt (and_lt ha), Nat.mod_eq_of_lt (and_lt hb), Nat.mod_eq_of_lt (xor_lt (and_lt ha) (and_lt ha))]
  exact maj_other a b c
theorem big_mod2 (x p q r : Nat) (hx : x < 4294967296) : (rr x p % 4294967296 ^^^ rr x q % 4294967296) % 4294967296 ^^^ rr x r % 4294967296 = rr x p ^^^ rr x q ^^^ rr x r := big_mod x p q r hx
theorem be4_def (blk : List Nat) (t : Nat) : be4 blk t = blk.getD (4 * t) 0 * 16777216 + blk.getD (4 * t + 1) 0 * 65536 + blk.getD (4 * t + 2) 0 * 256 + blk.getD (4 * t + 3) 0 := rfl
/-- The last eight bytes, i of them written. -/
def tail8 (K i : Nat) : List Nat := List.replicate (8 - i) 0 ++ (be8 K).drop (8 - i)
theorem tail8_set (K i : Nat) (h : i < 8) : (tail8 K i).set (7 - i) ((K >>> (8 * i)) % 256) = tail8 K (i + 1) := by
  match i, h with
  | 0, _ => simp [tail8, be8, List.replicate]
  | 1, _ => simp [tail8, be8, List.replicate]
  | 2, _ => simp [tail8, be8, List.replicate]
  | 3, _ => simp [tail8, be8, List.replicate]
  | 4, _ => simp [tail8, be8, List.replicate]
  | 5, _ => simp [tail8, be8, List.replicate]
  | 6, _ => simp [tail8, be8, List.replicate]
  | 7, _ => simp [tail8, be8]
theorem tail8_len (K i : Nat) : (tail8 K i).length = 8 := by simp [tail8, be8]
def padA (b : List Nat) : List Nat := b ++ 128 :: List.replicate (padLen b.length - b.length - 9) 0
theorem padA_len (b : List Nat) : (padA b).length = padLen b.length - 8 := by
  have := padLen_le b.length
  simp [padA]; omega
theorem pad_eq (b : List Nat) : padA b ++ tail8 (8 * b.length) 8 = pad b := by simp [padA, tail8, pad]
theorem pad_start (b : List Nat) (K : Nat) : (b.take (padLen b.length) ++ (List.replicate (padLen b.length) 0).drop (min b.length (padLen b.length))).set b.length 128 = padA b ++ tail8 K 0 := by
  have := padLen_le b.length
  rw [List.take_of_length_le (by omega), Nat.min_eq_left (by omega), List.drop_replicate, show padLen b.length - b.length = (padLen b.length - b.length - 9) + 8 + 1 by omega, List.replicate_succ, set_at' _ _ _ _ _ rfl]
  have e : List.replicate (padLen b.length - b.length - 9 + 8) 0 = List.replicate (padLen b.length - b.length - 9) 0 ++ List.replicate 8 0 := by rw [List.replicate_append_replicate]
  rw [e]
  simp [padA, tail8, be8]
theorem pad_set (b : List Nat) (K i : Nat) (h : i < 8) : (padA b ++ tail8 K i).set (padLen b.length - 1 - i) ((K >>> (8 * i)) % 256) = padA b ++ tail8 K (i + 1) := by
  have := padLen_le b.length
  have hl := padA_len b
  rw [List.set_append_right _ _ (by omega), hl, show padLen b.length - 1 - i - (padLen b.length - 8) = 7 - i by omega, tail8_set K i h]
theorem padLen_def (n : Nat) : (n + 9 + 63) / 64 * 64 = padLen n := rfl
/-- What the reference's filling up holds. -/
theorem rpad_0 (b : List Nat) : b ++ [128] = b ++ 128 :: List.replicate 0 0 := rfl
theorem rpad_succ (b : List Nat) (j : Nat) : (b ++ 128 :: List.replicate j 0) ++ [0] = b ++ 128 :: List.replicate (j + 1) 0 := by
  rw [List.append_assoc, List.cons_append, ← List.replicate_succ']
theorem rpad_end (b : List Nat) {j : Nat} (h : j = padLen b.length - b.length - 9) : b ++ 128 :: List.replicate j 0 = padA b ++ (be8 (8 * b.length)).take 0 := by
  subst h; simp [padA]
theorem rpad_be (b : List Nat) (K i : Nat) (h : i < 8) : (padA b ++ (be8 K).take i) ++ [(K >>> (8 * (7 - i))) % 256] = padA b ++ (be8 K).take (i + 1) := by
  rw [List.append_assoc]
  congr 1
  match i, h with
  | 0, _ => simp [be8]
  | 1, _ => simp [be8]
  | 2, _ => simp [be8]
  | 3, _ => simp [be8]
  | 4, _ => simp [be8]
  | 5, _ => simp [be8]
  | 6, _ => simp [be8]
  | 7, _ => simp [be8]
theorem rpad_all (b : List Nat) : padA b ++ (be8 (8 * b.length)).take 8 = pad b := by simp [padA, pad, be8]
theorem be8_take_len (K i : Nat) (h : i ≤ 8) : ((be8 K).take i).length = i := by simp [be8]; omega
theorem cut_len (p : List Nat) (k : Nat) (h : 64 * k + 64 ≤ p.length) : ((p.drop (64 * k)).take 64).length = 64 := by simp; omega
theorem cut_lt {m : Nat} {p : List Nat} (h : Lt m p) (k : Nat) : Lt m ((p.drop (64 * k)).take 64) := fun x hx => h x (List.mem_of_mem_drop (List.mem_of_mem_take hx))
theorem fold_0 (p : List Nat) : fold p 0 = H0 := rfl
theorem fold_succ (p : List Nat) (k : Nat) : fold p (k + 1) = step (fold p k) ((p.drop (64 * k)).take 64) := rfl
theorem bytes_getD (h : List Nat) {i : Nat} (hi : i < 32) : (bytes h).getD i 0 = (h.getD (i / 4) 0 >>> (24 - 8 * (i % 4))) % 256 := by
  simp [bytes, List.getD_eq_getElem?_getD, hi]
theorem sum_def (b : List Nat) : sum b = bytes (fold (pad b) (padLen b.length / 64)) := rfl
attribute [irreducible] rr s0 s1 S0 S1 ch maj be4 word sch rnd rnds addw step be8 padLen pad fold bytes sum pw tail8 padA mixT
end Go.Proofs.Ytbjfjkmidhfgcaa.Sha
