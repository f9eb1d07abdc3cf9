/- The digits of a number: the program's walk. Conditions: as each statement says. -/
import Derived.Test.YtbjfjkmidhfgcaaAuto
import Derived.Test.YtbjfjkmidhfgcaaPerm
import Derived.Test.YtbjfjkmidhfgcaaMore
import Derived.Test.YtbjfjkmidhfgcaaProg
import Derived.Test.YtbjfjkmidhfgcaaNum
import Derived.Test.YtbjfjkmidhfgcaaLmb
import Derived.Test.YtbjfjkmidhfgcaaLmd
import Derived.Test.YtbjfjkmidhfgcaaLmo
import Derived.Test.YtbjfjkmidhfgcaaLmk
import Derived.Test.YtbjfjkmidhfgcaaScope
import Derived.Test.YtbjfjkmidhfgcaaJoin
import Derived.Test.YtbjfjkmidhfgcaaLma
import Derived.Test.YtbjfjkmidhfgcaaLmz
import Derived.Test.YtbjfjkmidhfgcaaWin
import Derived.Test.YtbjfjkmidhfgcaaGho
import Derived.Test.YtbjfjkmidhfgcaaBld
namespace Go.Proofs.Ytbjfjkmidhfgcaa.L
open Go Go.Proofs
set_option maxRecDepth 100000
attribute [local irreducible] Code.wp wpList Af bodyPost L.Go
open Num

theorem word_bit0 {xs : List Nat} (hx : Lt 18446744073709551616 xs) (i : Nat) : (xs.getD (i / 64) 0 >>> (i % 64) % 18446744073709551616 &&& 1 % 18446744073709551616) = V xs / 2 ^ i % 2 := by
  rw [show 1 % 18446744073709551616 = 1 from rfl, Nat.and_one_is_mod, Nat.mod_mod_of_dvd _ (by decide), V_getD hx]
  exact word_bit _ _
theorem bit_above {xs : List Nat} (hx : Lt 18446744073709551616 xs) {i : Nat} (h : xs.length ≤ i / 64) : V xs / 2 ^ i % 2 = 0 := by
  have h1 := V_lt hx
  have h2 : W ^ xs.length ≤ 2 ^ i := by
    rw [W_2, ← Nat.pow_mul]
    exact Nat.pow_le_pow_right (by decide) (by omega)
  rw [Nat.div_eq_of_lt (by omega)]
theorem bit_spec (s : Value) (bb : Nat) (U : TypeId) (xs : List Nat) (i : Nat) (hx : Lt 18446744073709551616 xs) (hs : s.oneCell' = true) (hi : i < 9223372036854775808) :
    Spec Try.prog 84 [N .i64 i, pt bb 0] (fun w => RdC ⟨w, fps [.blk bb s U]⟩ s (xs.map (N .u64))) [.blk bb s U] (fun v Wr => v = N .i64 (V xs / 2 ^ i % 2) ∧ Wr = [.blk bb s U]) := by
  refine mk_spec Try.func84 rfl rfl rfl fun w hr => ?_
  have hb := word_bit0 hx i
  by_cases h : xs.length ≤ i / 64
  · repeat (first
      |(refine st_cmp (r := true) (by rfl) (by rfl) (cmpN_t (by first | (simp only [cmpP]; done) | (simp only [cmpP]; omega))) (by rfl) ?_)
      |(refine st_load_s (by rfl) (by repeat (first | apply Find.here | apply Find.there)) hs (by rfl) (by rfl) ?_)|refine Z01 ?_|refine Z02 ?_|refine Z03 ?_
      |refine Z04 ?_|refine Z05 ?_|refine Z06 ?_|refine Z07 ?_|refine Z08 ?_|refine Z09 ?_|refine Z10 ?_|refine Z11 ?_|refine Z12 ?_|refine Z13 ?_|refine Z14 ?_
      |refine Z17 ?_|refine Z18 ?_|refine Z20 ?_|refine Z21 ?_|refine Z22 ?_|refine Z23 ?_|refine Z24 ?_|refine Z25 ?_|refine Z26 ?_|refine Z27 ?_|refine Z28 ?_
      |refine Z37 ?_|refine Z38 ?_|refine Z40 ?_|refine Z42 ?_|refine Z44 ?_|refine Z45 ?_|refine Z58 ?_|refine Z59 ?_|refine Z67 ?_|refine Z74 ?_|refine Z80 ?_)
    exact Ze1 fun _ hw => post_of hw (Wout := [.blk bb s U]) (by exact (by repeat (first | apply SubW.nil | refine SubW.cons (by repeat (first | apply Find.here | apply Find.there)) ?_))) ⟨by rw [bit_above hx h], rfl⟩
  · have hm : V xs / 2 ^ i % 2 < 9223372036854775808 := by omega
    repeat (first
      |(refine st_cmp (r := false) (by rfl) (by rfl) (cmpN_f (by first | (simp only [cmpQ]; done) | (simp only [cmpQ]; omega))) (by rfl) ?_)
      |(refine st_load_s (by rfl) (by repeat (first | apply Find.here | apply Find.there)) hs (by rfl) (by rfl) ?_)
      |(refine st_shr (by rfl) (by rfl) (show i % 64 ≤ 64 by omega) (by rfl) ?_)|(rw [hb])|refine Z01 ?_|refine Z02 ?_|refine Z03 ?_|refine Z04 ?_|refine Z05 ?_
      |refine Z06 ?_|refine Z07 ?_|refine Z08 ?_|refine Z09 ?_|refine Z10 ?_|refine Z11 ?_|refine Z12 ?_|refine Z13 ?_|refine Z14 ?_|refine Z17 ?_|refine Z18 ?_
      |refine Z20 ?_|refine Z21 ?_|refine Z22 ?_|refine Z23 ?_|refine Z24 ?_|refine Z25 ?_|refine Z26 ?_|refine Z27 ?_|refine Z28 ?_|refine Z37 ?_|refine Z38 ?_
      |refine Z40 ?_|refine Z42 ?_|refine Z44 ?_|refine Z45 ?_|refine Z58 ?_|refine Z59 ?_|refine Z67 ?_|refine Z74 ?_|refine Z80 ?_)
    exact Ze1 fun _ hw => post_of hw (Wout := [.blk bb s U]) (by exact (by repeat (first | apply SubW.nil | refine SubW.cons (by repeat (first | apply Find.here | apply Find.there)) ?_))) ⟨rfl, rfl⟩

theorem windows_bad (s : Value) (w' : Int) (h : w' < 2 ∨ 8 < w') : Spec Try.prog 48 [s, .int .i64 w'] NoPre [] (IsV (.tuple #[.slice none 0 0, N .i64 1])) := by
  refine mk_spec Try.func48 rfl rfl rfl fun w _ => ?_
  by_cases h2 : w' < 2
  · have hz : cmpZ .lss w' (Int.ofNat 2) = some true := by simp [cmpZ]; omega
    repeat (first
      |(refine st_cmpz (by rfl) (by rfl) hz (by rfl) ?_)|refine Z01 ?_|refine Z02 ?_|refine Z03 ?_|refine Z04 ?_|refine Z05 ?_|refine Z06 ?_|refine Z07 ?_|refine Z08 ?_
      |refine Z09 ?_|refine Z10 ?_|refine Z11 ?_|refine Z12 ?_|refine Z13 ?_|refine Z14 ?_|refine Z15 ?_|refine Z16 ?_|refine Z17 ?_|refine Z18 ?_|refine Z20 ?_
      |refine Z21 ?_|refine Z22 ?_|refine Z23 ?_|refine Z24 ?_|refine Z25 ?_|refine Z26 ?_|refine Z27 ?_|refine Z28 ?_|refine Z36 ?_|refine Z43 ?_|refine Z48 ?_
      |refine Z49 ?_|refine Z50 ?_|refine Z51 ?_|refine Z52 ?_|refine Z53 ?_|refine Z58 ?_|refine Z59 ?_|refine Z62 ?_|refine Z63 ?_|refine Z64 ?_|refine Z67 ?_
      |refine Z70 ?_|refine Z71 ?_|refine Z81 fun _ => ?_|refine Z84 fun _ => ?_|refine Z85 fun _ => ?_)
    exact Ze2 fun _ hw => post_of hw SubW.nil ⟨rfl, rfl⟩
  · have hz : cmpZ .lss w' (Int.ofNat 2) = some false := by simp [cmpZ]; omega
    have hz2 : cmpZ .gtr w' (Int.ofNat 8) = some true := by simp [cmpZ]; omega
    repeat (first
      |(refine st_cmpz (by rfl) (by rfl) hz (by rfl) ?_)|(refine st_cmpz (by rfl) (by rfl) hz2 (by rfl) ?_)|refine Z01 ?_|refine Z02 ?_|refine Z03 ?_|refine Z04 ?_
      |refine Z05 ?_|refine Z06 ?_|refine Z07 ?_|refine Z08 ?_|refine Z09 ?_|refine Z10 ?_|refine Z11 ?_|refine Z12 ?_|refine Z13 ?_|refine Z14 ?_|refine Z15 ?_
      |refine Z16 ?_|refine Z17 ?_|refine Z18 ?_|refine Z20 ?_|refine Z21 ?_|refine Z22 ?_|refine Z23 ?_|refine Z24 ?_|refine Z25 ?_|refine Z26 ?_|refine Z27 ?_
      |refine Z28 ?_|refine Z36 ?_|refine Z43 ?_|refine Z48 ?_|refine Z49 ?_|refine Z50 ?_|refine Z51 ?_|refine Z52 ?_|refine Z53 ?_|refine Z58 ?_|refine Z59 ?_
      |refine Z62 ?_|refine Z63 ?_|refine Z64 ?_|refine Z67 ?_|refine Z70 ?_|refine Z71 ?_|refine Z81 fun _ => ?_|refine Z84 fun _ => ?_|refine Z85 fun _ => ?_)
    exact Ze2 fun _ hw => post_of hw SubW.nil ⟨rfl, rfl⟩

set_option maxHeartbeats 4000000 in
theorem windows_spec (s : Value) (xs : List Nat) (w : Nat) (hx : Lt 18446744073709551616 xs) (hl : xs.length < 65536) (hw : 2 ≤ w) (hw8 : w ≤ 8) :
    Spec Try.prog 48 [s, N .i64 w] (fun w => Rd w s (xs.map (N .u64))) [] (fun v Wr => ∃ u, v = .tuple [u, N .i64 0].toArray ∧ Wr = [.sl u (IV (digits w (V xs))) 3]) := by
  refine mk_spec Try.func48 rfl rfl rfl fun wd hr0 => ?_
  have hr := RdC.mk0 hr0
  have hs := hr0.one
  repeat (first
    |(refine st_cmp (r := false) (by rfl) (by rfl) (cmpN_f (by first | (simp only [cmpQ]; done) | (simp only [cmpQ]; omega))) (by rfl) ?_)|refine Z01 ?_|refine Z02 ?_
    |refine Z03 ?_|refine Z04 ?_|refine Z05 ?_|refine Z06 ?_|refine Z07 ?_|refine Z08 ?_|refine Z09 ?_|refine Z10 ?_|refine Z11 ?_|refine Z12 ?_|refine Z13 ?_
    |refine Z14 ?_|refine Z15 ?_|refine Z16 ?_|refine Z17 ?_|refine Z18 ?_|refine Z20 ?_|refine Z21 ?_|refine Z22 ?_|refine Z23 ?_|refine Z24 ?_|refine Z25 ?_
    |refine Z26 ?_|refine Z27 ?_|refine Z28 ?_|refine Z36 ?_|refine Z43 ?_|refine Z48 ?_|refine Z49 ?_|refine Z50 ?_|refine Z51 ?_|refine Z52 ?_|refine Z53 ?_
    |refine Z58 ?_|refine Z59 ?_|refine Z62 ?_|refine Z63 ?_|refine Z64 ?_|refine Z67 ?_|refine Z70 ?_|refine Z71 ?_|refine Z81 fun _ => ?_|refine Z84 fun _ => ?_
    |refine Z85 fun _ => ?_)
  rename_i bb
  refine st_own_nil 3 ?_
  obtain ⟨A, hA⟩ : ∃ A, A = V xs := ⟨_, rfl⟩
  rw [← hA]
  have p1 : 2 ^ (w - 1) ≤ 128 := Nat.pow_le_pow_right (n := 2) (by decide) (show w - 1 ≤ 7 by omega)
  have p2 : 2 ^ w ≤ 256 := Nat.pow_le_pow_right (n := 2) (by decide) hw8
  have hAl : A < 2 ^ (64 * xs.length) := by have := V_lt hx; rw [W_2, ← Nat.pow_mul, ← hA] at this; exact this
  refine st_loop (ι := Nat × Value × Nat) (fun q => q.2.2 ≤ 1 ∧ A / 2 ^ (w * q.1) + q.2.2 = Lk w A q.1 ∧ (w * q.1 < 64 * xs.length + w ∨ (q.2.2 = 0 ∧ w * q.1 < 64 * xs.length + 2 * w)))
    (fun q => [(1, N .i64 w), (2, pt bb 0), (6, .func (.func 84) #[] #[pt bb 0]), (7, q.2.1), (8, N .i64 q.2.2), (9, N .i64 (w * q.1))])
    (fun q => [.sl q.2.1 (IV (outs w A q.1)) 3, .blk bb s 22]) (fun q => (64 * xs.length - w * q.1) * 2 + q.2.2) (0, .slice none 0 0, 0) ⟨by decide, by simp [Lk], by left; simp; omega⟩ (by repeat (first | apply subL.nil | refine subL.cons (by rfl) ?_)) (by repeat (first | apply SubW.nil | refine SubW.cons (by repeat (first | apply Find.here | apply Find.there)) ?_)) ?_
  rintro ⟨k, u, c⟩ ⟨hc, hL, hb⟩
  simp only at hc hL hb ⊢
  obtain ⟨Q, hQ⟩ : ∃ Q, Q = A / 2 ^ (w * k) := ⟨_, rfl⟩
  rw [← hQ] at hL
  have hk1 : w * k + w = w * (k + 1) := rfl
  have hQ1 : A / 2 ^ (w * (k + 1)) = Q / 2 ^ w := by rw [hQ, Nat.div_div_eq_div_mul, ← Nat.pow_add]; rfl
  have p0 := (pow_half hw).2
  have hkb : k ≤ w * k := Nat.le_mul_of_pos_left k (by omega)
  have hq0 : 64 * xs.length ≤ w * k → Q = 0 := fun h => by rw [hQ]; exact Nat.div_eq_of_lt (Nat.lt_of_lt_of_le hAl (Nat.pow_le_pow_right (by decide) h))
  have hq1 : 64 * xs.length ≤ w * k → Q % 2 ^ w = 0 := fun h => by rw [hq0 h, Nat.zero_mod]
  by_cases hc1 : w * k < 64 * xs.length
  · repeat (first
      |(refine st_cmp (r := true) (by rfl) (by rfl) (cmpN_t (by first | (simp only [cmpP]; done) | (simp only [cmpP]; omega))) (by rfl) ?_)
      |(refine st_cmp (r := false) (by rfl) (by rfl) (cmpN_f (by first | (simp only [cmpQ]; done) | (simp only [cmpQ]; omega))) (by rfl) ?_)
      |(refine st_load_s (by rfl) (by repeat (first | apply Find.here | apply Find.there)) hs (by rfl) (by rfl) ?_)|refine Z01 ?_|refine Z02 ?_|refine Z03 ?_
      |refine Z04 ?_|refine Z05 ?_|refine Z06 ?_|refine Z07 ?_|refine Z08 ?_|refine Z09 ?_|refine Z10 ?_|refine Z11 ?_|refine Z12 ?_|refine Z13 ?_|refine Z14 ?_
      |refine Z15 ?_|refine Z16 ?_|refine Z17 ?_|refine Z18 ?_|refine Z20 ?_|refine Z21 ?_|refine Z22 ?_|refine Z23 ?_|refine Z24 ?_|refine Z25 ?_|refine Z26 ?_
      |refine Z27 ?_|refine Z28 ?_|refine Z36 ?_|refine Z43 ?_|refine Z48 ?_|refine Z49 ?_|refine Z50 ?_|refine Z51 ?_|refine Z52 ?_|refine Z53 ?_|refine Z58 ?_
      |refine Z59 ?_|refine Z62 ?_|refine Z63 ?_|refine Z64 ?_|refine Z67 ?_|refine Z70 ?_|refine Z71 ?_|refine Z81 fun _ => ?_|refine Z84 fun _ => ?_
      |refine Z85 fun _ => ?_)
    refine st_loop (ι := Nat) (fun i => i ≤ w) (fun i => [(1, N .i64 w), (2, pt bb 0), (6, .func (.func 84) #[] #[pt bb 0]), (7, u), (9, N .i64 (w * k)), (10, N .i64 (Q % 2 ^ i + c)), (32, N .i64 w), (33, N .i64 i)])
      (fun i => [.sl u (IV (outs w A k)) 3, .blk bb s 22]) (fun i => w - i) 0 (Nat.zero_le _) (by rw [show Q % 2 ^ 0 + c = c by rw [Nat.pow_zero, Nat.mod_one, Nat.zero_add]]; exact (by repeat (first | apply subL.nil | refine subL.cons (by rfl) ?_))) (by repeat (first | apply SubW.nil | refine SubW.cons (by repeat (first | apply Find.here | apply Find.there)) ?_)) ?_
    intro i hi
    by_cases hiw : i < w
    · have hbs : Q % 2 ^ i + c + Q / 2 ^ i % 2 * 2 ^ i = Q % 2 ^ (i + 1) + c := by rw [bit_sum]; omega
      have hQi : A / 2 ^ (w * k + i) = Q / 2 ^ i := by rw [hQ, Nat.div_div_eq_div_mul, ← Nat.pow_add]
      have hp7 : 2 ^ i ≤ 128 := Nat.pow_le_pow_right (n := 2) (by decide) (show i ≤ 7 by omega)
      have hb128 : Q / 2 ^ i % 2 * 2 ^ i ≤ 128 := by
        have : Q / 2 ^ i % 2 < 2 := Nat.mod_lt _ (by decide)
        have := Nat.mul_le_mul (show Q / 2 ^ i % 2 ≤ 1 by omega) hp7
        omega
      have hq128 : Q % 2 ^ i < 128 := Nat.lt_of_lt_of_le (Nat.mod_lt _ (Nat.two_pow_pos i)) hp7
      repeat (first
        |(refine st_cmp (r := true) (by rfl) (by rfl) (cmpN_t (by first | (simp only [cmpP]; done) | (simp only [cmpP]; omega))) (by rfl) ?_)
        |((refine st_call (by rfl) (by rfl) (by rfl) (bit_spec s bb 22 xs (w * k + i) hx hs (by omega)) (.cons (by repeat (first | apply Find.here | apply Find.there)) .nil) (fun w hw => hr.toWin hw (.cons (by repeat (first | apply Find.here | apply Find.there)) .nil)) (by rfl) ?_; rintro _ _ ⟨rfl, rfl⟩; rw [← hA, hQi]))
        |(refine st_ishl (by first | (with_reducible apply evc) | rfl) (by rfl) (by omega) (by omega) (by rfl) ?_)|(rw [hbs])|refine Z01 ?_|refine Z02 ?_|refine Z03 ?_
        |refine Z04 ?_|refine Z05 ?_|refine Z06 ?_|refine Z07 ?_|refine Z08 ?_|refine Z09 ?_|refine Z10 ?_|refine Z11 ?_|refine Z12 ?_|refine Z13 ?_|refine Z14 ?_
        |refine Z15 ?_|refine Z16 ?_|refine Z17 ?_|refine Z18 ?_|refine Z20 ?_|refine Z21 ?_|refine Z22 ?_|refine Z23 ?_|refine Z24 ?_|refine Z25 ?_|refine Z26 ?_
        |refine Z27 ?_|refine Z28 ?_|refine Z36 ?_|refine Z43 ?_|refine Z48 ?_|refine Z49 ?_|refine Z50 ?_|refine Z51 ?_|refine Z52 ?_|refine Z53 ?_|refine Z58 ?_
        |refine Z59 ?_|refine Z62 ?_|refine Z63 ?_|refine Z64 ?_|refine Z67 ?_|refine Z70 ?_|refine Z71 ?_|refine Z81 fun _ => ?_|refine Z84 fun _ => ?_
        |refine Z85 fun _ => ?_)
      exact st_round (i + 1) (by omega) (by omega) (by repeat (first | apply subL.nil | refine subL.cons (by rfl) ?_)) (by repeat (first | apply SubW.nil | refine SubW.cons (by repeat (first | apply Find.here | apply Find.there)) ?_))
    · have hie : w = i := by omega
      subst hie
      obtain ⟨g1, g2⟩ := win_step (Q := Q) hw hc
      have hqB : Q % 2 ^ w < 2 ^ w := Nat.mod_lt _ (Nat.two_pow_pos w)
      have hq1' : Nat → 64 * xs.length ≤ w * k → Q % 2 ^ w = 0 := fun _ => hq1
      clear hq1 hq0
      repeat (first
        |(refine st_cmp (r := false) (by rfl) (by rfl) (cmpN_f (by first | (simp only [cmpQ]; done) | (simp only [cmpQ]; omega))) (by rfl) ?_)
        |(refine st_ishl (by first | (with_reducible apply evc) | rfl) (by rfl) (by omega) (by omega) (by rfl) ?_)|(rw [Nat.one_mul])|refine Z01 ?_|refine Z02 ?_
        |refine Z03 ?_|refine Z04 ?_|refine Z05 ?_|refine Z06 ?_|refine Z07 ?_|refine Z08 ?_|refine Z09 ?_|refine Z10 ?_|refine Z11 ?_|refine Z12 ?_|refine Z13 ?_
        |refine Z14 ?_|refine Z15 ?_|refine Z16 ?_|refine Z17 ?_|refine Z18 ?_|refine Z20 ?_|refine Z21 ?_|refine Z22 ?_|refine Z23 ?_|refine Z24 ?_|refine Z25 ?_
        |refine Z26 ?_|refine Z27 ?_|refine Z28 ?_|refine Z36 ?_|refine Z43 ?_|refine Z48 ?_|refine Z49 ?_|refine Z50 ?_|refine Z51 ?_|refine Z52 ?_|refine Z53 ?_
        |refine Z58 ?_|refine Z59 ?_|refine Z62 ?_|refine Z63 ?_|refine Z64 ?_|refine Z67 ?_|refine Z70 ?_|refine Z71 ?_|refine Z81 fun _ => ?_|refine Z84 fun _ => ?_
        |refine Z85 fun _ => ?_)
      refine st_cond (by rfl) (fun hd => ?_) (fun hd => ?_)
      · rw [if_pos hd] at g1 g2
        repeat (first
          |(refine st_ishl (by first | (with_reducible apply evc) | rfl) (by rfl) (by omega) (by omega) (by rfl) ?_)|(rw [Nat.one_mul])|refine Z01 ?_|refine Z02 ?_
          |refine Z03 ?_|refine Z04 ?_|refine Z05 ?_|refine Z06 ?_|refine Z07 ?_|refine Z08 ?_|refine Z09 ?_|refine Z10 ?_|refine Z11 ?_|refine Z12 ?_|refine Z13 ?_
          |refine Z14 ?_|refine Z15 ?_|refine Z16 ?_|refine Z17 ?_|refine Z18 ?_|refine Z20 ?_|refine Z21 ?_|refine Z22 ?_|refine Z23 ?_|refine Z24 ?_|refine Z25 ?_
          |refine Z26 ?_|refine Z27 ?_|refine Z28 ?_|refine Z36 ?_|refine Z43 ?_|refine Z48 ?_|refine Z49 ?_|refine Z50 ?_|refine Z51 ?_|refine Z52 ?_|refine Z53 ?_
          |refine Z58 ?_|refine Z59 ?_|refine Z62 ?_|refine Z63 ?_|refine Z64 ?_|refine Z67 ?_|refine Z70 ?_|refine Z71 ?_|refine Z81 fun _ => ?_|refine Z84 fun _ => ?_
          |refine Z85 fun _ => ?_)
        have hol := outs_len w A k
        have hq1 : 64 * xs.length ≤ w * k → Q % 2 ^ w = 0 := hq1' 0
        rw [show Int.ofNat (Q % 2 ^ w + c) - Int.ofNat (2 ^ w) = wdig w (Lk w A k) from (by rw [← hL]; exact g1)]
        repeat (first
          |(rw [hk1])|(refine st_ishl (by first | (with_reducible apply evc) | rfl) (by rfl) (by omega) (by omega) (by rfl) ?_)
          |(refine st_buildSliceI (vs := [wdig w (Lk w A k)]) (by rfl) (by rfl) (by rfl) (by rfl) (by rfl) (by rfl) (by rfl) (by rfl) fun _ => ?_)
          |(refine st_appendI (ys := [wdig w (Lk w A k)]) (by rfl) (by rfl) (by repeat (first | apply Find.here | apply Find.there)) (RdW.own (by repeat (first | apply Find.here | apply Find.there))) (by rfl) (by rfl) (by rfl) (by rfl) (by rw [hol]; simp; omega) (by rw [hol]; simp; omega) (by rfl) fun _ => ?_)
          |refine Z01 ?_|refine Z02 ?_|refine Z03 ?_|refine Z04 ?_|refine Z05 ?_|refine Z06 ?_|refine Z07 ?_|refine Z08 ?_|refine Z09 ?_|refine Z10 ?_|refine Z11 ?_
          |refine Z12 ?_|refine Z13 ?_|refine Z14 ?_|refine Z15 ?_|refine Z16 ?_|refine Z17 ?_|refine Z18 ?_|refine Z20 ?_|refine Z21 ?_|refine Z22 ?_|refine Z23 ?_
          |refine Z24 ?_|refine Z25 ?_|refine Z26 ?_|refine Z27 ?_|refine Z28 ?_|refine Z36 ?_|refine Z43 ?_|refine Z48 ?_|refine Z49 ?_|refine Z50 ?_|refine Z51 ?_
          |refine Z52 ?_|refine Z53 ?_|refine Z58 ?_|refine Z59 ?_|refine Z62 ?_|refine Z63 ?_|refine Z64 ?_|refine Z67 ?_|refine Z70 ?_|refine Z71 ?_
          |refine Z81 fun _ => ?_|refine Z84 fun _ => ?_|refine Z85 fun _ => ?_)
        rename_i s57 s58
        exact st_round (k + 1, s58, 1) ⟨by simp, by rw [hQ1]; show _ = wnext w (Lk w A k); rw [← hL]; exact g2, by show w * (k + 1) < 64 * xs.length + w ∨ (1 = 0 ∧ w * (k + 1) < 64 * xs.length + 2 * w); omega⟩ (by show (64 * xs.length - w * (k + 1)) * 2 + 1 < (64 * xs.length - w * k) * 2 + c; omega) (by repeat (first | apply subL.nil | refine subL.cons (by rfl) ?_)) (by repeat (first | apply SubW.nil | refine SubW.cons (by repeat (first | apply Find.here | apply Find.there)) ?_))
      · rw [if_neg hd] at g1 g2
        have hol := outs_len w A k
        have hq1 : 64 * xs.length ≤ w * k → Q % 2 ^ w = 0 := hq1' 0
        rw [show N .i64 (Q % 2 ^ w + c) = Value.int .i64 (wdig w (Lk w A k)) from (by rw [← hL]; exact congrArg _ g1)]
        repeat (first
          |(rw [hk1])|(refine st_ishl (by first | (with_reducible apply evc) | rfl) (by rfl) (by omega) (by omega) (by rfl) ?_)
          |(refine st_buildSliceI (vs := [wdig w (Lk w A k)]) (by rfl) (by rfl) (by rfl) (by rfl) (by rfl) (by rfl) (by rfl) (by rfl) fun _ => ?_)
          |(refine st_appendI (ys := [wdig w (Lk w A k)]) (by rfl) (by rfl) (by repeat (first | apply Find.here | apply Find.there)) (RdW.own (by repeat (first | apply Find.here | apply Find.there))) (by rfl) (by rfl) (by rfl) (by rfl) (by rw [hol]; simp; omega) (by rw [hol]; simp; omega) (by rfl) fun _ => ?_)
          |refine Z01 ?_|refine Z02 ?_|refine Z03 ?_|refine Z04 ?_|refine Z05 ?_|refine Z06 ?_|refine Z07 ?_|refine Z08 ?_|refine Z09 ?_|refine Z10 ?_|refine Z11 ?_
          |refine Z12 ?_|refine Z13 ?_|refine Z14 ?_|refine Z15 ?_|refine Z16 ?_|refine Z17 ?_|refine Z18 ?_|refine Z20 ?_|refine Z21 ?_|refine Z22 ?_|refine Z23 ?_
          |refine Z24 ?_|refine Z25 ?_|refine Z26 ?_|refine Z27 ?_|refine Z28 ?_|refine Z36 ?_|refine Z43 ?_|refine Z48 ?_|refine Z49 ?_|refine Z50 ?_|refine Z51 ?_
          |refine Z52 ?_|refine Z53 ?_|refine Z58 ?_|refine Z59 ?_|refine Z62 ?_|refine Z63 ?_|refine Z64 ?_|refine Z67 ?_|refine Z70 ?_|refine Z71 ?_
          |refine Z81 fun _ => ?_|refine Z84 fun _ => ?_|refine Z85 fun _ => ?_)
        rename_i s57 s58
        exact st_round (k + 1, s58, 0) ⟨by simp, by rw [hQ1]; show _ = wnext w (Lk w A k); rw [← hL]; exact g2, by show w * (k + 1) < 64 * xs.length + w ∨ (0 = 0 ∧ w * (k + 1) < 64 * xs.length + 2 * w); omega⟩ (by show (64 * xs.length - w * (k + 1)) * 2 + 0 < (64 * xs.length - w * k) * 2 + c; omega) (by repeat (first | apply subL.nil | refine subL.cons (by rfl) ?_)) (by repeat (first | apply SubW.nil | refine SubW.cons (by repeat (first | apply Find.here | apply Find.there)) ?_))
  · by_cases hc2 : c = 1
    · repeat (first
        |(refine st_cmp (r := true) (by rfl) (by rfl) (cmpN_t (by first | (simp only [cmpP]; done) | (simp only [cmpP]; omega))) (by rfl) ?_)
        |(refine st_cmp (r := false) (by rfl) (by rfl) (cmpN_f (by first | (simp only [cmpQ]; done) | (simp only [cmpQ]; omega))) (by rfl) ?_)
        |(refine st_load_s (by rfl) (by repeat (first | apply Find.here | apply Find.there)) hs (by rfl) (by rfl) ?_)|refine Z01 ?_|refine Z02 ?_|refine Z03 ?_
        |refine Z04 ?_|refine Z05 ?_|refine Z06 ?_|refine Z07 ?_|refine Z08 ?_|refine Z09 ?_|refine Z10 ?_|refine Z11 ?_|refine Z12 ?_|refine Z13 ?_|refine Z14 ?_
        |refine Z15 ?_|refine Z16 ?_|refine Z17 ?_|refine Z18 ?_|refine Z20 ?_|refine Z21 ?_|refine Z22 ?_|refine Z23 ?_|refine Z24 ?_|refine Z25 ?_|refine Z26 ?_
        |refine Z27 ?_|refine Z28 ?_|refine Z36 ?_|refine Z43 ?_|refine Z48 ?_|refine Z49 ?_|refine Z50 ?_|refine Z51 ?_|refine Z52 ?_|refine Z53 ?_|refine Z58 ?_
        |refine Z59 ?_|refine Z62 ?_|refine Z63 ?_|refine Z64 ?_|refine Z67 ?_|refine Z70 ?_|refine Z71 ?_|refine Z81 fun _ => ?_|refine Z84 fun _ => ?_
        |refine Z85 fun _ => ?_)
      refine st_loop (ι := Nat) (fun i => i ≤ w) (fun i => [(1, N .i64 w), (2, pt bb 0), (6, .func (.func 84) #[] #[pt bb 0]), (7, u), (9, N .i64 (w * k)), (10, N .i64 (Q % 2 ^ i + c)), (32, N .i64 w), (33, N .i64 i)])
        (fun i => [.sl u (IV (outs w A k)) 3, .blk bb s 22]) (fun i => w - i) 0 (Nat.zero_le _) (by rw [show Q % 2 ^ 0 + c = c by rw [Nat.pow_zero, Nat.mod_one, Nat.zero_add]]; exact (by repeat (first | apply subL.nil | refine subL.cons (by rfl) ?_))) (by repeat (first | apply SubW.nil | refine SubW.cons (by repeat (first | apply Find.here | apply Find.there)) ?_)) ?_
      intro i hi
      by_cases hiw : i < w
      · have hbs : Q % 2 ^ i + c + Q / 2 ^ i % 2 * 2 ^ i = Q % 2 ^ (i + 1) + c := by rw [bit_sum]; omega
        have hQi : A / 2 ^ (w * k + i) = Q / 2 ^ i := by rw [hQ, Nat.div_div_eq_div_mul, ← Nat.pow_add]
        have hp7 : 2 ^ i ≤ 128 := Nat.pow_le_pow_right (n := 2) (by decide) (show i ≤ 7 by omega)
        have hb128 : Q / 2 ^ i % 2 * 2 ^ i ≤ 128 := by
          have : Q / 2 ^ i % 2 < 2 := Nat.mod_lt _ (by decide)
          have := Nat.mul_le_mul (show Q / 2 ^ i % 2 ≤ 1 by omega) hp7
          omega
        have hq128 : Q % 2 ^ i < 128 := Nat.lt_of_lt_of_le (Nat.mod_lt _ (Nat.two_pow_pos i)) hp7
        repeat (first
          |(refine st_cmp (r := true) (by rfl) (by rfl) (cmpN_t (by first | (simp only [cmpP]; done) | (simp only [cmpP]; omega))) (by rfl) ?_)
          |((refine st_call (by rfl) (by rfl) (by rfl) (bit_spec s bb 22 xs (w * k + i) hx hs (by omega)) (.cons (by repeat (first | apply Find.here | apply Find.there)) .nil) (fun w hw => hr.toWin hw (.cons (by repeat (first | apply Find.here | apply Find.there)) .nil)) (by rfl) ?_; rintro _ _ ⟨rfl, rfl⟩; rw [← hA, hQi]))
          |(refine st_ishl (by first | (with_reducible apply evc) | rfl) (by rfl) (by omega) (by omega) (by rfl) ?_)|(rw [hbs])|refine Z01 ?_|refine Z02 ?_|refine Z03 ?_
          |refine Z04 ?_|refine Z05 ?_|refine Z06 ?_|refine Z07 ?_|refine Z08 ?_|refine Z09 ?_|refine Z10 ?_|refine Z11 ?_|refine Z12 ?_|refine Z13 ?_|refine Z14 ?_
          |refine Z15 ?_|refine Z16 ?_|refine Z17 ?_|refine Z18 ?_|refine Z20 ?_|refine Z21 ?_|refine Z22 ?_|refine Z23 ?_|refine Z24 ?_|refine Z25 ?_|refine Z26 ?_
          |refine Z27 ?_|refine Z28 ?_|refine Z36 ?_|refine Z43 ?_|refine Z48 ?_|refine Z49 ?_|refine Z50 ?_|refine Z51 ?_|refine Z52 ?_|refine Z53 ?_|refine Z58 ?_
          |refine Z59 ?_|refine Z62 ?_|refine Z63 ?_|refine Z64 ?_|refine Z67 ?_|refine Z70 ?_|refine Z71 ?_|refine Z81 fun _ => ?_|refine Z84 fun _ => ?_
          |refine Z85 fun _ => ?_)
        exact st_round (i + 1) (by omega) (by omega) (by repeat (first | apply subL.nil | refine subL.cons (by rfl) ?_)) (by repeat (first | apply SubW.nil | refine SubW.cons (by repeat (first | apply Find.here | apply Find.there)) ?_))
      · have hie : w = i := by omega
        subst hie
        obtain ⟨g1, g2⟩ := win_step (Q := Q) hw hc
        have hqB : Q % 2 ^ w < 2 ^ w := Nat.mod_lt _ (Nat.two_pow_pos w)
        have hq1' : Nat → 64 * xs.length ≤ w * k → Q % 2 ^ w = 0 := fun _ => hq1
        clear hq1 hq0
        repeat (first
          |(refine st_cmp (r := false) (by rfl) (by rfl) (cmpN_f (by first | (simp only [cmpQ]; done) | (simp only [cmpQ]; omega))) (by rfl) ?_)
          |(refine st_ishl (by first | (with_reducible apply evc) | rfl) (by rfl) (by omega) (by omega) (by rfl) ?_)|(rw [Nat.one_mul])|refine Z01 ?_|refine Z02 ?_
          |refine Z03 ?_|refine Z04 ?_|refine Z05 ?_|refine Z06 ?_|refine Z07 ?_|refine Z08 ?_|refine Z09 ?_|refine Z10 ?_|refine Z11 ?_|refine Z12 ?_|refine Z13 ?_
          |refine Z14 ?_|refine Z15 ?_|refine Z16 ?_|refine Z17 ?_|refine Z18 ?_|refine Z20 ?_|refine Z21 ?_|refine Z22 ?_|refine Z23 ?_|refine Z24 ?_|refine Z25 ?_
          |refine Z26 ?_|refine Z27 ?_|refine Z28 ?_|refine Z36 ?_|refine Z43 ?_|refine Z48 ?_|refine Z49 ?_|refine Z50 ?_|refine Z51 ?_|refine Z52 ?_|refine Z53 ?_
          |refine Z58 ?_|refine Z59 ?_|refine Z62 ?_|refine Z63 ?_|refine Z64 ?_|refine Z67 ?_|refine Z70 ?_|refine Z71 ?_|refine Z81 fun _ => ?_|refine Z84 fun _ => ?_
          |refine Z85 fun _ => ?_)
        refine st_cond (by rfl) (fun hd => ?_) (fun hd => ?_)
        · rw [if_pos hd] at g1 g2
          repeat (first
            |(refine st_ishl (by first | (with_reducible apply evc) | rfl) (by rfl) (by omega) (by omega) (by rfl) ?_)|(rw [Nat.one_mul])|refine Z01 ?_|refine Z02 ?_
            |refine Z03 ?_|refine Z04 ?_|refine Z05 ?_|refine Z06 ?_|refine Z07 ?_|refine Z08 ?_|refine Z09 ?_|refine Z10 ?_|refine Z11 ?_|refine Z12 ?_|refine Z13 ?_
            |refine Z14 ?_|refine Z15 ?_|refine Z16 ?_|refine Z17 ?_|refine Z18 ?_|refine Z20 ?_|refine Z21 ?_|refine Z22 ?_|refine Z23 ?_|refine Z24 ?_|refine Z25 ?_
            |refine Z26 ?_|refine Z27 ?_|refine Z28 ?_|refine Z36 ?_|refine Z43 ?_|refine Z48 ?_|refine Z49 ?_|refine Z50 ?_|refine Z51 ?_|refine Z52 ?_|refine Z53 ?_
            |refine Z58 ?_|refine Z59 ?_|refine Z62 ?_|refine Z63 ?_|refine Z64 ?_|refine Z67 ?_|refine Z70 ?_|refine Z71 ?_|refine Z81 fun _ => ?_|refine Z84 fun _ => ?_
            |refine Z85 fun _ => ?_)
          have hol := outs_len w A k
          have hq1 : 64 * xs.length ≤ w * k → Q % 2 ^ w = 0 := hq1' 0
          rw [show Int.ofNat (Q % 2 ^ w + c) - Int.ofNat (2 ^ w) = wdig w (Lk w A k) from (by rw [← hL]; exact g1)]
          repeat (first
            |(rw [hk1])|(refine st_ishl (by first | (with_reducible apply evc) | rfl) (by rfl) (by omega) (by omega) (by rfl) ?_)
            |(refine st_buildSliceI (vs := [wdig w (Lk w A k)]) (by rfl) (by rfl) (by rfl) (by rfl) (by rfl) (by rfl) (by rfl) (by rfl) fun _ => ?_)
            |(refine st_appendI (ys := [wdig w (Lk w A k)]) (by rfl) (by rfl) (by repeat (first | apply Find.here | apply Find.there)) (RdW.own (by repeat (first | apply Find.here | apply Find.there))) (by rfl) (by rfl) (by rfl) (by rfl) (by rw [hol]; simp; omega) (by rw [hol]; simp; omega) (by rfl) fun _ => ?_)
            |refine Z01 ?_|refine Z02 ?_|refine Z03 ?_|refine Z04 ?_|refine Z05 ?_|refine Z06 ?_|refine Z07 ?_|refine Z08 ?_|refine Z09 ?_|refine Z10 ?_|refine Z11 ?_
            |refine Z12 ?_|refine Z13 ?_|refine Z14 ?_|refine Z15 ?_|refine Z16 ?_|refine Z17 ?_|refine Z18 ?_|refine Z20 ?_|refine Z21 ?_|refine Z22 ?_|refine Z23 ?_
            |refine Z24 ?_|refine Z25 ?_|refine Z26 ?_|refine Z27 ?_|refine Z28 ?_|refine Z36 ?_|refine Z43 ?_|refine Z48 ?_|refine Z49 ?_|refine Z50 ?_|refine Z51 ?_
            |refine Z52 ?_|refine Z53 ?_|refine Z58 ?_|refine Z59 ?_|refine Z62 ?_|refine Z63 ?_|refine Z64 ?_|refine Z67 ?_|refine Z70 ?_|refine Z71 ?_
            |refine Z81 fun _ => ?_|refine Z84 fun _ => ?_|refine Z85 fun _ => ?_)
          rename_i s57 s58
          exact st_round (k + 1, s58, 1) ⟨by simp, by rw [hQ1]; show _ = wnext w (Lk w A k); rw [← hL]; exact g2, by show w * (k + 1) < 64 * xs.length + w ∨ (1 = 0 ∧ w * (k + 1) < 64 * xs.length + 2 * w); omega⟩ (by show (64 * xs.length - w * (k + 1)) * 2 + 1 < (64 * xs.length - w * k) * 2 + c; omega) (by repeat (first | apply subL.nil | refine subL.cons (by rfl) ?_)) (by repeat (first | apply SubW.nil | refine SubW.cons (by repeat (first | apply Find.here | apply Find.there)) ?_))
        · rw [if_neg hd] at g1 g2
          have hol := outs_len w A k
          have hq1 : 64 * xs.length ≤ w * k → Q % 2 ^ w = 0 := hq1' 0
          rw [show N .i64 (Q % 2 ^ w + c) = Value.int .i64 (wdig w (Lk w A k)) from (by rw [← hL]; exact congrArg _ g1)]
          repeat (first
            |(rw [hk1])|(refine st_ishl (by first | (with_reducible apply evc) | rfl) (by rfl) (by omega) (by omega) (by rfl) ?_)
            |(refine st_buildSliceI (vs := [wdig w (Lk w A k)]) (by rfl) (by rfl) (by rfl) (by rfl) (by rfl) (by rfl) (by rfl) (by rfl) fun _ => ?_)
            |(refine st_appendI (ys := [wdig w (Lk w A k)]) (by rfl) (by rfl) (by repeat (first | apply Find.here | apply Find.there)) (RdW.own (by repeat (first | apply Find.here | apply Find.there))) (by rfl) (by rfl) (by rfl) (by rfl) (by rw [hol]; simp; omega) (by rw [hol]; simp; omega) (by rfl) fun _ => ?_)
            |refine Z01 ?_|refine Z02 ?_|refine Z03 ?_|refine Z04 ?_|refine Z05 ?_|refine Z06 ?_|refine Z07 ?_|refine Z08 ?_|refine Z09 ?_|refine Z10 ?_|refine Z11 ?_
            |refine Z12 ?_|refine Z13 ?_|refine Z14 ?_|refine Z15 ?_|refine Z16 ?_|refine Z17 ?_|refine Z18 ?_|refine Z20 ?_|refine Z21 ?_|refine Z22 ?_|refine Z23 ?_
            |refine Z24 ?_|refine Z25 ?_|refine Z26 ?_|refine Z27 ?_|refine Z28 ?_|refine Z36 ?_|refine Z43 ?_|refine Z48 ?_|refine Z49 ?_|refine Z50 ?_|refine Z51 ?_
            |refine Z52 ?_|refine Z53 ?_|refine Z58 ?_|refine Z59 ?_|refine Z62 ?_|refine Z63 ?_|refine Z64 ?_|refine Z67 ?_|refine Z70 ?_|refine Z71 ?_
            |refine Z81 fun _ => ?_|refine Z84 fun _ => ?_|refine Z85 fun _ => ?_)
          rename_i s57 s58
          exact st_round (k + 1, s58, 0) ⟨by simp, by rw [hQ1]; show _ = wnext w (Lk w A k); rw [← hL]; exact g2, by show w * (k + 1) < 64 * xs.length + w ∨ (0 = 0 ∧ w * (k + 1) < 64 * xs.length + 2 * w); omega⟩ (by show (64 * xs.length - w * (k + 1)) * 2 + 0 < (64 * xs.length - w * k) * 2 + c; omega) (by repeat (first | apply subL.nil | refine subL.cons (by rfl) ?_)) (by repeat (first | apply SubW.nil | refine SubW.cons (by repeat (first | apply Find.here | apply Find.there)) ?_))
    · have hc0 : c = 0 := by omega
      have hLk : Lk w A k = 0 := by rw [← hL, hq0 (by omega), hc0]
      have hkk : k < 50000000 := by omega
      clear hL hb hQ hQ1 hq0 hq1 hk1
      repeat (first
        |(refine st_cmp (r := false) (by rfl) (by rfl) (cmpN_f (by first | (simp only [cmpQ]; done) | (simp only [cmpQ]; omega))) (by rfl) ?_)
        |(refine st_load_s (by rfl) (by repeat (first | apply Find.here | apply Find.there)) hs (by rfl) (by rfl) ?_)|refine Z01 ?_|refine Z02 ?_|refine Z03 ?_
        |refine Z04 ?_|refine Z05 ?_|refine Z06 ?_|refine Z07 ?_|refine Z08 ?_|refine Z09 ?_|refine Z10 ?_|refine Z11 ?_|refine Z12 ?_|refine Z13 ?_|refine Z14 ?_
        |refine Z15 ?_|refine Z16 ?_|refine Z17 ?_|refine Z18 ?_|refine Z20 ?_|refine Z21 ?_|refine Z22 ?_|refine Z23 ?_|refine Z24 ?_|refine Z25 ?_|refine Z26 ?_
        |refine Z27 ?_|refine Z28 ?_|refine Z36 ?_|refine Z43 ?_|refine Z48 ?_|refine Z49 ?_|refine Z50 ?_|refine Z51 ?_|refine Z52 ?_|refine Z53 ?_|refine Z58 ?_
        |refine Z59 ?_|refine Z62 ?_|refine Z63 ?_|refine Z64 ?_|refine Z67 ?_|refine Z70 ?_|refine Z71 ?_|refine Z81 fun _ => ?_|refine Z84 fun _ => ?_
        |refine Z85 fun _ => ?_)
      refine st_loop (ι := Nat × Value) (fun q => Lk w A q.1 = 0 ∧ q.1 ≤ k) (fun q => [(7, q.2)]) (fun q => [.sl q.2 (IV (outs w A q.1)) 3]) (fun q => q.1) (k, u) ⟨hLk, Nat.le_refl _⟩ (by repeat (first | apply subL.nil | refine subL.cons (by rfl) ?_)) (by repeat (first | apply SubW.nil | refine SubW.cons (by repeat (first | apply Find.here | apply Find.there)) ?_)) ?_
      rintro ⟨m, v⟩ ⟨hm, hmk⟩
      simp only at hm hmk ⊢
      have hol := outs_len w A m
      have hmb : m < 50000000 := by omega
      rcases Nat.eq_zero_or_pos m with h0 | h0
      · repeat (first
          |(refine st_cmp (r := false) (by rfl) (by rfl) (cmpN_f (by first | (simp only [cmpQ]; done) | (simp only [cmpQ]; omega))) (by rfl) ?_)|(rw [hol])
          |(refine st_lenI (by rfl) (by rfl) (RdW.own (by repeat (first | apply Find.here | apply Find.there))) (by rfl) ?_)|refine Z01 ?_|refine Z02 ?_|refine Z03 ?_
          |refine Z04 ?_|refine Z05 ?_|refine Z06 ?_|refine Z07 ?_|refine Z08 ?_|refine Z09 ?_|refine Z10 ?_|refine Z11 ?_|refine Z12 ?_|refine Z13 ?_|refine Z14 ?_
          |refine Z15 ?_|refine Z16 ?_|refine Z17 ?_|refine Z18 ?_|refine Z20 ?_|refine Z21 ?_|refine Z22 ?_|refine Z23 ?_|refine Z24 ?_|refine Z25 ?_|refine Z26 ?_
          |refine Z27 ?_|refine Z28 ?_|refine Z36 ?_|refine Z43 ?_|refine Z48 ?_|refine Z49 ?_|refine Z50 ?_|refine Z51 ?_|refine Z52 ?_|refine Z53 ?_|refine Z58 ?_
          |refine Z59 ?_|refine Z62 ?_|refine Z63 ?_|refine Z64 ?_|refine Z67 ?_|refine Z70 ?_|refine Z71 ?_|refine Z81 fun _ => ?_|refine Z84 fun _ => ?_
          |refine Z85 fun _ => ?_)
        rw [outs_digits hw hm (.inl h0)]
        exact Ze2 fun _ hw => post_of hw (Wout := [.sl v (IV (digits w A)) 3]) (by exact (by repeat (first | apply SubW.nil | refine SubW.cons (by repeat (first | apply Find.here | apply Find.there)) ?_))) ⟨_, rfl, rfl⟩
      · obtain ⟨j, rfl⟩ : ∃ j, m = j + 1 := ⟨m - 1, by omega⟩
        have hg : (outs w A (j + 1)).getD j 0 = wdig w (Lk w A j) := by
          have := outs_len w A j
          rw [outs, List.getD_eq_getElem?_getD, List.getElem?_append_right (by omega), this, Nat.sub_self]; rfl
        by_cases hz : wdig w (Lk w A j) = 0
        · have hz' : cmpZ .eql (wdig w (Lk w A j)) (Int.ofNat 0) = some true := by simp [cmpZ, hz]
          repeat (first
            |(refine st_cmp (r := true) (by rfl) (by rfl) (cmpN_t (by first | (simp only [cmpP]; done) | (simp only [cmpP]; omega))) (by rfl) ?_)|(rw [hol])|(rw [hg])
            |(rw [Nat.add_sub_cancel])|(refine st_lenI (by rfl) (by rfl) (RdW.own (by repeat (first | apply Find.here | apply Find.there))) (by rfl) ?_)
            |(refine st_iaI (by rfl) (by rfl) (by rfl) (by rfl) (RdW.own (by repeat (first | apply Find.here | apply Find.there))) (by omega) (by rfl) ?_)
            |(refine st_load_I (by rfl) (RdW.own (by repeat (first | apply Find.here | apply Find.there))) (by omega) (by rfl) (by rfl) ?_)
            |(refine st_cmpz (by rfl) (by rfl) hz' (by rfl) ?_)
            |(refine st_slice (xs := IV (outs w A (j + 1))) (lo := 0) (hi := j) (by rfl) (by rfl) (by rfl) (RdW.own (by repeat (first | apply Find.here | apply Find.there))) (by rfl) (by rfl) (Nat.zero_le _) (by rw [IV_len]; omega) (by rfl) ?_)
            |refine Z01 ?_|refine Z02 ?_|refine Z03 ?_|refine Z04 ?_|refine Z05 ?_|refine Z06 ?_|refine Z07 ?_|refine Z08 ?_|refine Z09 ?_|refine Z10 ?_|refine Z11 ?_
            |refine Z12 ?_|refine Z13 ?_|refine Z14 ?_|refine Z15 ?_|refine Z16 ?_|refine Z17 ?_|refine Z18 ?_|refine Z20 ?_|refine Z21 ?_|refine Z22 ?_|refine Z23 ?_
            |refine Z24 ?_|refine Z25 ?_|refine Z26 ?_|refine Z27 ?_|refine Z28 ?_|refine Z36 ?_|refine Z43 ?_|refine Z48 ?_|refine Z49 ?_|refine Z50 ?_|refine Z51 ?_
            |refine Z52 ?_|refine Z53 ?_|refine Z58 ?_|refine Z59 ?_|refine Z62 ?_|refine Z63 ?_|refine Z64 ?_|refine Z67 ?_|refine Z70 ?_|refine Z71 ?_
            |refine Z81 fun _ => ?_|refine Z84 fun _ => ?_|refine Z85 fun _ => ?_)
          refine st_resl (s := v) 0 j (by repeat (first | apply Find.here | apply Find.there)) (Nat.zero_le _) (by rw [IV_len]; omega) ?_
          rw [List.drop_zero, IV_take, outs_take]
          exact st_round (j, sub v 0 j) ⟨wdig_zero hz hm, by simp only; omega⟩ (by simp only; omega) (by repeat (first | apply subL.nil | refine subL.cons (by rfl) ?_)) (by repeat (first | apply SubW.nil | refine SubW.cons (by repeat (first | apply Find.here | apply Find.there)) ?_))
        · have hz' : cmpZ .eql (wdig w (Lk w A j)) (Int.ofNat 0) = some false := by simp [cmpZ, hz]
          repeat (first
            |(refine st_cmp (r := true) (by rfl) (by rfl) (cmpN_t (by first | (simp only [cmpP]; done) | (simp only [cmpP]; omega))) (by rfl) ?_)|(rw [hol])|(rw [hg])
            |(rw [Nat.add_sub_cancel])|(refine st_lenI (by rfl) (by rfl) (RdW.own (by repeat (first | apply Find.here | apply Find.there))) (by rfl) ?_)
            |(refine st_iaI (by rfl) (by rfl) (by rfl) (by rfl) (RdW.own (by repeat (first | apply Find.here | apply Find.there))) (by omega) (by rfl) ?_)
            |(refine st_load_I (by rfl) (RdW.own (by repeat (first | apply Find.here | apply Find.there))) (by omega) (by rfl) (by rfl) ?_)
            |(refine st_cmpz (by rfl) (by rfl) hz' (by rfl) ?_)|refine Z01 ?_|refine Z02 ?_|refine Z03 ?_|refine Z04 ?_|refine Z05 ?_|refine Z06 ?_|refine Z07 ?_
            |refine Z08 ?_|refine Z09 ?_|refine Z10 ?_|refine Z11 ?_|refine Z12 ?_|refine Z13 ?_|refine Z14 ?_|refine Z15 ?_|refine Z16 ?_|refine Z17 ?_|refine Z18 ?_
            |refine Z20 ?_|refine Z21 ?_|refine Z22 ?_|refine Z23 ?_|refine Z24 ?_|refine Z25 ?_|refine Z26 ?_|refine Z27 ?_|refine Z28 ?_|refine Z36 ?_|refine Z43 ?_
            |refine Z48 ?_|refine Z49 ?_|refine Z50 ?_|refine Z51 ?_|refine Z52 ?_|refine Z53 ?_|refine Z58 ?_|refine Z59 ?_|refine Z62 ?_|refine Z63 ?_|refine Z64 ?_
            |refine Z67 ?_|refine Z70 ?_|refine Z71 ?_|refine Z81 fun _ => ?_|refine Z84 fun _ => ?_|refine Z85 fun _ => ?_)
          rw [outs_digits hw hm (.inr (fun h => hz (by rw [Nat.add_sub_cancel] at h; rw [h, wdig_0])))]
          exact Ze2 fun _ hw => post_of hw (Wout := [.sl v (IV (digits w A)) 3]) (by exact (by repeat (first | apply SubW.nil | refine SubW.cons (by repeat (first | apply Find.here | apply Find.there)) ?_))) ⟨_, rfl, rfl⟩
end Go.Proofs.Ytbjfjkmidhfgcaa.L
