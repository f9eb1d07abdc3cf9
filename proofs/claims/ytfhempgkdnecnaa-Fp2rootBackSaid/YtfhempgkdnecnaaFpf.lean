/- The numbers modulo p: the document's answer's walks. Conditions: as each statement says. -/
import Derived.Test.YtfhempgkdnecnaaAuto
import Derived.Test.YtfhempgkdnecnaaPerm
import Derived.Test.YtfhempgkdnecnaaMore
import Derived.Test.YtfhempgkdnecnaaProg
import Derived.Test.YtfhempgkdnecnaaNum
import Derived.Test.YtfhempgkdnecnaaLmb
import Derived.Test.YtfhempgkdnecnaaLmd
import Derived.Test.YtfhempgkdnecnaaLmk
import Derived.Test.YtfhempgkdnecnaaScope
import Derived.Test.YtfhempgkdnecnaaJoin
import Derived.Test.YtfhempgkdnecnaaLma
import Derived.Test.YtfhempgkdnecnaaLmf
import Derived.Test.YtfhempgkdnecnaaGho
import Derived.Test.YtfhempgkdnecnaaBld
import Derived.Test.YtfhempgkdnecnaaArr
import Derived.Test.YtfhempgkdnecnaaClr
import Derived.Test.YtfhempgkdnecnaaPq
import Derived.Test.YtfhempgkdnecnaaKf
import Derived.Test.YtfhempgkdnecnaaFpa
import Derived.Test.YtfhempgkdnecnaaFpb
import Derived.Test.YtfhempgkdnecnaaFpc
import Derived.Test.YtfhempgkdnecnaaFpd
import Derived.Test.YtfhempgkdnecnaaFpe
namespace Go.Proofs.Ytfhempgkdnecnaa.L
open Go Go.Proofs
set_option maxRecDepth 100000
attribute [local irreducible] Code.wp wpList Af bodyPost L.Go
open Num
attribute [local simp] D_len

theorem qP_spec : Spec Try.prog 114 [] NoPre [] (IsV (LV .u64 (D 6 p))) := by
  refine mk_spec Try.func114 rfl rfl rfl fun w _ => ?_
  repeat (first
    |(refine st_alloc (v := LV .u64 (List.replicate 6 0)) (by rfl) (by rfl) fun _ => ?_)
    |(refine st_buildP (kk := .u64) (vs := [13402431016077863595, 2210141511517208575, 7435674573564081700, 7239337960414712511, 5412103778470702295, 1873798617647539866]) (by rfl) (by rfl) (by rfl) (by rfl) (by rfl) (by rfl) (by rfl) (by rfl) ?_)
    |refine Z03 ?_|refine Z04 ?_|refine Z05 ?_|refine Z06 ?_|refine Z07 ?_|refine Z08 ?_|refine Z09 ?_|refine Z10 ?_|refine Z11 ?_|refine Z12 ?_|refine Z13 ?_
    |refine Z14 ?_|refine Z29 ?_|refine Z30 ?_|refine Z31 ?_|refine Z32 ?_|refine Z65 ?_|refine Z82 fun _ => ?_)
  refine Zec fun _ hw => post_of hw SubW.nil ⟨?_, rfl⟩
  rw [← p_lit]; rfl

theorem less_word {a b c s : Nat} (ha : a < 18446744073709551616) (hb : b ≤ 1) (hc : c < 18446744073709551616) (hs : s ≤ 340282366920938463426481119284349108225) :
    ∃ d b' c', d = (a + 18446744073709551616 - (s % 18446744073709551616 + c) % 18446744073709551616 - b) % 18446744073709551616 ∧ b' = (if a < (s % 18446744073709551616 + c) % 18446744073709551616 + b then 1 else 0) ∧
      c' = (s / 18446744073709551616 + (s % 18446744073709551616 + c) / 18446744073709551616) % 18446744073709551616 ∧ d + s + c + b = a + 18446744073709551616 * (b' + c') ∧ b' ≤ 1 ∧ c' < 18446744073709551616 ∧ d < 18446744073709551616 := by
  refine ⟨_, _, _, rfl, rfl, rfl, ?_, ?_, Nat.mod_lt _ (by decide), Nat.mod_lt _ (by decide)⟩
  · split <;> omega
  · split <;> omega
theorem less_step {V0 V' A P q Wi Wj d s b c b' c' Am a Pm pd : Nat} (hs : s = pd * q) (hWj : Wj = Wi * 18446744073709551616) (h1 : V0 + Pm * q = Am + Wi * (b + c)) (h2 : d + s + c + b = a + 18446744073709551616 * (b' + c')) (hV : V' = V0 + Wi * d)
    (hA : A = Am + Wi * a) (hP : P = Pm + Wi * pd) : V' + P * q = A + Wj * (b' + c') := by
  have h3 : Wi * (d + s + c + b) = Wi * (a + 18446744073709551616 * (b' + c')) := by rw [h2]
  subst hs hWj hV hA hP
  simp only [Nat.mul_add, Nat.add_mul, Nat.mul_assoc] at *
  omega

set_option maxHeartbeats 4000000 in
theorem qless_spec {A q : Nat} (hA : A < W ^ 7) (hq : q < 18446744073709551616) (h : p * q ≤ A) :
    Spec Try.prog 141 [LV .u64 (D 7 A), N .u64 q] NoPre [] (IsV (LV .u64 (D 7 (A - p * q)))) := by
  refine mk_spec Try.func141 rfl rfl rfl fun w _ => ?_
  have hla := D_len 7 A
  have hlp := D_len 6 p
  repeat (first
    |(refine st_callV (by rfl) (by rfl) (by rfl) (qP_spec) (fun _ _ => trivial) (by rfl) ?_)
    |(refine st_alloc (v := LV .u64 (List.replicate 7 0)) (by rfl) (by rfl) fun _ => ?_)
    |(refine st_alloc (v := LV .u64 (List.replicate 6 0)) (by rfl) (by rfl) fun _ => ?_)|refine Z01 ?_|refine Z02 ?_|refine Z03 ?_|refine Z04 ?_|refine Z05 ?_
    |refine Z06 ?_|refine Z07 ?_|refine Z08 ?_|refine Z09 ?_|refine Z10 ?_|refine Z11 ?_|refine Z12 ?_|refine Z13 ?_|refine Z14 ?_|refine Z15 ?_|refine Z17 ?_
    |refine Z18 ?_|refine Z19 ?_|refine Z22 ?_|refine Z23 ?_|refine Z24 ?_|refine Z25 ?_|refine Z26 ?_|refine Z27 ?_|refine Z28 ?_|refine Z29 ?_|refine Z30 ?_
    |refine Z31 ?_|refine Z32 ?_|refine Z33 ?_|refine Z67 ?_|refine Z70 ?_|refine Z81 fun _ => ?_|refine Z82 fun _ => ?_)
  rename_i b2 b4 b5 b8
  refine st_loop (ι := (Nat × List Nat) × (Nat × Nat)) (fun s => s.1.1 ≤ 7 ∧ s.1.2.length = s.1.1 ∧ Lt 18446744073709551616 s.1.2 ∧ s.2.1 < 18446744073709551616 ∧ s.2.2 ≤ 1 ∧ V s.1.2 + p % W ^ s.1.1 * q = A % W ^ s.1.1 + W ^ s.1.1 * (s.2.2 + s.2.1))
    (fun s => [(1, N .u64 q), (2, pt b2 0), (4, pt b4 0), (5, pt b5 0), (6, N .u64 s.2.1), (7, N .u64 s.2.2), (8, pt b8 0), (9, N .i64 s.1.1)])
    (fun s => [.blk b8 (LV .u64 (s.1.2 ++ (List.replicate 7 0).drop s.1.1)) 113, .blk b5 (LV .u64 (D 6 p)) 24, .blk b4 (LV .u64 (List.replicate 7 0)) 113, .blk b2 (LV .u64 (D 7 A)) 113]) (fun s => 7 - s.1.1)
    ((0, []), (0, 0)) ⟨by decide, rfl, Lt.nil _, by decide, by decide, by simp [Nat.mod_one, V_nil]⟩ (by repeat (first | apply subL.nil | refine subL.cons (by rfl) ?_)) (by repeat (first | apply SubW.nil | refine SubW.cons (by repeat (first | apply Find.here | apply Find.there)) ?_)) ?_
  rintro ⟨⟨i, P⟩, ⟨c, b⟩⟩ ⟨hi, hl, hP, hc, hb, hV⟩
  simp only at hi hl hP hc hb hV ⊢
  have hol : (P ++ (List.replicate 7 0).drop i).length = 7 := by simp [hl]; omega
  have hda := (D_lt 7 A).getD (by decide) i
  have hga := D_getD' hA i
  by_cases h7 : i < 7
  · have hst : ∀ y, (P ++ (List.replicate 7 0).drop i).set i y = P ++ [y] ++ (List.replicate 7 0).drop (i + 1) := fun y => drop_set hl (by simpa using h7) y
    have hmA := W_mod_succ A i
    rw [← hga] at hmA
    by_cases h6 : i < 6
    · have hdp := (D_lt 6 p).getD (by decide) i
      have hmp := W_mod_succ p i
      rw [← D_getD' p_lt i] at hmp
      obtain ⟨d, b', c', hd, hb', hc', he, hb2, hc2, hd2⟩ := less_word (a := (D 7 A).getD i 0) hda hb hc (mul_bound hdp hq)
      have hV2 := less_step rfl (Nat.pow_succ ..) hV he (V_snoc hl d) hmA hmp
      have hP2 : Lt 18446744073709551616 (P ++ [d]) := hP.append (Lt.cons hd2 (Lt.nil _))
      clear hV he hmA hmp
      repeat (first
        |(refine st_cmp (r := true) (by rfl) (by rfl) (cmpN_t (by first | (simp only [cmpP]; done) | (simp only [cmpP]; omega))) (by rfl) ?_)
        |(refine st_callV (by rfl) (by rfl) (by rfl) (mul64_spec ((D 6 p).getD i 0) q hdp hq) (fun _ _ => trivial) (by rfl) ?_)
        |(refine st_callX (by rfl) (by rfl) (by rfl) (add64X0 _ _) (by rfl) ?_)|(refine st_callX (by rfl) (by rfl) (by rfl) (sub64X _ _ _ hb) (by rfl) ?_)|(rw [← hc'])
        |(rw [← hd])|(rw [← hb'])|(rw [hst])|refine Z01 ?_|refine Z02 ?_|refine Z03 ?_|refine Z04 ?_|refine Z05 ?_|refine Z06 ?_|refine Z07 ?_|refine Z08 ?_|refine Z09 ?_
        |refine Z10 ?_|refine Z11 ?_|refine Z12 ?_|refine Z13 ?_|refine Z14 ?_|refine Z15 ?_|refine Z17 ?_|refine Z18 ?_|refine Z19 ?_|refine Z22 ?_|refine Z23 ?_
        |refine Z24 ?_|refine Z25 ?_|refine Z26 ?_|refine Z27 ?_|refine Z28 ?_|refine Z29 ?_|refine Z30 ?_|refine Z31 ?_|refine Z32 ?_|refine Z33 ?_|refine Z67 ?_
        |refine Z70 ?_|refine Z81 fun _ => ?_|refine Z82 fun _ => ?_)
      exact st_round ((i + 1, P ++ [d]), (c', b')) ⟨by simp only; omega, by simp [hl], hP2, hc2, hb2, hV2⟩ (by simp only; omega) (by repeat (first | apply subL.nil | refine subL.cons (by rfl) ?_)) (by repeat (first | apply SubW.nil | refine SubW.cons (by repeat (first | apply Find.here | apply Find.there)) ?_))
    · have hie : i = 6 := by omega
      subst hie
      obtain ⟨d, b', c', hd, hb', hc', he, hb2, hc2, hd2⟩ := less_word (a := (D 7 A).getD 6 0) (s := 0) hda hb hc (by decide)
      have hV2 := less_step (pd := 0) (Nat.zero_mul q).symm (Nat.pow_succ ..) hV he (V_snoc hl d) hmA (P := p % W ^ (6 + 1)) (by rw [Nat.mod_eq_of_lt p_lt, Nat.mul_zero, Nat.add_zero]; exact Nat.mod_eq_of_lt (Nat.lt_trans p_lt (by decide)))
      have hP2 : Lt 18446744073709551616 (P ++ [d]) := hP.append (Lt.cons hd2 (Lt.nil _))
      rw [Nat.zero_mod] at hd hb' hc'
      rw [Nat.zero_div] at hc'
      clear hV he hmA
      repeat (first
        |(refine st_cmp (r := true) (by rfl) (by rfl) (cmpN_t (by first | (simp only [cmpP]; done) | (simp only [cmpP]; omega))) (by rfl) ?_)
        |(refine st_cmp (r := false) (by rfl) (by rfl) (cmpN_f (by first | (simp only [cmpQ]; done) | (simp only [cmpQ]; omega))) (by rfl) ?_)
        |(refine st_callX (by rfl) (by rfl) (by rfl) (add64X0 0 c) (by rfl) ?_)|(refine st_callX (by rfl) (by rfl) (by rfl) (sub64X _ _ _ hb) (by rfl) ?_)|(rw [← hc'])
        |(rw [← hd])|(rw [← hb'])|(rw [hst])|refine Z01 ?_|refine Z02 ?_|refine Z03 ?_|refine Z04 ?_|refine Z05 ?_|refine Z06 ?_|refine Z07 ?_|refine Z08 ?_|refine Z09 ?_
        |refine Z10 ?_|refine Z11 ?_|refine Z12 ?_|refine Z13 ?_|refine Z14 ?_|refine Z15 ?_|refine Z17 ?_|refine Z18 ?_|refine Z19 ?_|refine Z22 ?_|refine Z23 ?_
        |refine Z24 ?_|refine Z25 ?_|refine Z26 ?_|refine Z27 ?_|refine Z28 ?_|refine Z29 ?_|refine Z30 ?_|refine Z31 ?_|refine Z32 ?_|refine Z33 ?_|refine Z67 ?_
        |refine Z70 ?_|refine Z81 fun _ => ?_|refine Z82 fun _ => ?_)
      exact st_round ((7, P ++ [d]), (c', b')) ⟨by simp only; omega, by simp [hl], hP2, hc2, hb2, hV2⟩ (by simp only; omega) (by repeat (first | apply subL.nil | refine subL.cons (by rfl) ?_)) (by repeat (first | apply SubW.nil | refine SubW.cons (by repeat (first | apply Find.here | apply Find.there)) ?_))
  · have hie : i = 7 := by omega
    subst hie
    have hpW : p < W ^ 7 := Nat.lt_trans p_lt (by decide)
    rw [Nat.mod_eq_of_lt hpW, Nat.mod_eq_of_lt hA] at hV
    have hPl : V P < W ^ 7 := by have := V_lt hP; rwa [hl] at this
    have h0 : b + c = 0 := by
      rcases Nat.eq_zero_or_pos (b + c) with h0 | h0
      · exact h0
      · have : W ^ 7 * 1 ≤ W ^ 7 * (b + c) := Nat.mul_le_mul_left _ h0
        omega
    have hPD : P = D 7 (A - p * q) := by
      refine D_of_V hP hl ?_
      rw [h0] at hV
      omega
    have hfin : P ++ (List.replicate 7 0).drop 7 = D 7 (A - p * q) := by rw [← hPD]; simp
    have hlz := D_len 7 (A - p * q)
    rw [hfin] at *
    clear hV h0 hPD
    repeat (first
      |(refine st_cmp (r := false) (by rfl) (by rfl) (cmpN_f (by first | (simp only [cmpQ]; done) | (simp only [cmpQ]; omega))) (by rfl) ?_)|refine Z01 ?_|refine Z02 ?_
      |refine Z03 ?_|refine Z04 ?_|refine Z05 ?_|refine Z06 ?_|refine Z07 ?_|refine Z08 ?_|refine Z09 ?_|refine Z10 ?_|refine Z11 ?_|refine Z12 ?_|refine Z13 ?_
      |refine Z14 ?_|refine Z15 ?_|refine Z17 ?_|refine Z18 ?_|refine Z19 ?_|refine Z22 ?_|refine Z23 ?_|refine Z24 ?_|refine Z25 ?_|refine Z26 ?_|refine Z27 ?_
      |refine Z28 ?_|refine Z29 ?_|refine Z30 ?_|refine Z31 ?_|refine Z32 ?_|refine Z33 ?_|refine Z67 ?_|refine Z70 ?_|refine Z81 fun _ => ?_|refine Z82 fun _ => ?_)
    refine Zec fun _ hw => post_of hw SubW.nil ⟨?_, rfl⟩
    rfl

theorem div_next (A i : Nat) : A / W ^ i = A / W ^ (i + 1) * W + A / W ^ i % W := by
  rw [Nat.pow_succ, ← Nat.div_div_eq_div_mul, Nat.mul_comm, Nat.div_add_mod]
theorem below_lt {A B i : Nat} (h : A / W ^ (i + 1) = B / W ^ (i + 1)) (hne : A / W ^ i % W ≠ B / W ^ i % W) : decide (A / W ^ i % W < B / W ^ i % W) = decide (A < B) := by
  have h1 := div_next A i
  have h2 := div_next B i
  rw [h] at h1
  generalize A / W ^ i % W = x at *
  generalize B / W ^ i % W = y at *
  generalize B / W ^ (i + 1) * W = z at *
  refine decide_eq_decide.2 ⟨fun hl => ?_, fun hl => ?_⟩
  · rcases Nat.lt_or_ge A B with h3 | h3
    · exact h3
    · have := Nat.div_le_div_right (c := W ^ i) h3
      omega
  · have := Nat.div_le_div_right (c := W ^ i) (Nat.le_of_lt hl)
    omega
theorem qbelow_spec {a : Nat} (ha : a < W ^ 6) : Spec Try.prog 112 [LV .u64 (D 6 a)] NoPre [] (IsV (.bool (decide (a < p)))) := by
  refine mk_spec Try.func112 rfl rfl rfl fun w _ => ?_
  have hla := D_len 6 a
  have hlp := D_len 6 p
  repeat (first
    |(refine st_callV (by rfl) (by rfl) (by rfl) (qP_spec) (fun _ _ => trivial) (by rfl) ?_)
    |(refine st_alloc (v := LV .u64 (List.replicate 6 0)) (by rfl) (by rfl) fun _ => ?_)|refine Z01 ?_|refine Z02 ?_|refine Z03 ?_|refine Z04 ?_|refine Z05 ?_
    |refine Z06 ?_|refine Z07 ?_|refine Z08 ?_|refine Z09 ?_|refine Z10 ?_|refine Z11 ?_|refine Z12 ?_|refine Z13 ?_|refine Z14 ?_|refine Z16 ?_|refine Z17 ?_
    |refine Z18 ?_|refine Z22 ?_|refine Z23 ?_|refine Z24 ?_|refine Z25 ?_|refine Z26 ?_|refine Z27 ?_|refine Z28 ?_|refine Z29 ?_|refine Z30 ?_|refine Z31 ?_
    |refine Z32 ?_|refine Z67 ?_|refine Z71 ?_|refine Z81 fun _ => ?_|refine Z82 fun _ => ?_)
  rename_i b1 b3
  refine st_loop (ι := Nat) (fun j => j ≤ 6 ∧ a / W ^ j = p / W ^ j) (fun j => [(1, pt b1 0), (3, pt b3 0), (4, .int .i64 ((j : Int) - 1))])
    (fun j => [.blk b1 (LV .u64 (D 6 a)) 24, .blk b3 (LV .u64 (D 6 p)) 24]) (fun j => j) 6 ⟨Nat.le_refl 6, by rw [Nat.div_eq_of_lt ha, Nat.div_eq_of_lt p_lt]⟩ (by repeat (first | apply subL.nil | refine subL.cons (by rfl) ?_)) (by repeat (first | apply SubW.nil | refine SubW.cons (by repeat (first | apply Find.here | apply Find.there)) ?_)) ?_
  rintro j ⟨hj, he⟩
  repeat (first
    |refine Z01 ?_|refine Z02 ?_|refine Z03 ?_|refine Z04 ?_|refine Z05 ?_|refine Z06 ?_|refine Z07 ?_|refine Z08 ?_|refine Z09 ?_|refine Z10 ?_|refine Z11 ?_
    |refine Z12 ?_|refine Z13 ?_|refine Z14 ?_|refine Z16 ?_|refine Z17 ?_|refine Z18 ?_|refine Z22 ?_|refine Z23 ?_|refine Z24 ?_|refine Z25 ?_|refine Z26 ?_
    |refine Z27 ?_|refine Z28 ?_|refine Z29 ?_|refine Z30 ?_|refine Z31 ?_|refine Z32 ?_|refine Z67 ?_|refine Z71 ?_|refine Z81 fun _ => ?_|refine Z82 fun _ => ?_)
  refine st_cond (by rfl) (fun h => ?_) (fun h => ?_)
  · have h0 : (0 : Int) ≤ (j : Int) - 1 := h
    obtain ⟨i, rfl⟩ : ∃ i, j = i + 1 := ⟨j - 1, by omega⟩
    rw [show ((i + 1 : Nat) : Int) - 1 = Int.ofNat i by simp]
    have hga := D_getD' ha i
    have hgp := D_getD' p_lt i
    repeat (first
      |refine Z01 ?_|refine Z02 ?_|refine Z03 ?_|refine Z04 ?_|refine Z05 ?_|refine Z06 ?_|refine Z07 ?_|refine Z08 ?_|refine Z09 ?_|refine Z10 ?_|refine Z11 ?_
      |refine Z12 ?_|refine Z13 ?_|refine Z14 ?_|refine Z16 ?_|refine Z17 ?_|refine Z18 ?_|refine Z22 ?_|refine Z23 ?_|refine Z24 ?_|refine Z25 ?_|refine Z26 ?_
      |refine Z27 ?_|refine Z28 ?_|refine Z29 ?_|refine Z30 ?_|refine Z31 ?_|refine Z32 ?_|refine Z67 ?_|refine Z71 ?_|refine Z81 fun _ => ?_|refine Z82 fun _ => ?_)
    refine st_draw1 (by rfl) ?_
    repeat (first
      |refine Zqf (by intro _ _ _;(first
        |refine Z01 ?_|refine Z02 ?_|refine Z16 ?_|refine Z17 ?_|refine Z18 ?_|refine Z22 ?_|refine Z23 ?_|refine Z71 ?_);exact Zq) ?_
      |refine Zqp (by intro _ _ _;(first
        |refine Z24 ?_|refine Z25 ?_|refine Z26 ?_|refine Z27 ?_|refine Z28 ?_|refine Z67 ?_|refine Z23 ?_);exact Zq) ?_
      |refine Zqe (by intro _ _ _;(first
        |refine Z29 ?_|refine Z30 ?_|refine Z31 ?_|refine Z32 ?_);exact Zqq) ?_
      |refine Zqn ?_)
    refine Zq0 ?_ (by kernel_rfl)
    repeat (first
      |refine Z01 ?_|refine Z02 ?_|refine Z03 ?_|refine Z04 ?_|refine Z05 ?_|refine Z06 ?_|refine Z07 ?_|refine Z08 ?_|refine Z09 ?_|refine Z10 ?_|refine Z11 ?_
      |refine Z12 ?_|refine Z13 ?_|refine Z14 ?_|refine Z16 ?_|refine Z17 ?_|refine Z18 ?_|refine Z22 ?_|refine Z23 ?_|refine Z24 ?_|refine Z25 ?_|refine Z26 ?_
      |refine Z27 ?_|refine Z28 ?_|refine Z29 ?_|refine Z30 ?_|refine Z31 ?_|refine Z32 ?_|refine Z67 ?_|refine Z71 ?_|refine Z81 fun _ => ?_|refine Z82 fun _ => ?_)
    refine st_cond (by rfl) (fun hne => ?_) (fun hne => ?_)
    · rw [hga, hgp] at hne
      have hr := below_lt he hne
      rw [← hga, ← hgp] at hr
      repeat (first
        |refine Z01 ?_|refine Z02 ?_|refine Z03 ?_|refine Z04 ?_|refine Z05 ?_|refine Z06 ?_|refine Z07 ?_|refine Z08 ?_|refine Z09 ?_|refine Z10 ?_|refine Z11 ?_
        |refine Z12 ?_|refine Z13 ?_|refine Z14 ?_|refine Z16 ?_|refine Z17 ?_|refine Z18 ?_|refine Z22 ?_|refine Z23 ?_|refine Z24 ?_|refine Z25 ?_|refine Z26 ?_
        |refine Z27 ?_|refine Z28 ?_|refine Z29 ?_|refine Z30 ?_|refine Z31 ?_|refine Z32 ?_|refine Z67 ?_|refine Z71 ?_|refine Z81 fun _ => ?_|refine Z82 fun _ => ?_)
      refine st_draw1 (by rfl) ?_
      repeat (first
        |refine Zqf (by intro _ _ _;(first
          |refine Z01 ?_|refine Z02 ?_|refine Z16 ?_|refine Z17 ?_|refine Z18 ?_|refine Z22 ?_|refine Z23 ?_|refine Z71 ?_);exact Zq) ?_
        |refine Zqp (by intro _ _ _;(first
          |refine Z24 ?_|refine Z25 ?_|refine Z26 ?_|refine Z27 ?_|refine Z28 ?_|refine Z67 ?_|refine Z23 ?_);exact Zq) ?_
        |refine Zqe (by intro _ _ _;(first
          |refine Z29 ?_|refine Z30 ?_|refine Z31 ?_|refine Z32 ?_);exact Zqq) ?_
        |refine Zqn ?_)
      refine Zq0 ?_ (by kernel_rfl)
      rw [hr]
      repeat (first
        |refine Z01 ?_|refine Z02 ?_|refine Z03 ?_|refine Z04 ?_|refine Z05 ?_|refine Z06 ?_|refine Z07 ?_|refine Z08 ?_|refine Z09 ?_|refine Z10 ?_|refine Z11 ?_
        |refine Z12 ?_|refine Z13 ?_|refine Z14 ?_|refine Z16 ?_|refine Z17 ?_|refine Z18 ?_|refine Z22 ?_|refine Z23 ?_|refine Z24 ?_|refine Z25 ?_|refine Z26 ?_
        |refine Z27 ?_|refine Z28 ?_|refine Z29 ?_|refine Z30 ?_|refine Z31 ?_|refine Z32 ?_|refine Z67 ?_|refine Z71 ?_|refine Z81 fun _ => ?_|refine Z82 fun _ => ?_)
      refine Ze1 fun _ hw => post_of hw SubW.nil ⟨?_, rfl⟩
      rfl
    · have hne2 : a / W ^ i = p / W ^ i := by
        rw [hga, hgp] at hne
        rw [div_next a, div_next p, he, Classical.not_not.1 hne]
      repeat (first
        |refine Z01 ?_|refine Z02 ?_|refine Z03 ?_|refine Z04 ?_|refine Z05 ?_|refine Z06 ?_|refine Z07 ?_|refine Z08 ?_|refine Z09 ?_|refine Z10 ?_|refine Z11 ?_
        |refine Z12 ?_|refine Z13 ?_|refine Z14 ?_|refine Z16 ?_|refine Z17 ?_|refine Z18 ?_|refine Z22 ?_|refine Z23 ?_|refine Z24 ?_|refine Z25 ?_|refine Z26 ?_
        |refine Z27 ?_|refine Z28 ?_|refine Z29 ?_|refine Z30 ?_|refine Z31 ?_|refine Z32 ?_|refine Z67 ?_|refine Z71 ?_|refine Z81 fun _ => ?_|refine Z82 fun _ => ?_)
      refine st_round i ⟨by omega, hne2⟩ (by omega) ?_ (by repeat (first | apply SubW.nil | refine SubW.cons (by repeat (first | apply Find.here | apply Find.there)) ?_))
      rw [show ((i : Int) - 1) = Int.ofNat i - Int.ofNat 1 from rfl]
      exact (by repeat (first | apply subL.nil | refine subL.cons (by rfl) ?_))
  · have hp0 : ¬ (0 : Int) ≤ (j : Int) - 1 := h
    have hj0 : j = 0 := by omega
    subst hj0
    rw [Nat.pow_zero, Nat.div_one, Nat.div_one] at he
    have hr : decide (a < p) = false := decide_eq_false (by omega)
    repeat (first
      |refine Z01 ?_|refine Z02 ?_|refine Z03 ?_|refine Z04 ?_|refine Z05 ?_|refine Z06 ?_|refine Z07 ?_|refine Z08 ?_|refine Z09 ?_|refine Z10 ?_|refine Z11 ?_
      |refine Z12 ?_|refine Z13 ?_|refine Z14 ?_|refine Z16 ?_|refine Z17 ?_|refine Z18 ?_|refine Z22 ?_|refine Z23 ?_|refine Z24 ?_|refine Z25 ?_|refine Z26 ?_
      |refine Z27 ?_|refine Z28 ?_|refine Z29 ?_|refine Z30 ?_|refine Z31 ?_|refine Z32 ?_|refine Z67 ?_|refine Z71 ?_|refine Z81 fun _ => ?_|refine Z82 fun _ => ?_)
    refine Ze1 fun _ hw => post_of hw SubW.nil ⟨?_, rfl⟩
    rw [hr]

set_option maxHeartbeats 2000000 in
theorem qminus_spec {a b : Nat} (ha : a < W ^ 6) (hb : b ≤ a) : Spec Try.prog 113 [LV .u64 (D 6 a), LV .u64 (D 6 b)] NoPre [] (IsV (LV .u64 (D 6 (a - b)))) := by
  refine mk_spec Try.func113 rfl rfl rfl fun w _ => ?_
  have hl0 := fun x => D_len 6 x
  have hla := hl0 a
  have hlb := hl0 b
  repeat (first
    |(refine st_alloc (v := LV .u64 (List.replicate 6 0)) (by rfl) (by rfl) fun _ => ?_)|refine Z01 ?_|refine Z02 ?_|refine Z03 ?_|refine Z04 ?_|refine Z05 ?_
    |refine Z06 ?_|refine Z07 ?_|refine Z08 ?_|refine Z09 ?_|refine Z10 ?_|refine Z11 ?_|refine Z12 ?_|refine Z13 ?_|refine Z14 ?_|refine Z15 ?_|refine Z17 ?_
    |refine Z18 ?_|refine Z19 ?_|refine Z22 ?_|refine Z23 ?_|refine Z24 ?_|refine Z25 ?_|refine Z26 ?_|refine Z27 ?_|refine Z28 ?_|refine Z29 ?_|refine Z30 ?_
    |refine Z31 ?_|refine Z32 ?_|refine Z67 ?_|refine Z70 ?_|refine Z81 fun _ => ?_|refine Z82 fun _ => ?_)
  rename_i b2 b3 b4 b5
  refine st_loop (ι := Nat) (fun i => i ≤ 6) (fun i => [(2, pt b2 0), (3, pt b3 0), (4, pt b4 0), (5, pt b5 0), (6, N .u64 (crun subg (D 6 a) (D 6 b) i).2), (7, N .i64 i)])
    (fun i => [.blk b5 (LV .u64 ((crun subg (D 6 a) (D 6 b) i).1 ++ List.replicate (6 - i) 0)) 24, .blk b3 (LV .u64 (D 6 b)) 24, .blk b4 (LV .u64 (List.replicate 6 0)) 24, .blk b2 (LV .u64 (D 6 a)) 24]) (fun i => 6 - i) 0 (by omega) (by rw [crun_0]; exact (by repeat (first | apply subL.nil | refine subL.cons (by rfl) ?_))) (by rw [crun_0]; exact (by repeat (first | apply SubW.nil | refine SubW.cons (by repeat (first | apply Find.here | apply Find.there)) ?_))) ?_
  intro i hi
  have hc1 := crun_subD_le 6 a b i
  have hl := crun_len subg (D 6 a) (D 6 b) i
  have hol : ((crun subg (D 6 a) (D 6 b) i).1 ++ List.replicate (6 - i) 0).length = 6 := by simp; omega
  by_cases h : i < 6
  · repeat (first
      |(refine st_cmp (r := true) (by rfl) (by rfl) (cmpN_t (by first | (simp only [cmpP]; done) | (simp only [cmpP]; omega))) (by rfl) ?_)|refine Z01 ?_|refine Z02 ?_
      |refine Z03 ?_|refine Z04 ?_|refine Z05 ?_|refine Z06 ?_|refine Z07 ?_|refine Z08 ?_|refine Z09 ?_|refine Z10 ?_|refine Z11 ?_|refine Z12 ?_|refine Z13 ?_
      |refine Z14 ?_|refine Z15 ?_|refine Z17 ?_|refine Z18 ?_|refine Z19 ?_|refine Z22 ?_|refine Z23 ?_|refine Z24 ?_|refine Z25 ?_|refine Z26 ?_|refine Z27 ?_
      |refine Z28 ?_|refine Z29 ?_|refine Z30 ?_|refine Z31 ?_|refine Z32 ?_|refine Z67 ?_|refine Z70 ?_|refine Z81 fun _ => ?_|refine Z82 fun _ => ?_)
    refine st_draw1 (by rfl) ?_
    repeat (first
      |refine Zqf (by intro _ _ _;(first
        |(refine st_callX (by rfl) (by rfl) (by rfl) (sub64X _ _ _ hc1) (by rfl) ?_)|refine Z01 ?_|refine Z02 ?_|refine Z15 ?_|refine Z17 ?_|refine Z18 ?_|refine Z19 ?_
        |refine Z22 ?_|refine Z23 ?_|refine Z70 ?_);exact Zq) ?_
      |refine Zqp (by intro _ _ _;(first
        |refine Z24 ?_|refine Z25 ?_|refine Z26 ?_|refine Z27 ?_|refine Z28 ?_|refine Z67 ?_|refine Z23 ?_);exact Zq) ?_
      |refine Zqe (by intro _ _ _;(first
        |refine Z29 ?_|refine Z30 ?_|refine Z31 ?_|refine Z32 ?_);exact Zqq) ?_
      |refine Zqn ?_)
    refine Zq0 ?_ (by kernel_rfl)
    rw [← subg_fst, ← subg_snd, ← crun_snd]
    repeat (first
      |(rw [crun_new subg (D 6 a) (D 6 b) i 6 h])|refine Z01 ?_|refine Z02 ?_|refine Z03 ?_|refine Z04 ?_|refine Z05 ?_|refine Z06 ?_|refine Z07 ?_|refine Z08 ?_
      |refine Z09 ?_|refine Z10 ?_|refine Z11 ?_|refine Z12 ?_|refine Z13 ?_|refine Z14 ?_|refine Z15 ?_|refine Z17 ?_|refine Z18 ?_|refine Z19 ?_|refine Z22 ?_
      |refine Z23 ?_|refine Z24 ?_|refine Z25 ?_|refine Z26 ?_|refine Z27 ?_|refine Z28 ?_|refine Z29 ?_|refine Z30 ?_|refine Z31 ?_|refine Z32 ?_|refine Z67 ?_
      |refine Z70 ?_|refine Z81 fun _ => ?_|refine Z82 fun _ => ?_)
    exact st_round (i + 1) (by omega) (by omega) (by repeat (first | apply subL.nil | refine subL.cons (by rfl) ?_)) (by repeat (first | apply SubW.nil | refine SubW.cons (by repeat (first | apply Find.here | apply Find.there)) ?_))
  · have hie : i = 6 := by omega
    subst hie
    rw [crun_subD ha (Nat.lt_of_le_of_lt hb ha), D_sbn hb, Nat.sub_self, List.replicate_zero, List.append_nil] at *
    simp only at *
    have hl3 := hl0 (a - b)
    repeat (first
      |(refine st_cmp (r := false) (by rfl) (by rfl) (cmpN_f (by first | (simp only [cmpQ]; done) | (simp only [cmpQ]; omega))) (by rfl) ?_)|refine Z01 ?_|refine Z02 ?_
      |refine Z03 ?_|refine Z04 ?_|refine Z05 ?_|refine Z06 ?_|refine Z07 ?_|refine Z08 ?_|refine Z09 ?_|refine Z10 ?_|refine Z11 ?_|refine Z12 ?_|refine Z13 ?_
      |refine Z14 ?_|refine Z15 ?_|refine Z17 ?_|refine Z18 ?_|refine Z19 ?_|refine Z22 ?_|refine Z23 ?_|refine Z24 ?_|refine Z25 ?_|refine Z26 ?_|refine Z27 ?_
      |refine Z28 ?_|refine Z29 ?_|refine Z30 ?_|refine Z31 ?_|refine Z32 ?_|refine Z67 ?_|refine Z70 ?_|refine Z81 fun _ => ?_|refine Z82 fun _ => ?_)
    refine Zec fun _ hw => post_of hw SubW.nil ⟨?_, rfl⟩
    rfl

theorem qreduce_spec {a : Nat} (ha : a < W ^ 6) : Spec Try.prog 70 [LV .u64 (D 6 a)] NoPre [] (IsV (LV .u64 (D 6 (a % p)))) := by
  refine mk_spec Try.func70 rfl rfl rfl fun w _ => ?_
  have hla := D_len 6 a
  repeat (first
    |(refine st_alloc (v := LV .u64 (List.replicate 6 0)) (by rfl) (by rfl) fun _ => ?_)|refine Z03 ?_|refine Z04 ?_|refine Z05 ?_|refine Z06 ?_|refine Z07 ?_
    |refine Z08 ?_|refine Z09 ?_|refine Z10 ?_|refine Z11 ?_|refine Z12 ?_|refine Z13 ?_|refine Z14 ?_|refine Z24 ?_|refine Z25 ?_|refine Z26 ?_|refine Z27 ?_
    |refine Z28 ?_|refine Z29 ?_|refine Z30 ?_|refine Z31 ?_|refine Z32 ?_|refine Z54 ?_|refine Z67 ?_|refine Z81 fun _ => ?_|refine Z82 fun _ => ?_)
  rename_i b1 b2
  refine st_loop (ι := Nat) (fun x => x < W ^ 6 ∧ x % p = a % p) (fun _ => [(1, pt b1 0), (2, pt b2 0)])
    (fun x => [.blk b1 (LV .u64 (D 6 x)) 24, .blk b2 (LV .u64 (List.replicate 6 0)) 24]) (fun x => x) a ⟨ha, rfl⟩ (by repeat (first | apply subL.nil | refine subL.cons (by rfl) ?_)) (by repeat (first | apply SubW.nil | refine SubW.cons (by repeat (first | apply Find.here | apply Find.there)) ?_)) ?_
  rintro x ⟨hx, hxa⟩
  have hlx := D_len 6 x
  have hp0 := p_pos
  by_cases h : x < p
  · have hv : (!decide (x < p)) = false := by simp [h]
    repeat (first
      |(refine st_callV (by rfl) (by rfl) (by rfl) (qbelow_spec hx) (fun _ _ => trivial) (by rfl) ?_)|(rw [hv])|refine Z03 ?_|refine Z04 ?_|refine Z05 ?_|refine Z06 ?_
      |refine Z07 ?_|refine Z08 ?_|refine Z09 ?_|refine Z10 ?_|refine Z11 ?_|refine Z12 ?_|refine Z13 ?_|refine Z14 ?_|refine Z24 ?_|refine Z25 ?_|refine Z26 ?_
      |refine Z27 ?_|refine Z28 ?_|refine Z29 ?_|refine Z30 ?_|refine Z31 ?_|refine Z32 ?_|refine Z54 ?_|refine Z67 ?_|refine Z81 fun _ => ?_|refine Z82 fun _ => ?_)
    refine Zec fun _ hw => post_of hw SubW.nil ⟨?_, rfl⟩
    rw [← hxa, Nat.mod_eq_of_lt h]
  · have hv : (!decide (x < p)) = true := by simp [h]
    have hl2 := D_len 6 (x - p)
    repeat (first
      |(refine st_callV (by rfl) (by rfl) (by rfl) (qbelow_spec hx) (fun _ _ => trivial) (by rfl) ?_)|(rw [hv])|refine Z03 ?_|refine Z04 ?_|refine Z05 ?_|refine Z06 ?_
      |refine Z07 ?_|refine Z08 ?_|refine Z09 ?_|refine Z10 ?_|refine Z11 ?_|refine Z12 ?_|refine Z13 ?_|refine Z14 ?_|refine Z24 ?_|refine Z25 ?_|refine Z26 ?_
      |refine Z27 ?_|refine Z28 ?_|refine Z29 ?_|refine Z30 ?_|refine Z31 ?_|refine Z32 ?_|refine Z54 ?_|refine Z67 ?_|refine Z81 fun _ => ?_|refine Z82 fun _ => ?_)
    refine st_draw1 (by rfl) ?_
    repeat (first
      |refine Zqf (by intro _ _ _;(first
        |refine Z54 ?_);exact Zq) ?_
      |refine Zqp (by intro _ _ _;refine st_callV (by rfl) (by rfl) (by rfl) (qP_spec) (fun _ _ => trivial) (by rfl) ?_;exact Zq) ?_
      |refine Zqp (by intro _ _ _;refine st_callV (by rfl) (by rfl) (by rfl) (qminus_spec hx (Nat.le_of_not_lt h)) (fun _ _ => trivial) (by rfl) ?_;exact Zq) ?_
      |refine Zqp (by intro _ _ _;(first
        |refine Z24 ?_|refine Z25 ?_|refine Z26 ?_|refine Z27 ?_|refine Z28 ?_|refine Z67 ?_);exact Zq) ?_
      |refine Zqe (by intro _ _ _;(first
        |refine Z29 ?_|refine Z30 ?_|refine Z31 ?_|refine Z32 ?_);exact Zqq) ?_
      |refine Zqn ?_)
    refine Zq0 ?_ (by kernel_rfl)
    repeat (first
      |refine Z03 ?_|refine Z04 ?_|refine Z05 ?_|refine Z06 ?_|refine Z07 ?_|refine Z08 ?_|refine Z09 ?_|refine Z10 ?_|refine Z11 ?_|refine Z12 ?_|refine Z13 ?_
      |refine Z14 ?_|refine Z24 ?_|refine Z25 ?_|refine Z26 ?_|refine Z27 ?_|refine Z28 ?_|refine Z29 ?_|refine Z30 ?_|refine Z31 ?_|refine Z32 ?_|refine Z54 ?_
      |refine Z67 ?_|refine Z81 fun _ => ?_|refine Z82 fun _ => ?_)
    exact st_round (x - p) ⟨by omega, by rw [← hxa, ← Nat.mod_eq_sub_mod (by omega)]⟩ (by omega) (by repeat (first | apply subL.nil | refine subL.cons (by rfl) ?_)) (by repeat (first | apply SubW.nil | refine SubW.cons (by repeat (first | apply Find.here | apply Find.there)) ?_))

theorem seven_D {a x : Nat} (hx : x < 18446744073709551616) (ha : a < W ^ 6) : [x, (D 6 a).getD 0 0, (D 6 a).getD 1 0, (D 6 a).getD 2 0, (D 6 a).getD 3 0, (D 6 a).getD 4 0, (D 6 a).getD 5 0] = D 7 (a * W + x) := by
  have h6 : [(D 6 a).getD 0 0, (D 6 a).getD 1 0, (D 6 a).getD 2 0, (D 6 a).getD 3 0, (D 6 a).getD 4 0, (D 6 a).getD 5 0] = D 6 a := six (D_len 6 a)
  rw [h6]
  refine D_of_V (Lt.cons hx (D_lt _ _)) (by simp) ?_
  rw [V_def, val_cons, ← V_def, V_D' ha]
  rw [Nat.mul_comm a, Nat.add_comm]
theorem six_D {X : Nat} : [(D 7 X).getD 0 0, (D 7 X).getD 1 0, (D 7 X).getD 2 0, (D 7 X).getD 3 0, (D 7 X).getD 4 0, (D 7 X).getD 5 0] = D 6 X := by
  rw [← six (D_len 6 X)]
  simp only [D_getD _ _ _ (show 0 < 7 by decide), D_getD _ _ _ (show 1 < 7 by decide), D_getD _ _ _ (show 2 < 7 by decide), D_getD _ _ _ (show 3 < 7 by decide), D_getD _ _ _ (show 4 < 7 by decide), D_getD _ _ _ (show 5 < 7 by decide),
    D_getD _ _ _ (show 0 < 6 by decide), D_getD _ _ _ (show 1 < 6 by decide), D_getD _ _ _ (show 2 < 6 by decide), D_getD _ _ _ (show 3 < 6 by decide), D_getD _ _ _ (show 4 < 6 by decide), D_getD _ _ _ (show 5 < 6 by decide)]
theorem p_top : (D 6 p).getD 5 0 = 1873798617647539866 := by rw [← p_lit]; rfl
theorem p_hi : p < 1873798617647539867 * W ^ 5 := by decide +kernel

set_option maxHeartbeats 4000000 in
theorem qnext_spec {a x : Nat} (ha : a < p) (hx : x < 18446744073709551616) : Spec Try.prog 133 [LV .u64 (D 6 a), N .u64 x] NoPre [] (IsV (LV .u64 (D 6 ((a * W + x) % p)))) := by
  refine mk_spec Try.func133 rfl rfl rfl fun w _ => ?_
  have hpl := p_lt
  have haW : a < W ^ 6 := by omega
  have hla := D_len 6 a
  have hlp := D_len 6 p
  have h7 := seven_D hx haW
  have hpt := p_top
  obtain ⟨Z, hZ⟩ : ∃ Z, Z = a * W + x := ⟨_, rfl⟩
  rw [← hZ] at h7 ⊢
  have hlz := D_len 7 Z
  have hg6 := D_getD 7 Z 6 (by decide)
  have hg5 := D_getD 7 Z 5 (by decide)
  have hZW : Z < W ^ 7 := by
    rw [hZ, Nat.pow_succ]
    have : a * W + W ≤ W ^ 6 * W := by rw [← Nat.succ_mul]; exact Nat.mul_le_mul_right _ haW
    have hW : W = 18446744073709551616 := rfl
    omega
  have h56 : Z / W ^ 6 % W * W + Z / W ^ 5 % W = Z / W ^ 5 := by
    rw [Nat.mod_eq_of_lt (Nat.div_lt_of_lt_mul (by rw [← Nat.pow_succ]; exact hZW)), ← div_next]
  have hq1 : Z / W ^ 5 / 1873798617647539867 * p ≤ Z := by
    refine Nat.le_trans (Nat.mul_le_mul_left _ (Nat.le_of_lt p_hi)) ?_
    rw [← Nat.mul_assoc]
    exact Nat.le_trans (Nat.mul_le_mul_right _ (Nat.div_mul_le_self _ _)) (Nat.div_mul_le_self _ _)
  have ht6 : Z / W ^ 6 % W < 1873798617647539867 := by
    have : Z / W ^ 6 < 1873798617647539867 := by
      refine Nat.div_lt_of_lt_mul ?_
      have h1 : a * W + W ≤ p * W := by rw [← Nat.succ_mul]; exact Nat.mul_le_mul_right _ ha
      have h2 : p * W < 1873798617647539867 * W ^ 5 * W := Nat.mul_lt_mul_of_pos_right p_hi W_pos
      have hW : W = 18446744073709551616 := rfl
      rw [Nat.mul_comm, Nat.pow_succ, ← Nat.mul_assoc]
      omega
    exact Nat.lt_of_le_of_lt (Nat.mod_le _ _) this
  have hg65 : (D 7 Z).getD 6 0 < 1873798617647539867 := by rw [hg6]; exact ht6
  have hg55 := (D_lt 7 Z).getD (by decide) 5
  have hq0 : ((D 7 Z).getD 6 0 * 18446744073709551616 + (D 7 Z).getD 5 0) / 1873798617647539867 = Z / W ^ 5 / 1873798617647539867 := by
    rw [hg6, hg5, show (18446744073709551616 : Nat) = W from rfl, h56]
  have hq2 := quo_lt hg65 hg55
  rw [hq0] at hq2
  generalize Z / W ^ 5 / 1873798617647539867 = Q at *
  rw [Nat.mul_comm Q] at hq1
  have h7p : [x, (D 6 a).getD 0 0, (D 6 a).getD 1 0, (D 6 a).getD 2 0, (D 6 a).getD 3 0, (D 6 a).getD 4 0, (D 6 a).getD 5 0] ++ List.replicate (7 - [x, (D 6 a).getD 0 0, (D 6 a).getD 1 0, (D 6 a).getD 2 0, (D 6 a).getD 3 0, (D 6 a).getD 4 0, (D 6 a).getD 5 0].length) 0 = D 7 Z := (List.append_nil _).trans h7
  have hl9 := D_len 7 (Z - p * Q)
  repeat (first
    |(refine st_callV (by rfl) (by rfl) (by rfl) (qP_spec) (fun _ _ => trivial) (by rfl) ?_)
    |(refine st_alloc (v := LV .u64 (List.replicate 7 0)) (by rfl) (by rfl) fun _ => ?_)
    |(refine st_alloc (v := LV .u64 (List.replicate 6 0)) (by rfl) (by rfl) fun _ => ?_)
    |((refine st_buildP (kk := .u64) (vs := [x, (D 6 a).getD 0 0, (D 6 a).getD 1 0, (D 6 a).getD 2 0, (D 6 a).getD 3 0, (D 6 a).getD 4 0, (D 6 a).getD 5 0]) (by rfl) (by rfl) (by rfl) (by rfl) (by rfl) (by rfl) (by rfl) (by rfl) ?_; rw [h7p]))
    |(rw [hpt])
    |((refine st_callV (by rfl) (by rfl) (by rfl) (div64_spec ((D 7 Z).getD 6 0) ((D 7 Z).getD 5 0) 1873798617647539867 hg65 hg55 (by decide)) (fun _ _ => trivial) (by rfl) ?_; rw [hq0]))
    |(refine st_callV (by rfl) (by rfl) (by rfl) (qless_spec hZW hq2 hq1) (fun _ _ => trivial) (by rfl) ?_)|refine Z01 ?_|refine Z02 ?_|refine Z03 ?_|refine Z04 ?_
    |refine Z05 ?_|refine Z06 ?_|refine Z07 ?_|refine Z08 ?_|refine Z09 ?_|refine Z10 ?_|refine Z11 ?_|refine Z12 ?_|refine Z13 ?_|refine Z14 ?_|refine Z17 ?_
    |refine Z18 ?_|refine Z19 ?_|refine Z22 ?_|refine Z23 ?_|refine Z24 ?_|refine Z25 ?_|refine Z26 ?_|refine Z27 ?_|refine Z28 ?_|refine Z29 ?_|refine Z30 ?_
    |refine Z31 ?_|refine Z32 ?_|refine Z33 ?_|refine Z65 ?_|refine Z67 ?_|refine Z81 fun _ => ?_|refine Z82 fun _ => ?_)
  rename_i b2 b4 b5 b6
  have hmo : (Z - p * Q) % p = Z % p := by
    have : Z = (Z - p * Q) + p * Q := by omega
    conv => rhs; rw [this, Nat.add_mul_mod_self_left]
  have hX0 : Z - p * Q < W ^ 7 := by omega
  generalize Z - p * Q = X0 at *
  clear h7 h7p hg6 hg5 hg65 hg55 hq0 hq1 hq2 h56 ht6
  refine st_loop (ι := Nat) (fun X => X < W ^ 7 ∧ X % p = Z % p) (fun _ => [(2, pt b2 0), (4, pt b4 0), (5, pt b5 0), (6, pt b6 0)])
    (fun X => [.blk b6 (LV .u64 (D 7 X)) 113, .blk b5 (LV .u64 (D 6 p)) 24, .blk b4 (LV .u64 (List.replicate 6 0)) 24, .blk b2 (LV .u64 (D 6 a)) 24]) (fun X => X) X0 ⟨hX0, hmo⟩ (by repeat (first | apply subL.nil | refine subL.cons (by rfl) ?_)) (by repeat (first | apply SubW.nil | refine SubW.cons (by repeat (first | apply Find.here | apply Find.there)) ?_)) ?_
  rintro X ⟨hX, hXm⟩
  have hlx := D_len 7 X
  have hgx := D_getD 7 X 6 (by decide)
  have hgx2 : (D 7 X).getD 6 0 = X / W ^ 6 := by rw [hgx, Nat.mod_eq_of_lt (Nat.div_lt_of_lt_mul (by rw [← Nat.pow_succ]; exact hX))]
  repeat (first
    |refine Z01 ?_|refine Z02 ?_|refine Z03 ?_|refine Z04 ?_|refine Z05 ?_|refine Z06 ?_|refine Z07 ?_|refine Z08 ?_|refine Z09 ?_|refine Z10 ?_|refine Z11 ?_
    |refine Z12 ?_|refine Z13 ?_|refine Z14 ?_|refine Z17 ?_|refine Z18 ?_|refine Z19 ?_|refine Z22 ?_|refine Z23 ?_|refine Z24 ?_|refine Z25 ?_|refine Z26 ?_
    |refine Z27 ?_|refine Z28 ?_|refine Z29 ?_|refine Z30 ?_|refine Z31 ?_|refine Z32 ?_|refine Z33 ?_|refine Z65 ?_|refine Z67 ?_|refine Z81 fun _ => ?_
    |refine Z82 fun _ => ?_)
  refine st_cond (by rfl) (fun hc => ?_) (fun hc => ?_)
  · have hXp : p * 1 ≤ X := by
      rw [hgx2] at hc
      have := Nat.div_mul_le_self X (W ^ 6)
      have : 1 * W ^ 6 ≤ X / W ^ 6 * W ^ 6 := Nat.mul_le_mul_right _ hc
      omega
    have hl8 := D_len 7 (X - p * 1)
    have hp0 := p_pos
    repeat (first
      |(refine st_callV (by rfl) (by rfl) (by rfl) (qless_spec hX (by decide) hXp) (fun _ _ => trivial) (by rfl) ?_)|refine Z01 ?_|refine Z02 ?_|refine Z03 ?_
      |refine Z04 ?_|refine Z05 ?_|refine Z06 ?_|refine Z07 ?_|refine Z08 ?_|refine Z09 ?_|refine Z10 ?_|refine Z11 ?_|refine Z12 ?_|refine Z13 ?_|refine Z14 ?_
      |refine Z17 ?_|refine Z18 ?_|refine Z19 ?_|refine Z22 ?_|refine Z23 ?_|refine Z24 ?_|refine Z25 ?_|refine Z26 ?_|refine Z27 ?_|refine Z28 ?_|refine Z29 ?_
      |refine Z30 ?_|refine Z31 ?_|refine Z32 ?_|refine Z33 ?_|refine Z65 ?_|refine Z67 ?_|refine Z81 fun _ => ?_|refine Z82 fun _ => ?_)
    exact st_round (X - p * 1) ⟨by omega, by rw [← hXm, Nat.mul_one, ← Nat.mod_eq_sub_mod (by omega)]⟩ (by omega) (by repeat (first | apply subL.nil | refine subL.cons (by rfl) ?_)) (by repeat (first | apply SubW.nil | refine SubW.cons (by repeat (first | apply Find.here | apply Find.there)) ?_))
  · have hXW : X < W ^ 6 := by
      rw [hgx2] at hc
      have h0 : X / W ^ 6 = 0 := by omega
      rcases Nat.div_eq_zero_iff.1 h0 with h | h
      · exact absurd h (by decide)
      · exact h
    have h6p : [(D 7 X).getD 0 0, (D 7 X).getD 1 0, (D 7 X).getD 2 0, (D 7 X).getD 3 0, (D 7 X).getD 4 0, (D 7 X).getD 5 0] ++ List.replicate (6 - [(D 7 X).getD 0 0, (D 7 X).getD 1 0, (D 7 X).getD 2 0, (D 7 X).getD 3 0, (D 7 X).getD 4 0, (D 7 X).getD 5 0].length) 0 = D 6 X := (List.append_nil _).trans six_D
    have hl8 := D_len 6 (X % p)
    repeat (first
      
      |((refine st_buildP (kk := .u64) (vs := [(D 7 X).getD 0 0, (D 7 X).getD 1 0, (D 7 X).getD 2 0, (D 7 X).getD 3 0, (D 7 X).getD 4 0, (D 7 X).getD 5 0]) (by rfl) (by rfl) (by rfl) (by rfl) (by rfl) (by rfl) (by rfl) (by rfl) ?_; rw [h6p]))
      |(refine st_callV (by rfl) (by rfl) (by rfl) (qreduce_spec hXW) (fun _ _ => trivial) (by rfl) ?_)|refine Z01 ?_|refine Z02 ?_|refine Z03 ?_|refine Z04 ?_
      |refine Z05 ?_|refine Z06 ?_|refine Z07 ?_|refine Z08 ?_|refine Z09 ?_|refine Z10 ?_|refine Z11 ?_|refine Z12 ?_|refine Z13 ?_|refine Z14 ?_|refine Z17 ?_
      |refine Z18 ?_|refine Z19 ?_|refine Z22 ?_|refine Z23 ?_|refine Z24 ?_|refine Z25 ?_|refine Z26 ?_|refine Z27 ?_|refine Z28 ?_|refine Z29 ?_|refine Z30 ?_
      |refine Z31 ?_|refine Z32 ?_|refine Z33 ?_|refine Z65 ?_|refine Z67 ?_|refine Z81 fun _ => ?_|refine Z82 fun _ => ?_)
    refine Zec fun _ hw => post_of hw SubW.nil ⟨?_, rfl⟩
    rw [hXm]
end Go.Proofs.Ytfhempgkdnecnaa.L
