/- What the proof of the statement about XmdFields stands on, part D. Conditions: as each statement says. -/
import Derived.Test.YtbjfjkmidhfgcaaXmdFieldsC
import Derived.Below
import Derived.KernelRfl
import Derived.Laws.Externs
import Derived.Laws.Strings
import Derived.Laws.StructEq
import Derived.Orders
import Derived.ProofKit
import Derived.Scope
import Derived.Tactics
import Derived.Test.YtbjfjkmidhfgcaaProg
import Derived.WalkKit
namespace Go.Proofs.Ytbjfjkmidhfgcaa.L
open Go Go.Proofs
set_option maxRecDepth 100000
attribute [local irreducible] Code.wp wpList Af bodyPost L.Go
open Num
attribute [local simp] D_len
theorem qP_spec : Spec Try.prog 108 [] NoPre [] (IsV (LV .u64 (D 6 p))) := by
  refine mk_spec Try.func108 rfl rfl rfl fun w _ => ?_
  repeat (first
    |(refine st_alloc (v := LV .u64 (List.replicate 6 0)) (by rfl) (by rfl) fun _ => ?_)
    |(refine st_buildP (kk := .u64) (vs := [13402431016077863595, 2210141511517208575, 7435674573564081700, 7239337960414712511, 5412103778470702295, 1873798617647539866]) (by rfl) (by rfl) (by rfl) (by rfl) (by rfl) (by rfl) (by rfl) (by rfl) ?_)
    |refine Z03 ?_|refine Z04 ?_|refine Z05 ?_|refine Z06 ?_|refine Z07 ?_|refine Z08 ?_|refine Z09 ?_|refine Z10 ?_|refine Z11 ?_|refine Z12 ?_|refine Z13 ?_
    |refine Z14 ?_|refine Z29 ?_|refine Z30 ?_|refine Z31 ?_|refine Z32 ?_|refine Z65 ?_|refine Z82 fun _ => ?_)
  refine Zec fun _ hw => post_of hw SubW.nil ⟨?_, rfl⟩
  rw [← p_lit]; rfl
theorem less_word {a b c s : Nat} (ha : a < 18446744073709551616) (hb : b ≤ 1) (hc : c < 18446744073709551616) (hs : s ≤ 340282366920938463426481119284349108225) :
    ∃ d b' c', d = (a + 18446744073709551616 - (s % 18446744073709551616 + c) % 18446744073709551616 - b) % 18446744073709551616 ∧ b' = (if a < (s % 18446744073709551616 + c) % 18446744073709551616 + b then 1 else 0) ∧
      c' = (s / 18446744073709551616 + (s % 18446744073709551616 + c) / 18446744073709551616) % 18446744073709551616 ∧ d + s + c + b = a + 18446744073709551616 * (b' + c') ∧ b' ≤ 1 ∧ c' < 18446744073709551616 ∧ d < 18446744073709551616 := by
  refine ⟨_, _, _, rfl, rfl, rfl, ?_, ?_, Nat.mod_lt _ (by decide), Nat.mod_lt _ (by decide)⟩
  · split <;> omega
  · split <;> omega
theorem less_step {V0 V' A P q Wi Wj d s b c b' c' Am a Pm pd : Nat} (hs : s = pd * q) (hWj : Wj = Wi * 18446744073709551616) (h1 : V0 + Pm * q = Am + Wi * (b + c)) (h2 : d + s + c + b = a + 18446744073709551616 * (b' + c')) (hV : V' = V0 + Wi * d)
    (hA : A = Am + Wi * a) (hP : P = Pm + Wi * pd) : V' + P * q = A + Wj * (b' + c') := by
  have h3 : Wi * (d + s + c + b) = Wi * (a + 18446744073709551616 * (b' + c')) := by rw [h2]
  subst hs hWj hV hA hP
  simp only [Nat.mul_add, Nat.add_mul, Nat.mul_assoc] at *
  omega
set_option maxHeartbeats 4000000 in
theorem qless_spec {A q : Nat} (hA : A < W ^ 7) (hq : q < 18446744073709551616) (h : p * q ≤ A) :
    Spec Try.prog 109 [LV .u64 (D 7 A), N .u64 q] NoPre [] (IsV (LV .u64 (D 7 (A - p * q)))) := by
  refine mk_spec Try.func109 rfl rfl rfl fun w _ => ?_
  have hla := D_len 7 A
  have hlp := D_len 6 p
  repeat (first
    |(refine st_callV (by rfl) (by rfl) (by rfl) (qP_spec) (fun _ _ => trivial) (by rfl) ?_)
    |(refine st_alloc (v := LV .u64 (List.replicate 7 0)) (by rfl) (by rfl) fun _ => ?_)
    |(refine st_alloc (v := LV .u64 (List.replicate 6 0)) (by rfl) (by rfl) fun _ => ?_)|refine Z01 ?_|refine Z02 ?_|refine Z03 ?_|refine Z04 ?_|refine Z05 ?_
    |refine Z06 ?_|refine Z07 ?_|refine Z08 ?_|refine Z09 ?_|refine Z10 ?_|refine Z11 ?_|refine Z12 ?_|refine Z13 ?_|refine Z14 ?_|refine Z15 ?_|refine Z17 ?_
    |refine Z18 ?_|refine Z19 ?_|refine Z22 ?_|refine Z23 ?_|refine Z24 ?_|refine Z25 ?_|refine Z26 ?_|refine Z27 ?_|refine Z28 ?_|refine Z29 ?_|refine Z30 ?_
    |refine Z31 ?_|refine Z32 ?_|refine Z33 ?_|refine Z67 ?_|refine Z70 ?_|refine Z81 fun _ => ?_|refine Z82 fun _ => ?_)
  rename_i b2 b4 b5 b8
  refine st_loop (ι := (Nat × List Nat) × (Nat × Nat)) (fun s => s.1.1 ≤ 7 ∧ s.1.2.length = s.1.1 ∧ Lt 18446744073709551616 s.1.2 ∧ s.2.1 < 18446744073709551616 ∧ s.2.2 ≤ 1 ∧ V s.1.2 + p % W ^ s.1.1 * q = A % W ^ s.1.1 + W ^ s.1.1 * (s.2.2 + s.2.1))
    (fun s => [(1, N .u64 q), (2, pt b2 0), (4, pt b4 0), (5, pt b5 0), (6, N .u64 s.2.1), (7, N .u64 s.2.2), (8, pt b8 0), (9, N .i64 s.1.1)])
    (fun s => [.blk b8 (LV .u64 (s.1.2 ++ (List.replicate 7 0).drop s.1.1)) 109, .blk b5 (LV .u64 (D 6 p)) 68, .blk b4 (LV .u64 (List.replicate 7 0)) 109, .blk b2 (LV .u64 (D 7 A)) 109]) (fun s => 7 - s.1.1)
    ((0, []), (0, 0)) ⟨by decide, rfl, Lt.nil _, by decide, by decide, by simp [Nat.mod_one, V_nil]⟩ (by repeat (first | apply subL.nil | refine subL.cons (by rfl) ?_)) (by repeat (first | apply SubW.nil | refine SubW.cons (by repeat (first | apply Find.here | apply Find.there)) ?_)) ?_
  rintro ⟨⟨i, P⟩, ⟨c, b⟩⟩ ⟨hi, hl, hP, hc, hb, hV⟩
  simp only at hi hl hP hc hb hV ⊢
  have hol : (P ++ (List.replicate 7 0).drop i).length = 7 := by simp [hl]; omega
  have hda := (D_lt 7 A).getD (by decide) i
  have hga := D_getD' hA i
  by_cases h7 : i < 7
  · have hst : ∀ y, (P ++ (List.replicate 7 0).drop i).set i y = P ++ [y] ++ (List.replicate 7 0).drop (i + 1) := fun y => drop_set hl (by simpa using h7) y
    have hmA := W_mod_succ A i
    rw [← hga] at hmA
    by_cases h6 : i < 6
    · have hdp := (D_lt 6 p).getD (by decide) i
      have hmp := W_mod_succ p i
      rw [← D_getD' p_lt i] at hmp
      obtain ⟨d, b', c', hd, hb', hc', he, hb2, hc2, hd2⟩ := less_word (a := (D 7 A).getD i 0) hda hb hc (mul_bound hdp hq)
      have hV2 := less_step rfl (Nat.pow_succ ..) hV he (V_snoc hl d) hmA hmp
      have hP2 : Lt 18446744073709551616 (P ++ [d]) := hP.append (Lt.cons hd2 (Lt.nil _))
      clear hV he hmA hmp
      repeat (first
        |(refine st_cmp (r := true) (by rfl) (by rfl) (cmpN_t (by first | (simp only [cmpP]; done) | (simp only [cmpP]; omega))) (by rfl) ?_)
        |(refine st_callV (by rfl) (by rfl) (by rfl) (mul64_spec ((D 6 p).getD i 0) q hdp hq) (fun _ _ => trivial) (by rfl) ?_)
        |(refine st_callX (by rfl) (by rfl) (by rfl) (add64X0 _ _) (by rfl) ?_)|(refine st_callX (by rfl) (by rfl) (by rfl) (sub64X _ _ _ hb) (by rfl) ?_)|(rw [← hc'])
        |(rw [← hd])|(rw [← hb'])|(rw [hst])|refine Z01 ?_|refine Z02 ?_|refine Z03 ?_|refine Z04 ?_|refine Z05 ?_|refine Z06 ?_|refine Z07 ?_|refine Z08 ?_|refine Z09 ?_
        |refine Z10 ?_|refine Z11 ?_|refine Z12 ?_|refine Z13 ?_|refine Z14 ?_|refine Z15 ?_|refine Z17 ?_|refine Z18 ?_|refine Z19 ?_|refine Z22 ?_|refine Z23 ?_
        |refine Z24 ?_|refine Z25 ?_|refine Z26 ?_|refine Z27 ?_|refine Z28 ?_|refine Z29 ?_|refine Z30 ?_|refine Z31 ?_|refine Z32 ?_|refine Z33 ?_|refine Z67 ?_
        |refine Z70 ?_|refine Z81 fun _ => ?_|refine Z82 fun _ => ?_)
      exact st_round ((i + 1, P ++ [d]), (c', b')) ⟨by simp only; omega, by simp [hl], hP2, hc2, hb2, hV2⟩ (by simp only; omega) (by repeat (first | apply subL.nil | refine subL.cons (by rfl) ?_)) (by repeat (first | apply SubW.nil | refine SubW.cons (by repeat (first | apply Find.here | apply Find.there)) ?_))
    · have hie : i = 6 := by omega
      subst hie
      obtain ⟨d, b', c', hd, hb', hc', he, hb2, hc2, hd2⟩ := less_word (a := (D 7 A).getD 6 0) (s := 0) hda hb hc (by decide)
      have hV2 := less_step (pd := 0) (Nat.zero_mul q).symm (Nat.pow_succ ..) hV he (V_snoc hl d) hmA (P := p % W ^ (6 + 1)) (by rw [Nat.mod_eq_of_lt p_lt, Nat.mul_zero, Nat.add_zero]; exact Nat.mod_eq_of_lt (Nat.lt_trans p_lt (by decide)))
      have hP2 : Lt 18446744073709551616 (P ++ [d]) := hP.append (Lt.cons hd2 (Lt.nil _))
      rw [Nat.zero_mod] at hd hb' hc'
      rw [Nat.zero_div] at hc'
      clear hV he hmA
      repeat (first
        |(refine st_cmp (r := true) (by rfl) (by rfl) (cmpN_t (by first | (simp only [cmpP]; done) | (simp only [cmpP]; omega))) (by rfl) ?_)
        |(refine st_cmp (r := false) (by rfl) (by rfl) (cmpN_f (by first | (simp only [cmpQ]; done) | (simp only [cmpQ]; omega))) (by rfl) ?_)
        |(refine st_callX (by rfl) (by rfl) (by rfl) (add64X0 0 c) (by rfl) ?_)|(refine st_callX (by rfl) (by rfl) (by rfl) (sub64X _ _ _ hb) (by rfl) ?_)|(rw [← hc'])
        |(rw [← hd])|(rw [← hb'])|(rw [hst])|refine Z01 ?_|refine Z02 ?_|refine Z03 ?_|refine Z04 ?_|refine Z05 ?_|refine Z06 ?_|refine Z07 ?_|refine Z08 ?_|refine Z09 ?_
        |refine Z10 ?_|refine Z11 ?_|refine Z12 ?_|refine Z13 ?_|refine Z14 ?_|refine Z15 ?_|refine Z17 ?_|refine Z18 ?_|refine Z19 ?_|refine Z22 ?_|refine Z23 ?_
        |refine Z24 ?_|refine Z25 ?_|refine Z26 ?_|refine Z27 ?_|refine Z28 ?_|refine Z29 ?_|refine Z30 ?_|refine Z31 ?_|refine Z32 ?_|refine Z33 ?_|refine Z67 ?_
        |refine Z70 ?_|refine Z81 fun _ => ?_|refine Z82 fun _ => ?_)
      exact st_round ((7, P ++ [d]), (c', b')) ⟨by simp only; omega, by simp [hl], hP2, hc2, hb2, hV2⟩ (by simp only; omega) (by repeat (first | apply subL.nil | refine subL.cons (by rfl) ?_)) (by repeat (first | apply SubW.nil | refine SubW.cons (by repeat (first | apply Find.here | apply Find.there)) ?_))
  · have hie : i = 7 := by omega
    subst hie
    have hpW : p < W ^ 7 := Nat.lt_trans p_lt (by decide)
    rw [Nat.mod_eq_of_lt hpW, Nat.mod_eq_of_lt hA] at hV
    have hPl : V P < W ^ 7 := by have := V_lt hP; rwa [hl] at this
    have h0 : b + c = 0 := by
      rcases Nat.eq_zero_or_pos (b + c) with h0 | h0
      · exact h0
      · have : W ^ 7 * 1 ≤ W ^ 7 * (b + c) := Nat.mul_le_mul_left _ h0
        omega
    have hPD : P = D 7 (A - p * q) := by
      refine D_of_V hP hl ?_
      rw [h0] at hV
      omega
    have hfin : P ++ (List.replicate 7 0).drop 7 = D 7 (A - p * q) := by rw [← hPD]; simp
    have hlz := D_len 7 (A - p * q)
    rw [hfin] at *
    clear hV h0 hPD
    repeat (first
      |(refine st_cmp (r := false) (by rfl) (by rfl) (cmpN_f (by first | (simp only [cmpQ]; done) | (simp only [cmpQ]; omega))) (by rfl) ?_)|refine Z01 ?_|refine Z02 ?_
      |refine Z03 ?_|refine Z04 ?_|refine Z05 ?_|refine Z06 ?_|refine Z07 ?_|refine Z08 ?_|refine Z09 ?_|refine Z10 ?_|refine Z11 ?_|refine Z12 ?_|refine Z13 ?_
      |refine Z14 ?_|refine Z15 ?_|refine Z17 ?_|refine Z18 ?_|refine Z19 ?_|refine Z22 ?_|refine Z23 ?_|refine Z24 ?_|refine Z25 ?_|refine Z26 ?_|refine Z27 ?_
      |refine Z28 ?_|refine Z29 ?_|refine Z30 ?_|refine Z31 ?_|refine Z32 ?_|refine Z33 ?_|refine Z67 ?_|refine Z70 ?_|refine Z81 fun _ => ?_|refine Z82 fun _ => ?_)
    refine Zec fun _ hw => post_of hw SubW.nil ⟨?_, rfl⟩
    rfl
theorem div_next (A i : Nat) : A / W ^ i = A / W ^ (i + 1) * W + A / W ^ i % W := by
  rw [Nat.pow_succ, ← Nat.div_div_eq_div_mul, Nat.mul_comm, Nat.div_add_mod]
theorem below_lt {A B i : Nat} (h : A / W ^ (i + 1) = B / W ^ (i + 1)) (hne : A / W ^ i % W ≠ B / W ^ i % W) : decide (A / W ^ i % W < B / W ^ i % W) = decide (A < B) := by
  have h1 := div_next A i
  have h2 := div_next B i
  rw [h] at h1
  generalize A / W ^ i % W = x at *
  generalize B / W ^ i % W = y at *
  generalize B / W ^ (i + 1) * W = z at *
  refine decide_eq_decide.2 ⟨fun hl => ?_, fun hl => ?_⟩
  · rcases Nat.lt_or_ge A B with h3 | h3
    · exact h3
    · have := Nat.div_le_div_right (c := W ^ i) h3
      omega
  · have := Nat.div_le_div_right (c := W ^ i) (Nat.le_of_lt hl)
    omega
theorem qbelow_spec {a : Nat} (ha : a < W ^ 6) : Spec Try.prog 113 [LV .u64 (D 6 a)] NoPre [] (IsV (.bool (decide (a < p)))) := by
  refine mk_spec Try.func113 rfl rfl rfl fun w _ => ?_
  have hla := D_len 6 a
  have hlp := D_len 6 p
  repeat (first
    |(refine st_callV (by rfl) (by rfl) (by rfl) (qP_spec) (fun _ _ => trivial) (by rfl) ?_)
    |(refine st_alloc (v := LV .u64 (List.replicate 6 0)) (by rfl) (by rfl) fun _ => ?_)|refine Z01 ?_|refine Z02 ?_|refine Z03 ?_|refine Z04 ?_|refine Z05 ?_
    |refine Z06 ?_|refine Z07 ?_|refine Z08 ?_|refine Z09 ?_|refine Z10 ?_|refine Z11 ?_|refine Z12 ?_|refine Z13 ?_|refine Z14 ?_|refine Z16 ?_|refine Z17 ?_
    |refine Z18 ?_|refine Z22 ?_|refine Z23 ?_|refine Z24 ?_|refine Z25 ?_|refine Z26 ?_|refine Z27 ?_|refine Z28 ?_|refine Z29 ?_|refine Z30 ?_|refine Z31 ?_
    |refine Z32 ?_|refine Z67 ?_|refine Z71 ?_|refine Z81 fun _ => ?_|refine Z82 fun _ => ?_)
  rename_i b1 b3
  refine st_loop (ι := Nat) (fun j => j ≤ 6 ∧ a / W ^ j = p / W ^ j) (fun j => [(1, pt b1 0), (3, pt b3 0), (4, .int .i64 ((j : Int) - 1))])
    (fun j => [.blk b1 (LV .u64 (D 6 a)) 68, .blk b3 (LV .u64 (D 6 p)) 68]) (fun j => j) 6 ⟨Nat.le_refl 6, by rw [Nat.div_eq_of_lt ha, Nat.div_eq_of_lt p_lt]⟩ (by repeat (first | apply subL.nil | refine subL.cons (by rfl) ?_)) (by repeat (first | apply SubW.nil | refine SubW.cons (by repeat (first | apply Find.here | apply Find.there)) ?_)) ?_
  rintro j ⟨hj, he⟩
  repeat (first
    |refine Z01 ?_|refine Z02 ?_|refine Z03 ?_|refine Z04 ?_|refine Z05 ?_|refine Z06 ?_|refine Z07 ?_|refine Z08 ?_|refine Z09 ?_|refine Z10 ?_|refine Z11 ?_
    |refine Z12 ?_|refine Z13 ?_|refine Z14 ?_|refine Z16 ?_|refine Z17 ?_|refine Z18 ?_|refine Z22 ?_|refine Z23 ?_|refine Z24 ?_|refine Z25 ?_|refine Z26 ?_
    |refine Z27 ?_|refine Z28 ?_|refine Z29 ?_|refine Z30 ?_|refine Z31 ?_|refine Z32 ?_|refine Z67 ?_|refine Z71 ?_|refine Z81 fun _ => ?_|refine Z82 fun _ => ?_)
  refine st_cond (by rfl) (fun h => ?_) (fun h => ?_)
  · have h0 : (0 : Int) ≤ (j : Int) - 1 := h
    obtain ⟨i, rfl⟩ : ∃ i, j = i + 1 := ⟨j - 1, by omega⟩
    rw [show ((i + 1 : Nat) : Int) - 1 = Int.ofNat i by simp]
    have hga := D_getD' ha i
    have hgp := D_getD' p_lt i
    repeat (first
      |refine Z01 ?_|refine Z02 ?_|refine Z03 ?_|refine Z04 ?_|refine Z05 ?_|refine Z06 ?_|refine Z07 ?_|refine Z08 ?_|refine Z09 ?_|refine Z10 ?_|refine Z11 ?_
      |refine Z12 ?_|refine Z13 ?_|refine Z14 ?_|refine Z16 ?_|refine Z17 ?_|refine Z18 ?_|refine Z22 ?_|refine Z23 ?_|refine Z24 ?_|refine Z25 ?_|refine Z26 ?_
      |refine Z27 ?_|refine Z28 ?_|refine Z29 ?_|refine Z30 ?_|refine Z31 ?_|refine Z32 ?_|refine Z67 ?_|refine Z71 ?_|refine Z81 fun _ => ?_|refine Z82 fun _ => ?_)
    refine st_draw1 (by rfl) ?_
    repeat (first
      |refine Zqf (by intro _ _ _;(first
        |refine Z01 ?_|refine Z02 ?_|refine Z16 ?_|refine Z17 ?_|refine Z18 ?_|refine Z22 ?_|refine Z23 ?_|refine Z71 ?_);exact Zq) ?_
      |refine Zqp (by intro _ _ _;(first
        |refine Z24 ?_|refine Z25 ?_|refine Z26 ?_|refine Z27 ?_|refine Z28 ?_|refine Z67 ?_|refine Z23 ?_);exact Zq) ?_
      |refine Zqe (by intro _ _ _;(first
        |refine Z29 ?_|refine Z30 ?_|refine Z31 ?_|refine Z32 ?_);exact Zqq) ?_
      |refine Zqn ?_)
    refine Zq0 ?_ (by kernel_rfl)
    repeat (first
      |refine Z01 ?_|refine Z02 ?_|refine Z03 ?_|refine Z04 ?_|refine Z05 ?_|refine Z06 ?_|refine Z07 ?_|refine Z08 ?_|refine Z09 ?_|refine Z10 ?_|refine Z11 ?_
      |refine Z12 ?_|refine Z13 ?_|refine Z14 ?_|refine Z16 ?_|refine Z17 ?_|refine Z18 ?_|refine Z22 ?_|refine Z23 ?_|refine Z24 ?_|refine Z25 ?_|refine Z26 ?_
      |refine Z27 ?_|refine Z28 ?_|refine Z29 ?_|refine Z30 ?_|refine Z31 ?_|refine Z32 ?_|refine Z67 ?_|refine Z71 ?_|refine Z81 fun _ => ?_|refine Z82 fun _ => ?_)
    refine st_cond (by rfl) (fun hne => ?_) (fun hne => ?_)
    · rw [hga, hgp] at hne
      have hr := below_lt he hne
      rw [← hga, ← hgp] at hr
      repeat (first
        |refine Z01 ?_|refine Z02 ?_|refine Z03 ?_|refine Z04 ?_|refine Z05 ?_|refine Z06 ?_|refine Z07 ?_|refine Z08 ?_|refine Z09 ?_|refine Z10 ?_|refine Z11 ?_
        |refine Z12 ?_|refine Z13 ?_|refine Z14 ?_|refine Z16 ?_|refine Z17 ?_|refine Z18 ?_|refine Z22 ?_|refine Z23 ?_|refine Z24 ?_|refine Z25 ?_|refine Z26 ?_
        |refine Z27 ?_|refine Z28 ?_|refine Z29 ?_|refine Z30 ?_|refine Z31 ?_|refine Z32 ?_|refine Z67 ?_|refine Z71 ?_|refine Z81 fun _ => ?_|refine Z82 fun _ => ?_)
      refine st_draw1 (by rfl) ?_
      repeat (first
        |refine Zqf (by intro _ _ _;(first
          |refine Z01 ?_|refine Z02 ?_|refine Z16 ?_|refine Z17 ?_|refine Z18 ?_|refine Z22 ?_|refine Z23 ?_|refine Z71 ?_);exact Zq) ?_
        |refine Zqp (by intro _ _ _;(first
          |refine Z24 ?_|refine Z25 ?_|refine Z26 ?_|refine Z27 ?_|refine Z28 ?_|refine Z67 ?_|refine Z23 ?_);exact Zq) ?_
        |refine Zqe (by intro _ _ _;(first
          |refine Z29 ?_|refine Z30 ?_|refine Z31 ?_|refine Z32 ?_);exact Zqq) ?_
        |refine Zqn ?_)
      refine Zq0 ?_ (by kernel_rfl)
      rw [hr]
      repeat (first
        |refine Z01 ?_|refine Z02 ?_|refine Z03 ?_|refine Z04 ?_|refine Z05 ?_|refine Z06 ?_|refine Z07 ?_|refine Z08 ?_|refine Z09 ?_|refine Z10 ?_|refine Z11 ?_
        |refine Z12 ?_|refine Z13 ?_|refine Z14 ?_|refine Z16 ?_|refine Z17 ?_|refine Z18 ?_|refine Z22 ?_|refine Z23 ?_|refine Z24 ?_|refine Z25 ?_|refine Z26 ?_
        |refine Z27 ?_|refine Z28 ?_|refine Z29 ?_|refine Z30 ?_|refine Z31 ?_|refine Z32 ?_|refine Z67 ?_|refine Z71 ?_|refine Z81 fun _ => ?_|refine Z82 fun _ => ?_)
      refine Ze1 fun _ hw => post_of hw SubW.nil ⟨?_, rfl⟩
      rfl
    · have hne2 : a / W ^ i = p / W ^ i := by
        rw [hga, hgp] at hne
        rw [div_next a, div_next p, he, Classical.not_not.1 hne]
      repeat (first
        |refine Z01 ?_|refine Z02 ?_|refine Z03 ?_|refine Z04 ?_|refine Z05 ?_|refine Z06 ?_|refine Z07 ?_|refine Z08 ?_|refine Z09 ?_|refine Z10 ?_|refine Z11 ?_
        |refine Z12 ?_|refine Z13 ?_|refine Z14 ?_|refine Z16 ?_|refine Z17 ?_|refine Z18 ?_|refine Z22 ?_|refine Z23 ?_|refine Z24 ?_|refine Z25 ?_|refine Z26 ?_
        |refine Z27 ?_|refine Z28 ?_|refine Z29 ?_|refine Z30 ?_|refine Z31 ?_|refine Z32 ?_|refine Z67 ?_|refine Z71 ?_|refine Z81 fun _ => ?_|refine Z82 fun _ => ?_)
      refine st_round i ⟨by omega, hne2⟩ (by omega) ?_ (by repeat (first | apply SubW.nil | refine SubW.cons (by repeat (first | apply Find.here | apply Find.there)) ?_))
      rw [show ((i : Int) - 1) = Int.ofNat i - Int.ofNat 1 from rfl]
      exact (by repeat (first | apply subL.nil | refine subL.cons (by rfl) ?_))
  · have hp0 : ¬ (0 : Int) ≤ (j : Int) - 1 := h
    have hj0 : j = 0 := by omega
    subst hj0
    rw [Nat.pow_zero, Nat.div_one, Nat.div_one] at he
    have hr : decide (a < p) = false := decide_eq_false (by omega)
    repeat (first
      |refine Z01 ?_|refine Z02 ?_|refine Z03 ?_|refine Z04 ?_|refine Z05 ?_|refine Z06 ?_|refine Z07 ?_|refine Z08 ?_|refine Z09 ?_|refine Z10 ?_|refine Z11 ?_
      |refine Z12 ?_|refine Z13 ?_|refine Z14 ?_|refine Z16 ?_|refine Z17 ?_|refine Z18 ?_|refine Z22 ?_|refine Z23 ?_|refine Z24 ?_|refine Z25 ?_|refine Z26 ?_
      |refine Z27 ?_|refine Z28 ?_|refine Z29 ?_|refine Z30 ?_|refine Z31 ?_|refine Z32 ?_|refine Z67 ?_|refine Z71 ?_|refine Z81 fun _ => ?_|refine Z82 fun _ => ?_)
    refine Ze1 fun _ hw => post_of hw SubW.nil ⟨?_, rfl⟩
    rw [hr]
set_option maxHeartbeats 2000000 in
theorem qminus_spec {a b : Nat} (ha : a < W ^ 6) (hb : b ≤ a) : Spec Try.prog 114 [LV .u64 (D 6 a), LV .u64 (D 6 b)] NoPre [] (IsV (LV .u64 (D 6 (a - b)))) := by
  refine mk_spec Try.func114 rfl rfl rfl fun w _ => ?_
  have hl0 := fun x => D_len 6 x
  have hla := hl0 a
  have hlb := hl0 b
  repeat (first
    |(refine st_alloc (v := LV .u64 (List.replicate 6 0)) (by rfl) (by rfl) fun _ => ?_)|refine Z01 ?_|refine Z02 ?_|refine Z03 ?_|refine Z04 ?_|refine Z05 ?_
    |refine Z06 ?_|refine Z07 ?_|refine Z08 ?_|refine Z09 ?_|refine Z10 ?_|refine Z11 ?_|refine Z12 ?_|refine Z13 ?_|refine Z14 ?_|refine Z15 ?_|refine Z17 ?_
    |refine Z18 ?_|refine Z19 ?_|refine Z22 ?_|refine Z23 ?_|refine Z24 ?_|refine Z25 ?_|refine Z26 ?_|refine Z27 ?_|refine Z28 ?_|refine Z29 ?_|refine Z30 ?_
    |refine Z31 ?_|refine Z32 ?_|refine Z67 ?_|refine Z70 ?_|refine Z81 fun _ => ?_|refine Z82 fun _ => ?_)
  rename_i b2 b3 b4 b5
  refine st_loop (ι := Nat) (fun i => i ≤ 6) (fun i => [(2, pt b2 0), (3, pt b3 0), (4, pt b4 0), (5, pt b5 0), (6, N .u64 (crun subg (D 6 a) (D 6 b) i).2), (7, N .i64 i)])
    (fun i => [.blk b5 (LV .u64 ((crun subg (D 6 a) (D 6 b) i).1 ++ List.replicate (6 - i) 0)) 68, .blk b3 (LV .u64 (D 6 b)) 68, .blk b4 (LV .u64 (List.replicate 6 0)) 68, .blk b2 (LV .u64 (D 6 a)) 68]) (fun i => 6 - i) 0 (by omega) (by rw [crun_0]; exact (by repeat (first | apply subL.nil | refine subL.cons (by rfl) ?_))) (by rw [crun_0]; exact (by repeat (first | apply SubW.nil | refine SubW.cons (by repeat (first | apply Find.here | apply Find.there)) ?_))) ?_
  intro i hi
  have hc1 := crun_subD_le 6 a b i
  have hl := crun_len subg (D 6 a) (D 6 b) i
  have hol : ((crun subg (D 6 a) (D 6 b) i).1 ++ List.replicate (6 - i) 0).length = 6 := by simp; omega
  by_cases h : i < 6
  · repeat (first
      |(refine st_cmp (r := true) (by rfl) (by rfl) (cmpN_t (by first | (simp only [cmpP]; done) | (simp only [cmpP]; omega))) (by rfl) ?_)|refine Z01 ?_|refine Z02 ?_
      |refine Z03 ?_|refine Z04 ?_|refine Z05 ?_|refine Z06 ?_|refine Z07 ?_|refine Z08 ?_|refine Z09 ?_|refine Z10 ?_|refine Z11 ?_|refine Z12 ?_|refine Z13 ?_
      |refine Z14 ?_|refine Z15 ?_|refine Z17 ?_|refine Z18 ?_|refine Z19 ?_|refine Z22 ?_|refine Z23 ?_|refine Z24 ?_|refine Z25 ?_|refine Z26 ?_|refine Z27 ?_
      |refine Z28 ?_|refine Z29 ?_|refine Z30 ?_|refine Z31 ?_|refine Z32 ?_|refine Z67 ?_|refine Z70 ?_|refine Z81 fun _ => ?_|refine Z82 fun _ => ?_)
    refine st_draw1 (by rfl) ?_
    repeat (first
      |refine Zqf (by intro _ _ _;(first
        |(refine st_callX (by rfl) (by rfl) (by rfl) (sub64X _ _ _ hc1) (by rfl) ?_)|refine Z01 ?_|refine Z02 ?_|refine Z15 ?_|refine Z17 ?_|refine Z18 ?_|refine Z19 ?_
        |refine Z22 ?_|refine Z23 ?_|refine Z70 ?_);exact Zq) ?_
      |refine Zqp (by intro _ _ _;(first
        |refine Z24 ?_|refine Z25 ?_|refine Z26 ?_|refine Z27 ?_|refine Z28 ?_|refine Z67 ?_|refine Z23 ?_);exact Zq) ?_
      |refine Zqe (by intro _ _ _;(first
        |refine Z29 ?_|refine Z30 ?_|refine Z31 ?_|refine Z32 ?_);exact Zqq) ?_
      |refine Zqn ?_)
    refine Zq0 ?_ (by kernel_rfl)
    rw [← subg_fst, ← subg_snd, ← crun_snd]
    repeat (first
      |(rw [crun_new subg (D 6 a) (D 6 b) i 6 h])|refine Z01 ?_|refine Z02 ?_|refine Z03 ?_|refine Z04 ?_|refine Z05 ?_|refine Z06 ?_|refine Z07 ?_|refine Z08 ?_
      |refine Z09 ?_|refine Z10 ?_|refine Z11 ?_|refine Z12 ?_|refine Z13 ?_|refine Z14 ?_|refine Z15 ?_|refine Z17 ?_|refine Z18 ?_|refine Z19 ?_|refine Z22 ?_
      |refine Z23 ?_|refine Z24 ?_|refine Z25 ?_|refine Z26 ?_|refine Z27 ?_|refine Z28 ?_|refine Z29 ?_|refine Z30 ?_|refine Z31 ?_|refine Z32 ?_|refine Z67 ?_
      |refine Z70 ?_|refine Z81 fun _ => ?_|refine Z82 fun _ => ?_)
    exact st_round (i + 1) (by omega) (by omega) (by repeat (first | apply subL.nil | refine subL.cons (by rfl) ?_)) (by repeat (first | apply SubW.nil | refine SubW.cons (by repeat (first | apply Find.here | apply Find.there)) ?_))
  · have hie : i = 6 := by omega
    subst hie
    rw [crun_subD ha (Nat.lt_of_le_of_lt hb ha), D_sbn hb, Nat.sub_self, List.replicate_zero, List.append_nil] at *
    simp only at *
    have hl3 := hl0 (a - b)
    repeat (first
      |(refine st_cmp (r := false) (by rfl) (by rfl) (cmpN_f (by first | (simp only [cmpQ]; done) | (simp only [cmpQ]; omega))) (by rfl) ?_)|refine Z01 ?_|refine Z02 ?_
      |refine Z03 ?_|refine Z04 ?_|refine Z05 ?_|refine Z06 ?_|refine Z07 ?_|refine Z08 ?_|refine Z09 ?_|refine Z10 ?_|refine Z11 ?_|refine Z12 ?_|refine Z13 ?_
      |refine Z14 ?_|refine Z15 ?_|refine Z17 ?_|refine Z18 ?_|refine Z19 ?_|refine Z22 ?_|refine Z23 ?_|refine Z24 ?_|refine Z25 ?_|refine Z26 ?_|refine Z27 ?_
      |refine Z28 ?_|refine Z29 ?_|refine Z30 ?_|refine Z31 ?_|refine Z32 ?_|refine Z67 ?_|refine Z70 ?_|refine Z81 fun _ => ?_|refine Z82 fun _ => ?_)
    refine Zec fun _ hw => post_of hw SubW.nil ⟨?_, rfl⟩
    rfl
theorem qreduce_spec {a : Nat} (ha : a < W ^ 6) : Spec Try.prog 110 [LV .u64 (D 6 a)] NoPre [] (IsV (LV .u64 (D 6 (a % p)))) := by
  refine mk_spec Try.func110 rfl rfl rfl fun w _ => ?_
  have hla := D_len 6 a
  repeat (first
    |(refine st_alloc (v := LV .u64 (List.replicate 6 0)) (by rfl) (by rfl) fun _ => ?_)|refine Z03 ?_|refine Z04 ?_|refine Z05 ?_|refine Z06 ?_|refine Z07 ?_
    |refine Z08 ?_|refine Z09 ?_|refine Z10 ?_|refine Z11 ?_|refine Z12 ?_|refine Z13 ?_|refine Z14 ?_|refine Z24 ?_|refine Z25 ?_|refine Z26 ?_|refine Z27 ?_
    |refine Z28 ?_|refine Z29 ?_|refine Z30 ?_|refine Z31 ?_|refine Z32 ?_|refine Z54 ?_|refine Z67 ?_|refine Z81 fun _ => ?_|refine Z82 fun _ => ?_)
  rename_i b1 b2
  refine st_loop (ι := Nat) (fun x => x < W ^ 6 ∧ x % p = a % p) (fun _ => [(1, pt b1 0), (2, pt b2 0)])
    (fun x => [.blk b1 (LV .u64 (D 6 x)) 68, .blk b2 (LV .u64 (List.replicate 6 0)) 68]) (fun x => x) a ⟨ha, rfl⟩ (by repeat (first | apply subL.nil | refine subL.cons (by rfl) ?_)) (by repeat (first | apply SubW.nil | refine SubW.cons (by repeat (first | apply Find.here | apply Find.there)) ?_)) ?_
  rintro x ⟨hx, hxa⟩
  have hlx := D_len 6 x
  have hp0 := p_pos
  by_cases h : x < p
  · have hv : (!decide (x < p)) = false := by simp [h]
    repeat (first
      |(refine st_callV (by rfl) (by rfl) (by rfl) (qbelow_spec hx) (fun _ _ => trivial) (by rfl) ?_)|(rw [hv])|refine Z03 ?_|refine Z04 ?_|refine Z05 ?_|refine Z06 ?_
      |refine Z07 ?_|refine Z08 ?_|refine Z09 ?_|refine Z10 ?_|refine Z11 ?_|refine Z12 ?_|refine Z13 ?_|refine Z14 ?_|refine Z24 ?_|refine Z25 ?_|refine Z26 ?_
      |refine Z27 ?_|refine Z28 ?_|refine Z29 ?_|refine Z30 ?_|refine Z31 ?_|refine Z32 ?_|refine Z54 ?_|refine Z67 ?_|refine Z81 fun _ => ?_|refine Z82 fun _ => ?_)
    refine Zec fun _ hw => post_of hw SubW.nil ⟨?_, rfl⟩
    rw [← hxa, Nat.mod_eq_of_lt h]
  · have hv : (!decide (x < p)) = true := by simp [h]
    have hl2 := D_len 6 (x - p)
    repeat (first
      |(refine st_callV (by rfl) (by rfl) (by rfl) (qbelow_spec hx) (fun _ _ => trivial) (by rfl) ?_)|(rw [hv])|refine Z03 ?_|refine Z04 ?_|refine Z05 ?_|refine Z06 ?_
      |refine Z07 ?_|refine Z08 ?_|refine Z09 ?_|refine Z10 ?_|refine Z11 ?_|refine Z12 ?_|refine Z13 ?_|refine Z14 ?_|refine Z24 ?_|refine Z25 ?_|refine Z26 ?_
      |refine Z27 ?_|refine Z28 ?_|refine Z29 ?_|refine Z30 ?_|refine Z31 ?_|refine Z32 ?_|refine Z54 ?_|refine Z67 ?_|refine Z81 fun _ => ?_|refine Z82 fun _ => ?_)
    refine st_draw1 (by rfl) ?_
    repeat (first
      |refine Zqf (by intro _ _ _;(first
        |refine Z54 ?_);exact Zq) ?_
      |refine Zqp (by intro _ _ _;refine st_callV (by rfl) (by rfl) (by rfl) (qP_spec) (fun _ _ => trivial) (by rfl) ?_;exact Zq) ?_
      |refine Zqp (by intro _ _ _;refine st_callV (by rfl) (by rfl) (by rfl) (qminus_spec hx (Nat.le_of_not_lt h)) (fun _ _ => trivial) (by rfl) ?_;exact Zq) ?_
      |refine Zqp (by intro _ _ _;(first
        |refine Z24 ?_|refine Z25 ?_|refine Z26 ?_|refine Z27 ?_|refine Z28 ?_|refine Z67 ?_);exact Zq) ?_
      |refine Zqe (by intro _ _ _;(first
        |refine Z29 ?_|refine Z30 ?_|refine Z31 ?_|refine Z32 ?_);exact Zqq) ?_
      |refine Zqn ?_)
    refine Zq0 ?_ (by kernel_rfl)
    repeat (first
      |refine Z03 ?_|refine Z04 ?_|refine Z05 ?_|refine Z06 ?_|refine Z07 ?_|refine Z08 ?_|refine Z09 ?_|refine Z10 ?_|refine Z11 ?_|refine Z12 ?_|refine Z13 ?_
      |refine Z14 ?_|refine Z24 ?_|refine Z25 ?_|refine Z26 ?_|refine Z27 ?_|refine Z28 ?_|refine Z29 ?_|refine Z30 ?_|refine Z31 ?_|refine Z32 ?_|refine Z54 ?_
      |refine Z67 ?_|refine Z81 fun _ => ?_|refine Z82 fun _ => ?_)
    exact st_round (x - p) ⟨by omega, by rw [← hxa, ← Nat.mod_eq_sub_mod (by omega)]⟩ (by omega) (by repeat (first | apply subL.nil | refine subL.cons (by rfl) ?_)) (by repeat (first | apply SubW.nil | refine SubW.cons (by repeat (first | apply Find.here | apply Find.there)) ?_))
theorem seven_D {a x : Nat} (hx : x < 18446744073709551616) (ha : a < W ^ 6) : [x, (D 6 a).getD 0 0, (D 6 a).getD 1 0, (D 6 a).getD 2 0, (D 6 a).getD 3 0, (D 6 a).getD 4 0, (D 6 a).getD 5 0] = D 7 (a * W + x) := by
  have h6 : [(D 6 a).getD 0 0, (D 6 a).getD 1 0, (D 6 a).getD 2 0, (D 6 a).getD 3 0, (D 6 a).getD 4 0, (D 6 a).getD 5 0] = D 6 a := six (D_len 6 a)
  rw [h6]
  refine D_of_V (Lt.cons hx (D_lt _ _)) (by simp) ?_
  rw [V_def, val_cons, ← V_def, V_D' ha]
  rw [Nat.mul_comm a, Nat.add_comm]
theorem six_D {X : Nat} : [(D 7 X).getD 0 0, (D 7 X).getD 1 0, (D 7 X).getD 2 0, (D 7 X).getD 3 0, (D 7 X).getD 4 0, (D 7 X).getD 5 0] = D 6 X := by
  rw [← six (D_len 6 X)]
  simp only [D_getD _ _ _ (show 0 < 7 by decide), D_getD _ _ _ (show 1 < 7 by decide), D_getD _ _ _ (show 2 < 7 by decide), D_getD _ _ _ (show 3 < 7 by decide), D_getD _ _ _ (show 4 < 7 by decide), D_getD _ _ _ (show 5 < 7 by decide),
    D_getD _ _ _ (show 0 < 6 by decide), D_getD _ _ _ (show 1 < 6 by decide), D_getD _ _ _ (show 2 < 6 by decide), D_getD _ _ _ (show 3 < 6 by decide), D_getD _ _ _ (show 4 < 6 by decide), D_getD _ _ _ (show 5 < 6 by decide)]
theorem p_top : (D 6 p).getD 5 0 = 1873798617647539866 := by rw [← p_lit]; rfl
theorem p_hi : p < 1873798617647539867 * W ^ 5 := by decide +kernel
set_option maxHeartbeats 4000000 in
theorem qnext_spec {a x : Nat} (ha : a < p) (hx : x < 18446744073709551616) : Spec Try.prog 99 [LV .u64 (D 6 a), N .u64 x] NoPre [] (IsV (LV .u64 (D 6 ((a * W + x) % p)))) := by
  refine mk_spec Try.func99 rfl rfl rfl fun w _ => ?_
  have hpl := p_lt
  have haW : a < W ^ 6 := by omega
  have hla := D_len 6 a
  have hlp := D_len 6 p
  have h7 := seven_D hx haW
  have hpt := p_top
  obtain ⟨Z, hZ⟩ : ∃ Z, Z = a * W + x := ⟨_, rfl⟩
  rw [← hZ] at h7 ⊢
  have hlz := D_len 7 Z
  have hg6 := D_getD 7 Z 6 (by decide)
  have hg5 := D_getD 7 Z 5 (by decide)
  have hZW : Z < W ^ 7 := by
    rw [hZ, Nat.pow_succ]
    have : a * W + W ≤ W ^ 6 * W := by rw [← Nat.succ_mul]; exact Nat.mul_le_mul_right _ haW
    have hW : W = 18446744073709551616 := rfl
    omega
  have h56 : Z / W ^ 6 % W * W + Z / W ^ 5 % W = Z / W ^ 5 := by
    rw [Nat.mod_eq_of_lt (Nat.div_lt_of_lt_mul (by rw [← Nat.pow_succ]; exact hZW)), ← div_next]
  have hq1 : Z / W ^ 5 / 1873798617647539867 * p ≤ Z := by
    refine Nat.le_trans (Nat.mul_le_mul_left _ (Nat.le_of_lt p_hi)) ?_
    rw [← Nat.mul_assoc]
    exact Nat.le_trans (Nat.mul_le_mul_right _ (Nat.div_mul_le_self _ _)) (Nat.div_mul_le_self _ _)
  have ht6 : Z / W ^ 6 % W < 1873798617647539867 := by
    have : Z / W ^ 6 < 1873798617647539867 := by
      refine Nat.div_lt_of_lt_mul ?_
      have h1 : a * W + W ≤ p * W := by rw [← Nat.succ_mul]; exact Nat.mul_le_mul_right _ ha
      have h2 : p * W < 1873798617647539867 * W ^ 5 * W := Nat.mul_lt_mul_of_pos_right p_hi W_pos
      have hW : W = 18446744073709551616 := rfl
      rw [Nat.mul_comm, Nat.pow_succ, ← Nat.mul_assoc]
      omega
    exact Nat.lt_of_le_of_lt (Nat.mod_le _ _) this
  have hg65 : (D 7 Z).getD 6 0 < 1873798617647539867 := by rw [hg6]; exact ht6
  have hg55 := (D_lt 7 Z).getD (by decide) 5
  have hq0 : ((D 7 Z).getD 6 0 * 18446744073709551616 + (D 7 Z).getD 5 0) / 1873798617647539867 = Z / W ^ 5 / 1873798617647539867 := by
    rw [hg6, hg5, show (18446744073709551616 : Nat) = W from rfl, h56]
  have hq2 := quo_lt hg65 hg55
  rw [hq0] at hq2
  generalize Z / W ^ 5 / 1873798617647539867 = Q at *
  rw [Nat.mul_comm Q] at hq1
  have h7p : [x, (D 6 a).getD 0 0, (D 6 a).getD 1 0, (D 6 a).getD 2 0, (D 6 a).getD 3 0, (D 6 a).getD 4 0, (D 6 a).getD 5 0] ++ List.replicate (7 - [x, (D 6 a).getD 0 0, (D 6 a).getD 1 0, (D 6 a).getD 2 0, (D 6 a).getD 3 0, (D 6 a).getD 4 0, (D 6 a).getD 5 0].length) 0 = D 7 Z := (List.append_nil _).trans h7
  have hl9 := D_len 7 (Z - p * Q)
  repeat (first
    |(refine st_callV (by rfl) (by rfl) (by rfl) (qP_spec) (fun _ _ => trivial) (by rfl) ?_)
    |(refine st_alloc (v := LV .u64 (List.replicate 7 0)) (by rfl) (by rfl) fun _ => ?_)
    |(refine st_alloc (v := LV .u64 (List.replicate 6 0)) (by rfl) (by rfl) fun _ => ?_)
    |((refine st_buildP (kk := .u64) (vs := [x, (D 6 a).getD 0 0, (D 6 a).getD 1 0, (D 6 a).getD 2 0, (D 6 a).getD 3 0, (D 6 a).getD 4 0, (D 6 a).getD 5 0]) (by rfl) (by rfl) (by rfl) (by rfl) (by rfl) (by rfl) (by rfl) (by rfl) ?_; rw [h7p]))
    |(rw [hpt])
    |((refine st_callV (by rfl) (by rfl) (by rfl) (div64_spec ((D 7 Z).getD 6 0) ((D 7 Z).getD 5 0) 1873798617647539867 hg65 hg55 (by decide)) (fun _ _ => trivial) (by rfl) ?_; rw [hq0]))
    |(refine st_callV (by rfl) (by rfl) (by rfl) (qless_spec hZW hq2 hq1) (fun _ _ => trivial) (by rfl) ?_)|refine Z01 ?_|refine Z02 ?_|refine Z03 ?_|refine Z04 ?_
    |refine Z05 ?_|refine Z06 ?_|refine Z07 ?_|refine Z08 ?_|refine Z09 ?_|refine Z10 ?_|refine Z11 ?_|refine Z12 ?_|refine Z13 ?_|refine Z14 ?_|refine Z17 ?_
    |refine Z18 ?_|refine Z19 ?_|refine Z22 ?_|refine Z23 ?_|refine Z24 ?_|refine Z25 ?_|refine Z26 ?_|refine Z27 ?_|refine Z28 ?_|refine Z29 ?_|refine Z30 ?_
    |refine Z31 ?_|refine Z32 ?_|refine Z33 ?_|refine Z65 ?_|refine Z67 ?_|refine Z81 fun _ => ?_|refine Z82 fun _ => ?_)
  rename_i b2 b4 b5 b6
  have hmo : (Z - p * Q) % p = Z % p := by
    have : Z = (Z - p * Q) + p * Q := by omega
    conv => rhs; rw [this, Nat.add_mul_mod_self_left]
  have hX0 : Z - p * Q < W ^ 7 := by omega
  generalize Z - p * Q = X0 at *
  clear h7 h7p hg6 hg5 hg65 hg55 hq0 hq1 hq2 h56 ht6
  refine st_loop (ι := Nat) (fun X => X < W ^ 7 ∧ X % p = Z % p) (fun _ => [(2, pt b2 0), (4, pt b4 0), (5, pt b5 0), (6, pt b6 0)])
    (fun X => [.blk b6 (LV .u64 (D 7 X)) 109, .blk b5 (LV .u64 (D 6 p)) 68, .blk b4 (LV .u64 (List.replicate 6 0)) 68, .blk b2 (LV .u64 (D 6 a)) 68]) (fun X => X) X0 ⟨hX0, hmo⟩ (by repeat (first | apply subL.nil | refine subL.cons (by rfl) ?_)) (by repeat (first | apply SubW.nil | refine SubW.cons (by repeat (first | apply Find.here | apply Find.there)) ?_)) ?_
  rintro X ⟨hX, hXm⟩
  have hlx := D_len 7 X
  have hgx := D_getD 7 X 6 (by decide)
  have hgx2 : (D 7 X).getD 6 0 = X / W ^ 6 := by rw [hgx, Nat.mod_eq_of_lt (Nat.div_lt_of_lt_mul (by rw [← Nat.pow_succ]; exact hX))]
  repeat (first
    |refine Z01 ?_|refine Z02 ?_|refine Z03 ?_|refine Z04 ?_|refine Z05 ?_|refine Z06 ?_|refine Z07 ?_|refine Z08 ?_|refine Z09 ?_|refine Z10 ?_|refine Z11 ?_
    |refine Z12 ?_|refine Z13 ?_|refine Z14 ?_|refine Z17 ?_|refine Z18 ?_|refine Z19 ?_|refine Z22 ?_|refine Z23 ?_|refine Z24 ?_|refine Z25 ?_|refine Z26 ?_
    |refine Z27 ?_|refine Z28 ?_|refine Z29 ?_|refine Z30 ?_|refine Z31 ?_|refine Z32 ?_|refine Z33 ?_|refine Z65 ?_|refine Z67 ?_|refine Z81 fun _ => ?_
    |refine Z82 fun _ => ?_)
  refine st_cond (by rfl) (fun hc => ?_) (fun hc => ?_)
  · have hXp : p * 1 ≤ X := by
      rw [hgx2] at hc
      have := Nat.div_mul_le_self X (W ^ 6)
      have : 1 * W ^ 6 ≤ X / W ^ 6 * W ^ 6 := Nat.mul_le_mul_right _ hc
      omega
    have hl8 := D_len 7 (X - p * 1)
    have hp0 := p_pos
    repeat (first
      |(refine st_callV (by rfl) (by rfl) (by rfl) (qless_spec hX (by decide) hXp) (fun _ _ => trivial) (by rfl) ?_)|refine Z01 ?_|refine Z02 ?_|refine Z03 ?_
      |refine Z04 ?_|refine Z05 ?_|refine Z06 ?_|refine Z07 ?_|refine Z08 ?_|refine Z09 ?_|refine Z10 ?_|refine Z11 ?_|refine Z12 ?_|refine Z13 ?_|refine Z14 ?_
      |refine Z17 ?_|refine Z18 ?_|refine Z19 ?_|refine Z22 ?_|refine Z23 ?_|refine Z24 ?_|refine Z25 ?_|refine Z26 ?_|refine Z27 ?_|refine Z28 ?_|refine Z29 ?_
      |refine Z30 ?_|refine Z31 ?_|refine Z32 ?_|refine Z33 ?_|refine Z65 ?_|refine Z67 ?_|refine Z81 fun _ => ?_|refine Z82 fun _ => ?_)
    exact st_round (X - p * 1) ⟨by omega, by rw [← hXm, Nat.mul_one, ← Nat.mod_eq_sub_mod (by omega)]⟩ (by omega) (by repeat (first | apply subL.nil | refine subL.cons (by rfl) ?_)) (by repeat (first | apply SubW.nil | refine SubW.cons (by repeat (first | apply Find.here | apply Find.there)) ?_))
  · have hXW : X < W ^ 6 := by
      rw [hgx2] at hc
      have h0 : X / W ^ 6 = 0 := by omega
      rcases Nat.div_eq_zero_iff.1 h0 with h | h
      · exact absurd h (by decide)
      · exact h
    have h6p : [(D 7 X).getD 0 0, (D 7 X).getD 1 0, (D 7 X).getD 2 0, (D 7 X).getD 3 0, (D 7 X).getD 4 0, (D 7 X).getD 5 0] ++ List.replicate (6 - [(D 7 X).getD 0 0, (D 7 X).getD 1 0, (D 7 X).getD 2 0, (D 7 X).getD 3 0, (D 7 X).getD 4 0, (D 7 X).getD 5 0].length) 0 = D 6 X := (List.append_nil _).trans six_D
    have hl8 := D_len 6 (X % p)
    repeat (first
      
      |((refine st_buildP (kk := .u64) (vs := [(D 7 X).getD 0 0, (D 7 X).getD 1 0, (D 7 X).getD 2 0, (D 7 X).getD 3 0, (D 7 X).getD 4 0, (D 7 X).getD 5 0]) (by rfl) (by rfl) (by rfl) (by rfl) (by rfl) (by rfl) (by rfl) (by rfl) ?_; rw [h6p]))
      |(refine st_callV (by rfl) (by rfl) (by rfl) (qreduce_spec hXW) (fun _ _ => trivial) (by rfl) ?_)|refine Z01 ?_|refine Z02 ?_|refine Z03 ?_|refine Z04 ?_
      |refine Z05 ?_|refine Z06 ?_|refine Z07 ?_|refine Z08 ?_|refine Z09 ?_|refine Z10 ?_|refine Z11 ?_|refine Z12 ?_|refine Z13 ?_|refine Z14 ?_|refine Z17 ?_
      |refine Z18 ?_|refine Z19 ?_|refine Z22 ?_|refine Z23 ?_|refine Z24 ?_|refine Z25 ?_|refine Z26 ?_|refine Z27 ?_|refine Z28 ?_|refine Z29 ?_|refine Z30 ?_
      |refine Z31 ?_|refine Z32 ?_|refine Z33 ?_|refine Z65 ?_|refine Z67 ?_|refine Z81 fun _ => ?_|refine Z82 fun _ => ?_)
    refine Zec fun _ hw => post_of hw SubW.nil ⟨?_, rfl⟩
    rw [hXm]
end Go.Proofs.Ytbjfjkmidhfgcaa.L
namespace Go.Proofs.Ytbjfjkmidhfgcaa.L
open Go Go.Proofs
set_option maxRecDepth 100000
attribute [local irreducible] Code.wp wpList Af bodyPost L.Go
open Num
attribute [local simp] D_len
theorem qwide_spec (s : Value) (xs : List Nat) (hx : Lt 18446744073709551616 xs) (hl : xs.length < 9223372036854775808) :
    Spec Try.prog 88 [s] (fun w => Rd w s (xs.map (N .u64))) [] (IsV (LV .u64 (D 6 (V xs % p)))) := by
  refine mk_spec Try.func88 rfl rfl rfl fun w hr => ?_
  have hr := RdC.mk0 hr
  have hl0 := fun x => D_len 6 x
  have hz : V xs / W ^ xs.length = 0 := Nat.div_eq_of_lt (V_lt hx)
  have h0 := D_zero 6
  repeat (first
    |(refine st_alloc (v := LV .u64 (List.replicate 6 0)) (by rfl) (by rfl) fun _ => ?_)|refine Z01 ?_|refine Z02 ?_|refine Z03 ?_|refine Z04 ?_|refine Z05 ?_
    |refine Z06 ?_|refine Z07 ?_|refine Z08 ?_|refine Z09 ?_|refine Z10 ?_|refine Z11 ?_|refine Z12 ?_|refine Z13 ?_|refine Z14 ?_|refine Z16 ?_|refine Z17 ?_
    |refine Z18 ?_|refine Z20 ?_|refine Z21 ?_|refine Z22 ?_|refine Z23 ?_|refine Z24 ?_|refine Z25 ?_|refine Z26 ?_|refine Z27 ?_|refine Z28 ?_|refine Z29 ?_
    |refine Z30 ?_|refine Z31 ?_|refine Z32 ?_|refine Z58 ?_|refine Z59 ?_|refine Z67 ?_|refine Z71 ?_|refine Z82 fun _ => ?_)
  rename_i b2 b3
  refine st_loop (ι := Nat) (fun j => j ≤ xs.length) (fun j => [(0, s), (2, pt b2 0), (3, pt b3 0), (4, .int .i64 ((j : Int) - 1))])
    (fun j => [.blk b3 (LV .u64 (D 6 (V xs / W ^ j % p))) 68, .blk b2 (LV .u64 (List.replicate 6 0)) 68]) (fun j => j) xs.length (Nat.le_refl _) (by repeat (first | apply subL.nil | refine subL.cons (by rfl) ?_)) (by rw [hz, Nat.zero_mod, h0]; exact (by repeat (first | apply SubW.nil | refine SubW.cons (by repeat (first | apply Find.here | apply Find.there)) ?_))) ?_
  intro j hj
  have hlj := hl0 (V xs / W ^ j % p)
  repeat (first
    |refine Z01 ?_|refine Z02 ?_|refine Z03 ?_|refine Z04 ?_|refine Z05 ?_|refine Z06 ?_|refine Z07 ?_|refine Z08 ?_|refine Z09 ?_|refine Z10 ?_|refine Z11 ?_
    |refine Z12 ?_|refine Z13 ?_|refine Z14 ?_|refine Z16 ?_|refine Z17 ?_|refine Z18 ?_|refine Z20 ?_|refine Z21 ?_|refine Z22 ?_|refine Z23 ?_|refine Z24 ?_
    |refine Z25 ?_|refine Z26 ?_|refine Z27 ?_|refine Z28 ?_|refine Z29 ?_|refine Z30 ?_|refine Z31 ?_|refine Z32 ?_|refine Z58 ?_|refine Z59 ?_|refine Z67 ?_
    |refine Z71 ?_|refine Z82 fun _ => ?_)
  refine st_cond (by rfl) (fun h => ?_) (fun h => ?_)
  · have h0 : (0 : Int) ≤ (j : Int) - 1 := h
    obtain ⟨i, rfl⟩ : ∃ i, j = i + 1 := ⟨j - 1, by omega⟩
    rw [show ((i + 1 : Nat) : Int) - 1 = Int.ofNat i by simp]
    have hdb := hx.getD (by decide) i
    have hnx : (V xs / W ^ (i + 1) % p * W + xs.getD i 0) % p = V xs / W ^ i % p := by
      rw [V_getD hx, Nat.add_mod, Nat.mod_mul_mod, ← Nat.add_mod, ← div_next]
    repeat (first
      |refine Z01 ?_|refine Z02 ?_|refine Z03 ?_|refine Z04 ?_|refine Z05 ?_|refine Z06 ?_|refine Z07 ?_|refine Z08 ?_|refine Z09 ?_|refine Z10 ?_|refine Z11 ?_
      |refine Z12 ?_|refine Z13 ?_|refine Z14 ?_|refine Z16 ?_|refine Z17 ?_|refine Z18 ?_|refine Z20 ?_|refine Z21 ?_|refine Z22 ?_|refine Z23 ?_|refine Z24 ?_
      |refine Z25 ?_|refine Z26 ?_|refine Z27 ?_|refine Z28 ?_|refine Z29 ?_|refine Z30 ?_|refine Z31 ?_|refine Z32 ?_|refine Z58 ?_|refine Z59 ?_|refine Z67 ?_
      |refine Z71 ?_|refine Z82 fun _ => ?_)
    refine st_draw1 (by rfl) ?_
    repeat (first
      |refine Zqf (by intro _ _ _;(first
        |refine Z01 ?_|refine Z02 ?_|refine Z16 ?_|refine Z17 ?_|refine Z18 ?_|refine Z20 ?_|refine Z21 ?_|refine Z22 ?_|refine Z23 ?_|refine Z58 ?_|refine Z59 ?_
        |refine Z71 ?_);exact Zq) ?_
      |refine Zqp (by intro _ _ _;(refine st_callV (by rfl) (by rfl) (by rfl) (qnext_spec (a := V xs / W ^ (i + 1) % p) (x := xs.getD i 0) (Nat.mod_lt _ p_pos) hdb) (fun _ _ => trivial) (by rfl) ?_; rw [hnx]);exact Zq) ?_
      |refine Zqp (by intro _ _ _;(first
        |refine Z24 ?_|refine Z25 ?_|refine Z26 ?_|refine Z27 ?_|refine Z28 ?_|refine Z67 ?_|refine Z23 ?_|refine Z20 ?_|refine Z21 ?_);exact Zq) ?_
      |refine Zqe (by intro _ _ _;(first
        |refine Z29 ?_|refine Z30 ?_|refine Z31 ?_|refine Z32 ?_);exact Zqq) ?_
      |refine Zqn ?_)
    refine Zq0 ?_ (by kernel_rfl)
    repeat (first
      |refine Z01 ?_|refine Z02 ?_|refine Z03 ?_|refine Z04 ?_|refine Z05 ?_|refine Z06 ?_|refine Z07 ?_|refine Z08 ?_|refine Z09 ?_|refine Z10 ?_|refine Z11 ?_
      |refine Z12 ?_|refine Z13 ?_|refine Z14 ?_|refine Z16 ?_|refine Z17 ?_|refine Z18 ?_|refine Z20 ?_|refine Z21 ?_|refine Z22 ?_|refine Z23 ?_|refine Z24 ?_
      |refine Z25 ?_|refine Z26 ?_|refine Z27 ?_|refine Z28 ?_|refine Z29 ?_|refine Z30 ?_|refine Z31 ?_|refine Z32 ?_|refine Z58 ?_|refine Z59 ?_|refine Z67 ?_
      |refine Z71 ?_|refine Z82 fun _ => ?_)
    refine st_round i (by omega) (by omega) ?_ (by repeat (first | apply SubW.nil | refine SubW.cons (by repeat (first | apply Find.here | apply Find.there)) ?_))
    rw [show ((i : Int) - 1) = Int.ofNat i - Int.ofNat 1 from rfl]
    exact (by repeat (first | apply subL.nil | refine subL.cons (by rfl) ?_))
  · have hp0 : ¬ (0 : Int) ≤ (j : Int) - 1 := h
    have hj0 : j = 0 := by omega
    subst hj0
    rw [Nat.pow_zero, Nat.div_one] at *
    repeat (first
      |refine Z01 ?_|refine Z02 ?_|refine Z03 ?_|refine Z04 ?_|refine Z05 ?_|refine Z06 ?_|refine Z07 ?_|refine Z08 ?_|refine Z09 ?_|refine Z10 ?_|refine Z11 ?_
      |refine Z12 ?_|refine Z13 ?_|refine Z14 ?_|refine Z16 ?_|refine Z17 ?_|refine Z18 ?_|refine Z20 ?_|refine Z21 ?_|refine Z22 ?_|refine Z23 ?_|refine Z24 ?_
      |refine Z25 ?_|refine Z26 ?_|refine Z27 ?_|refine Z28 ?_|refine Z29 ?_|refine Z30 ?_|refine Z31 ?_|refine Z32 ?_|refine Z58 ?_|refine Z59 ?_|refine Z67 ?_
      |refine Z71 ?_|refine Z82 fun _ => ?_)
    refine Zec fun _ hw => post_of hw SubW.nil ⟨?_, rfl⟩
    rfl
end Go.Proofs.Ytbjfjkmidhfgcaa.L
namespace Go.Proofs.Ytbjfjkmidhfgcaa.L.Kf
open Pr
abbrev P3 (n : Nat) : Prop := Prime n ∧ n % 4 = 3
section roots
variable {n : Nat} [NeZero n]
variable (hp : P3 n)
include hp
omit hp
include hp
omit hp
end roots
structure K2 (n : Nat) where
  re : Fin n
  im : Fin n
deriving DecidableEq
namespace K2
variable {n : Nat} [NeZero n]
def zero : K2 n := ⟨0, 0⟩
def one : K2 n := ⟨1, 0⟩
def add (a b : K2 n) : K2 n := ⟨a.re + b.re, a.im + b.im⟩
def neg (a : K2 n) : K2 n := ⟨-a.re, -a.im⟩
def sub (a b : K2 n) : K2 n := ⟨a.re - b.re, a.im - b.im⟩
def mul (a b : K2 n) : K2 n := ⟨a.re * b.re - a.im * b.im, a.re * b.im + a.im * b.re⟩
def conj (a : K2 n) : K2 n := ⟨a.re, -a.im⟩
def scale (a : K2 n) (k : Fin n) : K2 n := ⟨a.re * k, a.im * k⟩
def norm (a : K2 n) : Fin n := a.re * a.re + a.im * a.im
def inv (a : K2 n) : K2 n := scale (conj a) (Kf.inv (norm a))
def pw (a : K2 n) : Nat → K2 n
  | 0 => one
  | k + 1 => mul (pw a k) a
variable (hp : P3 n)
include hp
omit hp
include hp
omit hp
include hp
end K2
end Go.Proofs.Ytbjfjkmidhfgcaa.L.Kf
namespace Go.Proofs.Ytbjfjkmidhfgcaa.L.Kf
open Pr
namespace K2
variable {n : Nat} [NeZero n]
def ch : Nat → Nat → Nat
  | _, 0 => 1
  | 0, _ + 1 => 0
  | m + 1, k + 1 => ch m k + ch m (k + 1)
def sm (f : Nat → K2 n) : Nat → K2 n
  | 0 => zero
  | k + 1 => add (sm f k) (f k)
variable (hp : P3 n)
include hp
omit hp
def hv (n : Nat) [NeZero n] : Fin n := κ n ((n + 1) / 2)
include hp
omit hp
include hp
omit hp
include hp
end K2
end Go.Proofs.Ytbjfjkmidhfgcaa.L.Kf
namespace Go.Proofs.Ytbjfjkmidhfgcaa.L
open Go Go.Proofs
set_option maxRecDepth 100000
attribute [local irreducible] Code.wp wpList Af bodyPost L.Go
open Num
attribute [local simp] D_len
abbrev Fq := Fin p
abbrev kp (a : Nat) : Fq := Kf.κ p a
theorem val_lt (x : Fq) : x.val < W ^ 6 := Nat.lt_trans x.isLt p_lt
end Go.Proofs.Ytbjfjkmidhfgcaa.L
namespace Go.Proofs.Ytbjfjkmidhfgcaa.L
open Go Go.Proofs
set_option maxRecDepth 100000
attribute [local irreducible] Code.wp wpList Af bodyPost L.Go
open Num
attribute [local simp] D_len
abbrev F2 := Kf.K2 p
abbrev k2 (a b : Nat) : F2 := ⟨kp a, kp b⟩
end Go.Proofs.Ytbjfjkmidhfgcaa.L
namespace Go.Proofs.Ytbjfjkmidhfgcaa.L
open Go Go.Proofs
set_option maxRecDepth 100000
attribute [local irreducible] Code.wp wpList Af bodyPost L.Go
open Num
attribute [local simp] D_len
theorem qwide64 (s : Value) (bs : List Nat) (h : Lt 256 bs) (hl : bs.length = 64) : Spec Try.prog 88 [s] (fun w => Rd w s ((D 8 (bval bs)).map (N .u64))) [] (IsV (LV .u64 (D 6 (bval bs % p)))) := by
  have := qwide_spec s (D 8 (bval bs)) (D_lt _ _) (by rw [D_len]; decide)
  rwa [w64 h hl] at this
set_option maxHeartbeats 8000000 in
theorem rfields_ok (s1 s2 : Value) (m d : List Nat) (k : Nat) (hm : Lt 256 m) (hd : Lt 256 d) (hl1 : m.length < 1073741824) (h1 : 1 ≤ d.length) (h2 : d.length ≤ 255) (hk1 : 1 ≤ k) (hk : k ≤ 63) :
    Spec Try.prog 64 [s1, s2, N .i64 k] (fun w => Rd w s1 (m.map (N .u8)) ∧ Rd w s2 (d.map (N .u8))) [] (fun v W => ∃ x, v = .tuple [x, N .i64 0].toArray ∧ W = [.sl (wide 12 x) ((fels (xpand m d (128 * k)) k).flatten.map (N .u64)) 71]) := by
  refine mk_spec Try.func64 rfl rfl rfl fun w hr => ?_
  have hr1 := RdC.mk0 hr.1
  have hr2 := RdC.mk0 hr.2
  have hxl := xpand_len m d (128 * k)
  have hxb := xpand_lt m d (128 * k)
  repeat (first
    |(refine st_cmp (r := true) (by rfl) (by rfl) (cmpN_t (by first | (simp only [cmpP]; done) | (simp only [cmpP]; omega))) (by rfl) ?_)
    |((refine st_call (by rfl) (by rfl) (by rfl) (rxexpand_ok s1 s2 m d (128 * k) hm hd hl1 h1 h2 (by omega) (by omega)) .nil (fun w hw => ⟨RdW.old hr1 w hw, RdW.old hr2 w hw⟩) (by rfl) ?_; rintro _ _ ⟨x, rfl, rfl⟩))
    |(refine st_cmp (r := false) (by rfl) (by rfl) (cmpN_f (by first | (simp only [cmpQ]; done) | (simp only [cmpQ]; omega))) (by rfl) ?_)|refine Z01 ?_|refine Z02 ?_
    |refine Z03 ?_|refine Z04 ?_|refine Z05 ?_|refine Z06 ?_|refine Z07 ?_|refine Z08 ?_|refine Z09 ?_|refine Z10 ?_|refine Z11 ?_|refine Z12 ?_|refine Z13 ?_
    |refine Z14 ?_|refine Z15 ?_|refine Z17 ?_|refine Z18 ?_|refine Z19 ?_|refine Z24 ?_|refine Z25 ?_|refine Z26 ?_|refine Z27 ?_|refine Z28 ?_|refine Z29 ?_
    |refine Z30 ?_|refine Z31 ?_|refine Z32 ?_|refine Z36 ?_|refine Z49 ?_|refine Z50 ?_|refine Z51 ?_|refine Z52 ?_|refine Z53 ?_|refine Z62 ?_|refine Z63 ?_
    |refine Z64 ?_|refine Z65 ?_|refine Z67 ?_|refine Z70 ?_|refine Z82 fun _ => ?_|refine Z84 fun _ => ?_|refine Z85 fun _ => ?_)
  generalize xpand m d (128 * k) = b at *
  refine st_own_nilM 12 71 ?_
  refine st_loop (ι := Nat × Value) (fun q => q.1 ≤ k) (fun q => [(2, N .i64 k), (9, x), (11, q.2), (12, N .i64 q.1)]) (fun q => [.sl (wide 12 q.2) ((fels b q.1).flatten.map (N .u64)) 71, .sl x (b.map (N .u8)) 5]) (fun q => k - q.1) (0, .slice none 0 0) (by simp) (by repeat (first | apply subL.nil | refine subL.cons (by rfl) ?_)) (by simp only [fels_0]; exact (by repeat (first | apply SubW.nil | refine SubW.cons (by repeat (first | apply Find.here | apply Find.there)) ?_))) ?_
  rintro ⟨i, u⟩ hi
  simp only at hi ⊢
  have hfs := fels_succ b i
  have hfl := fels_flat b i
  have hfl' := fels_len b i
  generalize hL : fels b i = L at *
  repeat (first
    |refine Z01 ?_|refine Z02 ?_|refine Z03 ?_|refine Z04 ?_|refine Z05 ?_|refine Z06 ?_|refine Z07 ?_|refine Z08 ?_|refine Z09 ?_|refine Z10 ?_|refine Z11 ?_
    |refine Z12 ?_|refine Z13 ?_|refine Z14 ?_|refine Z15 ?_|refine Z17 ?_|refine Z18 ?_|refine Z19 ?_|refine Z24 ?_|refine Z25 ?_|refine Z26 ?_|refine Z27 ?_
    |refine Z28 ?_|refine Z29 ?_|refine Z30 ?_|refine Z31 ?_|refine Z32 ?_|refine Z36 ?_|refine Z49 ?_|refine Z50 ?_|refine Z51 ?_|refine Z52 ?_|refine Z53 ?_
    |refine Z62 ?_|refine Z63 ?_|refine Z64 ?_|refine Z65 ?_|refine Z67 ?_|refine Z70 ?_|refine Z82 fun _ => ?_|refine Z84 fun _ => ?_|refine Z85 fun _ => ?_)
  refine st_cond (by rfl) (fun h => ?_) (fun h => ?_)
  · have hfe := fel_def (b.drop (128 * i))
    have e1 : (b.drop (128 * i)).take 64 = (b.take (128 * i + 64)).drop (128 * i) := by rw [List.take_drop]
    have e2 : ((b.drop (128 * i)).take 128).drop 64 = (b.take (128 * i + 128)).drop (128 * i + 64) := by rw [List.take_drop, List.drop_drop]
    rw [e1, e2] at hfe
    have ha : ((b.take (128 * i + 64)).drop (128 * i)).length = 64 := by rw [List.length_drop, List.length_take, hxl]; omega
    have hc : ((b.take (128 * i + 128)).drop (128 * i + 64)).length = 64 := by rw [List.length_drop, List.length_take, hxl]; omega
    have hab : Lt 256 ((b.take (128 * i + 64)).drop (128 * i)) := fun y hy => hxb y (List.mem_of_mem_take (List.mem_of_mem_drop hy))
    have hcb : Lt 256 ((b.take (128 * i + 128)).drop (128 * i + 64)) := fun y hy => hxb y (List.mem_of_mem_take (List.mem_of_mem_drop hy))
    have hs1 : ∀ (c : Cx) (W : List Res), RdW c W x (b.map (N .u8)) → RdW c W (sub x (128 * i) (128 * i + 64)) (((b.take (128 * i + 64)).drop (128 * i)).map (N .u8)) := fun c W h => RdW.subN h (by omega) (by omega)
    have hs2 : ∀ (c : Cx) (W : List Res), RdW c W x (b.map (N .u8)) → RdW c W (sub x (128 * i + 64) (128 * i + 128)) (((b.take (128 * i + 128)).drop (128 * i + 64)).map (N .u8)) := fun c W h => RdW.subN h (by omega) (by omega)
    clear e1 e2
    generalize b.drop (128 * i) = e at *
    generalize (b.take (128 * i + 64)).drop (128 * i) = e1 at *
    generalize (b.take (128 * i + 128)).drop (128 * i + 64) = e2 at *
    have hw1 := fun s => words3_spec s e1 hab (by omega)
    have hw2 := fun s => words3_spec s e2 hcb (by omega)
    rw [ha] at hw1
    rw [hc] at hw2
    have hv1 := fun s => qwide64 s e1 hab ha
    have hv2 := fun s => qwide64 s e2 hcb hc
    have hE : ∀ y ∈ [fel e], y.length = 12 := fun y hy => by rw [List.mem_singleton.1 hy]; exact fel_len _
    have hE1 := flat12_len hE
    have hbd : (L.length + [fel e].length) * 96 ≤ 140737488355328 := by rw [hfl']; simp; omega
    have hbd2 : L.length + [fel e].length < 9223372036854775808 := by rw [hfl']; simp; omega
    have hone : 0 < [fel e].length := Nat.one_pos
    repeat (first
      |(refine st_alloc (v := LV .u64 (List.replicate 6 0)) (by rfl) (by rfl) fun _ => ?_)
      |((refine st_build2 (by rfl) (by rfl) (by rfl) (by rfl) (by first | exact D_len _ _ | (simp; done)) (by first | exact D_len _ _ | (simp; done)) (by rfl) ?_; rw [← hfe]))
      |(refine st_fld (by rfl) (by first | exact (show _ = some (0, 6) from rfl) | exact (show _ = some (6, 6) from rfl) | exact (show _ = some (0, 12) from rfl) | exact (show _ = some (12, 12) from rfl) | exact (show _ = some (24, 1) from rfl)) (by rfl) (by rfl) ?_)
      |((refine st_ldp (by rfl) (by repeat (first | apply Find.here | apply Find.there)) (by rfl) (by rfl) (by first | (refine PartAt.l ?_; (first | exact D_len _ _ | (simp; done))) | (refine PartAt.r ?_ ?_ <;> (first | exact D_len _ _ | (simp; done))) | (refine PartAt.all ?_; (first | exact D_len _ _ | (simp; done)))) (by rfl) ?_))
      |(refine st_build2 (by rfl) (by rfl) (by rfl) (by rfl) (by first | exact D_len _ _ | (simp; done)) (by first | exact D_len _ _ | (simp; done)) (by rfl) ?_)
      |(refine st_build2a (by rfl) (by rfl) (by rfl) (by rfl) (by first | exact D_len _ _ | (simp; done)) (by rfl) ?_)
      |(refine st_build2b (by rfl) (by rfl) (by rfl) (by rfl) (by first | exact D_len _ _ | (simp; done)) (by rfl) ?_)
      |(refine st_build20 (by rfl) (by rfl) (by rfl) (by rfl) ?_)
      |(refine st_eq2 (by rfl) (by rfl) (by rfl) (by kernel_rfl) (by rfl) (by rfl) (by rfl) (by rfl) (by rfl) (by rfl) (by rfl) (by rfl) (by rfl) (by rfl) (by kernel_rfl) (by first | exact D_len _ _ | (simp; done)) (by first | exact D_len _ _ | (simp; done)) (by first | exact D_len _ _ | (simp; done)) (by first | exact D_len _ _ | (simp; done)) (by rfl) ?_)
      |(refine st_ne2 (by rfl) (by rfl) (by rfl) (by kernel_rfl) (by rfl) (by rfl) (by rfl) (by rfl) (by rfl) (by rfl) (by rfl) (by rfl) (by rfl) (by rfl) (by kernel_rfl) (by first | exact D_len _ _ | (simp; done)) (by first | exact D_len _ _ | (simp; done)) (by first | exact D_len _ _ | (simp; done)) (by first | exact D_len _ _ | (simp; done)) (by rfl) ?_)
      |(refine st_fieldLV (by rfl) (by first | exact (show _ = some (0, 6) from rfl) | exact (show _ = some (6, 6) from rfl) | exact (show _ = some (0, 12) from rfl) | exact (show _ = some (12, 12) from rfl) | exact (show _ = some (24, 1) from rfl)) (by first | (refine PartAt.l ?_; (first | exact D_len _ _ | (simp; done))) | (refine PartAt.r ?_ ?_ <;> (first | exact D_len _ _ | (simp; done))) | (refine PartAt.all ?_; (first | exact D_len _ _ | (simp; done)))) (by rfl) (by rfl) ?_)
      |((refine st_call (by rfl) (by rfl) (by rfl) (hw1 _) .nil (hs1 _ _ (RdW.own (by repeat (first | apply Find.here | apply Find.there)))) (by rfl) ?_; rintro x1 _ rfl))
      |((refine st_call (by rfl) (by rfl) (by rfl) (hw2 _) .nil (hs2 _ _ (RdW.own (by repeat (first | apply Find.here | apply Find.there)))) (by rfl) ?_; rintro x2 _ rfl))
      |(refine st_callV (by rfl) (by rfl) (by rfl) (hv1 _) (RdW.own (by repeat (first | apply Find.here | apply Find.there))) (by rfl) ?_)
      |(refine st_callV (by rfl) (by rfl) (by rfl) (hv2 _) (RdW.own (by repeat (first | apply Find.here | apply Find.there))) (by rfl) ?_)
      |((refine st_buildSliceM (m := 12) (kk := .u64) (vss := [fel e]) (by rfl) (by rfl) (by rfl) (by rfl) (by rfl) (by rfl) (by rfl) hE (by rfl) (by rfl) fun _ => ?_))
      |((refine st_append_M (m := 12) (kk := .u64) (xss := L) (yss := [fel e]) (by rfl) (by rfl) (by repeat (first | apply Find.here | apply Find.there)) (RdW.slv (by repeat (first | apply Find.here | apply Find.there)) hE1) (by rfl) (by rfl) (by rfl) (by rfl) (by decide) hfl hE1 hone hbd hbd2 (by rfl) fun _ => ?_; rw [← hfs]))
      |refine Z01 ?_|refine Z02 ?_|refine Z03 ?_|refine Z04 ?_|refine Z05 ?_|refine Z06 ?_|refine Z07 ?_|refine Z08 ?_|refine Z09 ?_|refine Z10 ?_|refine Z11 ?_
      |refine Z12 ?_|refine Z13 ?_|refine Z14 ?_|refine Z15 ?_|refine Z17 ?_|refine Z18 ?_|refine Z19 ?_|refine Z24 ?_|refine Z25 ?_|refine Z26 ?_|refine Z27 ?_
      |refine Z28 ?_|refine Z29 ?_|refine Z30 ?_|refine Z31 ?_|refine Z32 ?_|refine Z36 ?_|refine Z49 ?_|refine Z50 ?_|refine Z51 ?_|refine Z52 ?_|refine Z53 ?_
      |refine Z62 ?_|refine Z63 ?_|refine Z64 ?_|refine Z65 ?_|refine Z67 ?_|refine Z70 ?_|refine Z82 fun _ => ?_|refine Z84 fun _ => ?_|refine Z85 fun _ => ?_)
    rename_i v9
    exact st_round (i + 1, v9) (by simp only; omega) (by simp only; omega) (by repeat (first | apply subL.nil | refine subL.cons (by rfl) ?_)) (by repeat (first | apply SubW.nil | refine SubW.cons (by repeat (first | apply Find.here | apply Find.there)) ?_))
  · have hik : i = k := by omega
    subst hik
    subst hL
    repeat (first
      |refine Z01 ?_|refine Z02 ?_|refine Z03 ?_|refine Z04 ?_|refine Z05 ?_|refine Z06 ?_|refine Z07 ?_|refine Z08 ?_|refine Z09 ?_|refine Z10 ?_|refine Z11 ?_
      |refine Z12 ?_|refine Z13 ?_|refine Z14 ?_|refine Z15 ?_|refine Z17 ?_|refine Z18 ?_|refine Z19 ?_|refine Z24 ?_|refine Z25 ?_|refine Z26 ?_|refine Z27 ?_
      |refine Z28 ?_|refine Z29 ?_|refine Z30 ?_|refine Z31 ?_|refine Z32 ?_|refine Z36 ?_|refine Z49 ?_|refine Z50 ?_|refine Z51 ?_|refine Z52 ?_|refine Z53 ?_
      |refine Z62 ?_|refine Z63 ?_|refine Z64 ?_|refine Z65 ?_|refine Z67 ?_|refine Z70 ?_|refine Z82 fun _ => ?_|refine Z84 fun _ => ?_|refine Z85 fun _ => ?_)
    exact Ze2 fun _ hw => post_of hw (Wout := [.sl (wide 12 u) ((fels b i).flatten.map (N .u64)) 71]) (by exact (by repeat (first | apply SubW.nil | refine SubW.cons (by repeat (first | apply Find.here | apply Find.there)) ?_))) ⟨_, rfl, rfl⟩
theorem rfields_bad (s1 s2 : Value) (d : List Nat) (c n : Int) (er : Nat) (hn : n = if 1 ≤ c ∧ c ≤ 63 then 128 * c else 0) (her : 0 < er)
    (hx : Spec Try.prog 62 [s1, s2, .int .i64 n] (fun w => Rd w s2 (d.map (N .u8))) [] (IsV (.tuple [.slice none 0 0, N .i64 er].toArray))) :
    Spec Try.prog 64 [s1, s2, .int .i64 c] (fun w => Rd w s2 (d.map (N .u8))) [] (IsV (.tuple [.slice none 0 0, N .i64 er].toArray)) := by
  refine mk_spec Try.func64 rfl rfl rfl fun w hr => ?_
  have hr2 := RdC.mk0 hr
  by_cases h1 : (1 : Int) ≤ c
  · by_cases h2 : c ≤ 63
    · rw [if_pos ⟨h1, h2⟩] at hn
      obtain ⟨k, rfl⟩ := Int.eq_ofNat_of_zero_le (show 0 ≤ c by omega)
      have hx' : Spec Try.prog 62 [s1, s2, N .i64 (128 * k)] (fun w => Rd w s2 (d.map (N .u8))) [] (IsV (.tuple [.slice none 0 0, N .i64 er].toArray)) := by
        rw [hn] at hx
        exact hx
      change Go _ _ [(0, s1), (1, s2), (2, N .i64 k)] _ _
      repeat (first
        |(refine st_cmp (r := true) (by rfl) (by rfl) (cmpN_t (by first | (simp only [cmpP]; done) | (simp only [cmpP]; omega))) (by rfl) ?_)
        |(refine st_callV (by rfl) (by rfl) (by rfl) (hx') (RdW.old hr2) (by rfl) ?_)|refine Z01 ?_|refine Z02 ?_|refine Z03 ?_|refine Z04 ?_|refine Z05 ?_|refine Z06 ?_
        |refine Z07 ?_|refine Z08 ?_|refine Z09 ?_|refine Z10 ?_|refine Z11 ?_|refine Z12 ?_|refine Z13 ?_|refine Z14 ?_|refine Z15 ?_|refine Z17 ?_|refine Z18 ?_
        |refine Z19 ?_|refine Z24 ?_|refine Z25 ?_|refine Z26 ?_|refine Z27 ?_|refine Z28 ?_|refine Z29 ?_|refine Z30 ?_|refine Z31 ?_|refine Z32 ?_|refine Z36 ?_
        |refine Z49 ?_|refine Z50 ?_|refine Z51 ?_|refine Z52 ?_|refine Z53 ?_|refine Z62 ?_|refine Z63 ?_|refine Z64 ?_|refine Z65 ?_|refine Z67 ?_|refine Z70 ?_
        |refine Z82 fun _ => ?_|refine Z84 fun _ => ?_|refine Z85 fun _ => ?_)
      exact Ze2 fun _ hw => post_of hw SubW.nil ⟨rfl, rfl⟩
    · rw [if_neg (by omega)] at hn
      subst hn
      obtain ⟨k, rfl⟩ := Int.eq_ofNat_of_zero_le (show 0 ≤ c by omega)
      change Go _ _ [(0, s1), (1, s2), (2, N .i64 k)] _ _
      repeat (first
        |(refine st_cmp (r := true) (by rfl) (by rfl) (cmpN_t (by first | (simp only [cmpP]; done) | (simp only [cmpP]; omega))) (by rfl) ?_)
        |(refine st_cmp (r := false) (by rfl) (by rfl) (cmpN_f (by first | (simp only [cmpQ]; done) | (simp only [cmpQ]; omega))) (by rfl) ?_)
        |(refine st_callV (by rfl) (by rfl) (by rfl) (hx) (RdW.old hr2) (by rfl) ?_)|refine Z01 ?_|refine Z02 ?_|refine Z03 ?_|refine Z04 ?_|refine Z05 ?_|refine Z06 ?_
        |refine Z07 ?_|refine Z08 ?_|refine Z09 ?_|refine Z10 ?_|refine Z11 ?_|refine Z12 ?_|refine Z13 ?_|refine Z14 ?_|refine Z15 ?_|refine Z17 ?_|refine Z18 ?_
        |refine Z19 ?_|refine Z24 ?_|refine Z25 ?_|refine Z26 ?_|refine Z27 ?_|refine Z28 ?_|refine Z29 ?_|refine Z30 ?_|refine Z31 ?_|refine Z32 ?_|refine Z36 ?_
        |refine Z49 ?_|refine Z50 ?_|refine Z51 ?_|refine Z52 ?_|refine Z53 ?_|refine Z62 ?_|refine Z63 ?_|refine Z64 ?_|refine Z65 ?_|refine Z67 ?_|refine Z70 ?_
        |refine Z82 fun _ => ?_|refine Z84 fun _ => ?_|refine Z85 fun _ => ?_)
      exact Ze2 fun _ hw => post_of hw SubW.nil ⟨rfl, rfl⟩
  · rw [if_neg (by omega)] at hn
    subst hn
    repeat (first
      |(rw [decide_eq_false (p := Int.ofNat 1 ≤ c) h1])
      |(refine st_cmp (r := true) (by rfl) (by rfl) (cmpN_t (by first | (simp only [cmpP]; done) | (simp only [cmpP]; omega))) (by rfl) ?_)
      |(refine st_callV (by rfl) (by rfl) (by rfl) (hx) (RdW.old hr2) (by rfl) ?_)|refine Z01 ?_|refine Z02 ?_|refine Z03 ?_|refine Z04 ?_|refine Z05 ?_|refine Z06 ?_
      |refine Z07 ?_|refine Z08 ?_|refine Z09 ?_|refine Z10 ?_|refine Z11 ?_|refine Z12 ?_|refine Z13 ?_|refine Z14 ?_|refine Z15 ?_|refine Z17 ?_|refine Z18 ?_
      |refine Z19 ?_|refine Z24 ?_|refine Z25 ?_|refine Z26 ?_|refine Z27 ?_|refine Z28 ?_|refine Z29 ?_|refine Z30 ?_|refine Z31 ?_|refine Z32 ?_|refine Z36 ?_
      |refine Z49 ?_|refine Z50 ?_|refine Z51 ?_|refine Z52 ?_|refine Z53 ?_|refine Z62 ?_|refine Z63 ?_|refine Z64 ?_|refine Z65 ?_|refine Z67 ?_|refine Z70 ?_
      |refine Z82 fun _ => ?_|refine Z84 fun _ => ?_|refine Z85 fun _ => ?_)
    exact Ze2 fun _ hw => post_of hw SubW.nil ⟨rfl, rfl⟩
theorem same17_spec (s t : Value) (xss : List (List Nat)) (hE : ∀ v ∈ xss, v.length = 12) (hl : xss.length < 1000000) :
    Spec Try.prog 65 [s, t] (fun w => Rd w (wide 12 s) (xss.flatten.map (N .u64)) ∧ Rd w (wide 12 t) (xss.flatten.map (N .u64))) [] (IsV (.bool true)) := by
  refine mk_spec Try.func65 rfl rfl rfl fun w hr => ?_
  have h1 := RdC.mk0 hr.1
  have h2 := RdC.mk0 hr.2
  have hxl : (xss.flatten.map (N .u64)).length = xss.length * 12 := by rw [List.length_map, flat12_len hE]
  repeat (first
    |((refine st_len_M (m := 12) (k := xss.length) (s := s) (by rfl) (by rfl) (RdW.old h1) (by decide) hxl (by rfl) ?_))
    |((refine st_len_M (m := 12) (k := xss.length) (s := t) (by rfl) (by rfl) (RdW.old h2) (by decide) hxl (by rfl) ?_))
    |(refine st_cmp (r := false) (by rfl) (by rfl) (cmpN_f (by first | (simp only [cmpQ]; done) | (simp only [cmpQ]; omega))) (by rfl) ?_)|refine Z01 ?_|refine Z02 ?_
    |refine Z03 ?_|refine Z04 ?_|refine Z05 ?_|refine Z06 ?_|refine Z07 ?_|refine Z08 ?_|refine Z09 ?_|refine Z10 ?_|refine Z11 ?_|refine Z12 ?_|refine Z13 ?_
    |refine Z14 ?_|refine Z15 ?_|refine Z17 ?_|refine Z18 ?_|refine Z20 ?_|refine Z21 ?_|refine Z22 ?_|refine Z23 ?_|refine Z24 ?_|refine Z25 ?_|refine Z26 ?_
    |refine Z27 ?_|refine Z28 ?_|refine Z58 ?_|refine Z59 ?_|refine Z67 ?_|refine Z70 ?_|refine Z77 ?_|refine Z78 ?_|refine Z79 ?_)
  refine st_loop (ι := Nat) (fun i => i ≤ xss.length) (fun i => [(0, s), (1, t), (5, N .i64 i)]) (fun _ => []) (fun i => xss.length - i) 0 (by omega) (by repeat (first | apply subL.nil | refine subL.cons (by rfl) ?_)) (by repeat (first | apply SubW.nil | refine SubW.cons (by repeat (first | apply Find.here | apply Find.there)) ?_)) ?_
  intro i hi
  repeat (first
    |((refine st_len_M (m := 12) (k := xss.length) (s := s) (by rfl) (by rfl) (RdW.old h1) (by decide) hxl (by rfl) ?_))|refine Z01 ?_|refine Z02 ?_|refine Z03 ?_
    |refine Z04 ?_|refine Z05 ?_|refine Z06 ?_|refine Z07 ?_|refine Z08 ?_|refine Z09 ?_|refine Z10 ?_|refine Z11 ?_|refine Z12 ?_|refine Z13 ?_|refine Z14 ?_
    |refine Z15 ?_|refine Z17 ?_|refine Z18 ?_|refine Z20 ?_|refine Z21 ?_|refine Z22 ?_|refine Z23 ?_|refine Z24 ?_|refine Z25 ?_|refine Z26 ?_|refine Z27 ?_
    |refine Z28 ?_|refine Z58 ?_|refine Z59 ?_|refine Z67 ?_|refine Z70 ?_|refine Z77 ?_|refine Z78 ?_|refine Z79 ?_)
  refine st_cond (by rfl) (fun h => ?_) (fun h => ?_)
  · obtain ⟨z, hz⟩ : ∃ z, xss[i]? = some z := ⟨_, List.getElem?_eq_getElem h⟩
    have hzl := hE z (List.mem_of_getElem? hz)
    have e0 : z = z.take 6 ++ z.drop 6 := (List.take_append_drop 6 z).symm
    have l1 : (z.take 6).length = 6 := by rw [List.length_take, hzl]; rfl
    have l2 : (z.drop 6).length = 6 := by rw [List.length_drop, hzl]
    rw [e0] at hz
    generalize z.take 6 = z1 at *
    generalize z.drop 6 = z2 at *
    clear e0
    have hrr : (decide (z1 = z1) && decide (z2 = z2)) = true := by simp
    repeat (first
      |refine Z01 ?_|refine Z02 ?_|refine Z03 ?_|refine Z04 ?_|refine Z05 ?_|refine Z06 ?_|refine Z07 ?_|refine Z08 ?_|refine Z09 ?_|refine Z10 ?_|refine Z11 ?_
      |refine Z12 ?_|refine Z13 ?_|refine Z14 ?_|refine Z15 ?_|refine Z17 ?_|refine Z18 ?_|refine Z20 ?_|refine Z21 ?_|refine Z22 ?_|refine Z23 ?_|refine Z24 ?_
      |refine Z25 ?_|refine Z26 ?_|refine Z27 ?_|refine Z28 ?_|refine Z58 ?_|refine Z59 ?_|refine Z67 ?_|refine Z70 ?_|refine Z77 ?_|refine Z78 ?_|refine Z79 ?_)
    refine st_draw1 (by rfl) ?_
    repeat (first
      |refine Zqf (by intro _ _ _;(first
        
        |((refine st_ne2v (hr := hrr) (by rfl) (by rfl) (by rfl) (by kernel_rfl) (by rfl) (by rfl) (by rfl) (by rfl) (by rfl) (by rfl) (by rfl) (by rfl) (by rfl) (by rfl) (by kernel_rfl) l1 l2 l1 l2 (by rfl) ?_))
        |refine Z01 ?_|refine Z02 ?_|refine Z15 ?_|refine Z17 ?_|refine Z18 ?_|refine Z20 ?_|refine Z21 ?_|refine Z22 ?_|refine Z23 ?_|refine Z58 ?_|refine Z59 ?_
        |refine Z70 ?_|refine Z77 ?_|refine Z78 ?_|refine Z79 ?_);exact Zq) ?_
      |refine Zqp (by intro _ _ _;(refine st_ia_M (m := 12) (s := s) (i := i) (k := xss.length) (by rfl) (by rfl) (by rfl) (by rfl) (RdW.old (h1.shift (by assumption))) (by decide) hxl h (by rfl) ?_);exact Zq) ?_
      |refine Zqp (by intro _ _ _;(refine st_ia_M (m := 12) (s := t) (i := i) (k := xss.length) (by rfl) (by rfl) (by rfl) (by rfl) (RdW.old (h2.shift (by assumption))) (by decide) hxl h (by rfl) ?_);exact Zq) ?_
      |refine Zqp (by intro _ _ _;(refine st_load_M (m := 12) (s := wide 12 s) (i := i) (by rfl) (by rfl) (by rfl) (RdW.old (h1.shift (by assumption))) hE hz (by decide) (by rfl) ?_);exact Zq) ?_
      |refine Zqp (by intro _ _ _;(refine st_load_M (m := 12) (s := wide 12 t) (i := i) (by rfl) (by rfl) (by rfl) (RdW.old (h2.shift (by assumption))) hE hz (by decide) (by rfl) ?_);exact Zq) ?_
      |refine Zqp (by intro _ _ _;(first
        |refine Z24 ?_|refine Z25 ?_|refine Z26 ?_|refine Z27 ?_|refine Z28 ?_|refine Z67 ?_|refine Z23 ?_|refine Z20 ?_|refine Z21 ?_);exact Zq) ?_
      |refine Zqn ?_)
    refine Zq0 ?_ (by kernel_rfl)
    repeat (first
      |refine Z01 ?_|refine Z02 ?_|refine Z03 ?_|refine Z04 ?_|refine Z05 ?_|refine Z06 ?_|refine Z07 ?_|refine Z08 ?_|refine Z09 ?_|refine Z10 ?_|refine Z11 ?_
      |refine Z12 ?_|refine Z13 ?_|refine Z14 ?_|refine Z15 ?_|refine Z17 ?_|refine Z18 ?_|refine Z20 ?_|refine Z21 ?_|refine Z22 ?_|refine Z23 ?_|refine Z24 ?_
      |refine Z25 ?_|refine Z26 ?_|refine Z27 ?_|refine Z28 ?_|refine Z58 ?_|refine Z59 ?_|refine Z67 ?_|refine Z70 ?_|refine Z77 ?_|refine Z78 ?_|refine Z79 ?_)
    exact st_round (i + 1) (by omega) (by omega) (by repeat (first | apply subL.nil | refine subL.cons (by rfl) ?_)) (by repeat (first | apply SubW.nil | refine SubW.cons (by repeat (first | apply Find.here | apply Find.there)) ?_))
  · repeat (first
      |refine Z01 ?_|refine Z02 ?_|refine Z03 ?_|refine Z04 ?_|refine Z05 ?_|refine Z06 ?_|refine Z07 ?_|refine Z08 ?_|refine Z09 ?_|refine Z10 ?_|refine Z11 ?_
      |refine Z12 ?_|refine Z13 ?_|refine Z14 ?_|refine Z15 ?_|refine Z17 ?_|refine Z18 ?_|refine Z20 ?_|refine Z21 ?_|refine Z22 ?_|refine Z23 ?_|refine Z24 ?_
      |refine Z25 ?_|refine Z26 ?_|refine Z27 ?_|refine Z28 ?_|refine Z58 ?_|refine Z59 ?_|refine Z67 ?_|refine Z70 ?_|refine Z77 ?_|refine Z78 ?_|refine Z79 ?_)
    refine Ze1 fun _ hw => post_of hw SubW.nil ⟨?_, rfl⟩
    rfl
end Go.Proofs.Ytbjfjkmidhfgcaa.L
namespace Go.Proofs.Ytbjfjkmidhfgcaa.L
open Go Go.Proofs
set_option maxRecDepth 100000
attribute [local irreducible] Code.wp wpList Af bodyPost L.Go
open Sha
def kQ : List Nat := [81, 85, 85, 88, 45, 86, 48, 49, 45, 67, 83, 48, 50, 45, 119, 105, 116, 104, 45, 101, 120, 112, 97, 110, 100, 101, 114, 45, 83, 72, 65, 50, 53, 54, 45, 49, 50, 56]
def kX : List Nat := [120]
theorem kQ_lt : Lt 256 kQ := by unfold Lt kQ; decide
theorem kX_lt : Lt 256 kX := by unfold Lt kX; decide
theorem nilLt (m : Nat) : Lt m [] := by intro x hx; cases hx
theorem xq_0 : (xpand [] kQ 32).getD 0 0 = 104 := by decide +kernel
theorem xq_1 : (xpand [] kQ 32).getD 1 0 = 169 := by decide +kernel
set_option maxHeartbeats 2000000 in
theorem awake17_spec : Spec Try.prog 59 [] NoPre [] (IsV (.bool true)) := by
  refine mk_spec Try.func59 rfl rfl rfl fun w hr => ?_
  have e0 : decide ((xpand [] kQ 32).getD 0 0 = 104) = true := decide_eq_true xq_0
  have e1 : decide ((xpand [] kQ 32).getD 1 0 = 169) = true := decide_eq_true xq_1
  have hxl := xpand_len [] kQ 32
  have hfl : (((fels (xpand [] kX (128 * 2)) 2).flatten).map (N .u64)).length = 2 * 12 := by rw [List.length_map, fels_flat, fels_len]
  repeat (first
    |(rw [e0])|(rw [e1])|(rw [hxl])|((refine st_buildSliceN (vs := kQ) (kk := .u8) (by rfl) (by rfl) (by rfl) (by rfl) (by rfl) (by rfl) (by rfl) (by rfl) fun _ => ?_))
    |((refine st_buildSliceN (vs := kX) (kk := .u8) (by rfl) (by rfl) (by rfl) (by rfl) (by rfl) (by rfl) (by rfl) (by rfl) fun _ => ?_))
    |(refine st_conv_sl (xs := kQ.map (N .u8)) (by rfl) (by repeat (first | apply Find.here | apply Find.there)) (by simp [kQ]) (by rfl) (by rfl) (by rfl) ?_)
    |(refine st_conv_sl (xs := kX.map (N .u8)) (by rfl) (by repeat (first | apply Find.here | apply Find.there)) (by simp [kX]) (by rfl) (by rfl) (by rfl) ?_)
    |((refine st_call (by rfl) (by rfl) (by rfl) (xexpand_ok (.slice none 0 0) _ [] kQ 32 (nilLt _) kQ_lt (by simp) (by simp [kQ]) (by simp [kQ]) (by decide) (by decide)) .nil (fun w hw => ⟨RdW.nil w hw, RdW.own (by repeat (first | apply Find.here | apply Find.there)) w hw⟩) (by rfl) ?_; rintro _ _ ⟨x, rfl, rfl⟩))
    |(refine st_callV (by rfl) (by rfl) (by rfl) (xexpand_dst (.slice none 0 0) (.slice none 0 0) [] 32 (.inl (by decide))) (RdW.nil) (by rfl) ?_)
    |(refine st_callV (by rfl) (by rfl) (by rfl) (xexpand_len (.slice none 0 0) _ kX 0 (by simp [kX]) (by simp [kX]) (.inl (by decide))) (RdW.own (by repeat (first | apply Find.here | apply Find.there))) (by rfl) ?_)
    |((refine st_call (by rfl) (by rfl) (by rfl) (fields_ok (.slice none 0 0) _ [] kX 2 (nilLt _) kX_lt (by simp) (by simp [kX]) (by simp [kX]) (by decide) (by decide)) .nil (fun w hw => ⟨RdW.nil w hw, RdW.own (by repeat (first | apply Find.here | apply Find.there)) w hw⟩) (by rfl) ?_; rintro _ _ ⟨y, rfl, rfl⟩))
    |((refine st_len_M (m := 12) (k := 2) (by rfl) (by rfl) (RdW.own (by repeat (first | apply Find.here | apply Find.there))) (by decide) hfl (by rfl) ?_))|refine Z01 ?_
    |refine Z02 ?_|refine Z03 ?_|refine Z04 ?_|refine Z05 ?_|refine Z06 ?_|refine Z07 ?_|refine Z08 ?_|refine Z09 ?_|refine Z10 ?_|refine Z11 ?_|refine Z12 ?_
    |refine Z13 ?_|refine Z14 ?_|refine Z17 ?_|refine Z18 ?_|refine Z19 ?_|refine Z20 ?_|refine Z21 ?_|refine Z22 ?_|refine Z23 ?_|refine Z24 ?_|refine Z25 ?_
    |refine Z26 ?_|refine Z27 ?_|refine Z28 ?_|refine Z44 ?_|refine Z45 ?_|refine Z49 ?_|refine Z50 ?_|refine Z51 ?_|refine Z52 ?_|refine Z53 ?_|refine Z58 ?_
    |refine Z59 ?_|refine Z67 ?_|refine Z74 ?_|refine Z80 ?_|refine Z85 fun _ => ?_)

  refine Ze1 fun _ hw => post_of hw SubW.nil ⟨?_, rfl⟩
  rfl
theorem few17_spec (s t : Value) (a b : List Nat) (h1 : a.length < 9223372036854775808) (h2 : b.length < 9223372036854775808) :
    Spec Try.prog 60 [s, t] (fun w => Rd w s (a.map (N .u8)) ∧ Rd w t (b.map (N .u8))) [] (IsV (.bool (decide (a.length ≤ 500 ∧ b.length ≤ 500)))) := by
  refine mk_spec Try.func60 rfl rfl rfl fun w hr => ?_
  have hr1 := RdC.mk0 hr.1
  have hr2 := RdC.mk0 hr.2
  by_cases ha : a.length ≤ 500
  · by_cases hb : b.length ≤ 500
    · repeat (first
        |(refine st_cmp (r := true) (by rfl) (by rfl) (cmpN_t (by first | (simp only [cmpP]; done) | (simp only [cmpP]; omega))) (by rfl) ?_)|refine Z01 ?_|refine Z02 ?_
        |refine Z03 ?_|refine Z04 ?_|refine Z05 ?_|refine Z06 ?_|refine Z07 ?_|refine Z08 ?_|refine Z09 ?_|refine Z10 ?_|refine Z11 ?_|refine Z12 ?_|refine Z13 ?_
        |refine Z14 ?_|refine Z17 ?_|refine Z18 ?_|refine Z20 ?_|refine Z21 ?_|refine Z49 ?_|refine Z50 ?_|refine Z51 ?_|refine Z52 ?_|refine Z53 ?_|refine Z58 ?_
        |refine Z59 ?_)
      refine Ze1 fun _ hw => post_of hw SubW.nil ⟨?_, rfl⟩
      rw [decide_eq_true ⟨ha, hb⟩]
    · repeat (first
        |(refine st_cmp (r := true) (by rfl) (by rfl) (cmpN_t (by first | (simp only [cmpP]; done) | (simp only [cmpP]; omega))) (by rfl) ?_)
        |(refine st_cmp (r := false) (by rfl) (by rfl) (cmpN_f (by first | (simp only [cmpQ]; done) | (simp only [cmpQ]; omega))) (by rfl) ?_)|refine Z01 ?_|refine Z02 ?_
        |refine Z03 ?_|refine Z04 ?_|refine Z05 ?_|refine Z06 ?_|refine Z07 ?_|refine Z08 ?_|refine Z09 ?_|refine Z10 ?_|refine Z11 ?_|refine Z12 ?_|refine Z13 ?_
        |refine Z14 ?_|refine Z17 ?_|refine Z18 ?_|refine Z20 ?_|refine Z21 ?_|refine Z49 ?_|refine Z50 ?_|refine Z51 ?_|refine Z52 ?_|refine Z53 ?_|refine Z58 ?_
        |refine Z59 ?_)
      refine Ze1 fun _ hw => post_of hw SubW.nil ⟨?_, rfl⟩
      rw [decide_eq_false (fun h => hb h.2)]
  · repeat (first
      |(refine st_cmp (r := false) (by rfl) (by rfl) (cmpN_f (by first | (simp only [cmpQ]; done) | (simp only [cmpQ]; omega))) (by rfl) ?_)|refine Z01 ?_|refine Z02 ?_
      |refine Z03 ?_|refine Z04 ?_|refine Z05 ?_|refine Z06 ?_|refine Z07 ?_|refine Z08 ?_|refine Z09 ?_|refine Z10 ?_|refine Z11 ?_|refine Z12 ?_|refine Z13 ?_
      |refine Z14 ?_|refine Z17 ?_|refine Z18 ?_|refine Z20 ?_|refine Z21 ?_|refine Z49 ?_|refine Z50 ?_|refine Z51 ?_|refine Z52 ?_|refine Z53 ?_|refine Z58 ?_
      |refine Z59 ?_)
    refine Ze1 fun _ hw => post_of hw SubW.nil ⟨?_, rfl⟩
    rw [decide_eq_false (fun h => ha h.1)]
set_option maxHeartbeats 2000000 in
theorem lawFields17_spec (s1 : Value) (m : List Nat) (hm : Lt 256 m) (m63 : m.length < 9223372036854775808) (s2 : Value) (d : List Nat) (hd : Lt 256 d) (d63 : d.length < 9223372036854775808) (x : Int) (_ : -9223372036854775808 ≤ x ∧ x < 9223372036854775808) :
    Spec Try.prog 15 [s1, s2, .int .i64 x] (fun w => Rd w s1 (m.map (N .u8)) ∧ Rd w s2 (d.map (N .u8))) [] (IsV (.bool true)) := by
  refine mk_spec Try.func15 rfl rfl rfl fun w hr => ?_
  have hr1 := RdC.mk0 hr.1
  have hr2 := RdC.mk0 hr.2
  repeat (first
    |(refine st_callV (by rfl) (by rfl) (by rfl) (awake17_spec) (fun _ _ => trivial) (by rfl) ?_)
    |(refine st_callV (by rfl) (by rfl) (by rfl) (few17_spec s1 s2 m d m63 d63) (fun w hw => ⟨RdW.old hr1 w hw, RdW.old hr2 w hw⟩) (by rfl) ?_)|refine Z01 ?_
    |refine Z02 ?_|refine Z03 ?_|refine Z04 ?_|refine Z05 ?_|refine Z06 ?_|refine Z07 ?_|refine Z08 ?_|refine Z09 ?_|refine Z10 ?_|refine Z11 ?_|refine Z12 ?_
    |refine Z13 ?_|refine Z14 ?_|refine Z17 ?_|refine Z18 ?_|refine Z19 ?_|refine Z49 ?_|refine Z50 ?_|refine Z51 ?_|refine Z52 ?_|refine Z53 ?_|refine Z54 ?_)
  by_cases hfew : m.length ≤ 500 ∧ d.length ≤ 500
  case neg =>
    rw [decide_eq_false hfew]
    repeat (first
      |refine Z01 ?_|refine Z02 ?_|refine Z03 ?_|refine Z04 ?_|refine Z05 ?_|refine Z06 ?_|refine Z07 ?_|refine Z08 ?_|refine Z09 ?_|refine Z10 ?_|refine Z11 ?_
      |refine Z12 ?_|refine Z13 ?_|refine Z14 ?_|refine Z17 ?_|refine Z18 ?_|refine Z19 ?_|refine Z49 ?_|refine Z50 ?_|refine Z51 ?_|refine Z52 ?_|refine Z53 ?_
      |refine Z54 ?_)
    refine Ze1 fun _ hw => post_of hw SubW.nil ⟨?_, rfl⟩
    rfl
  rw [decide_eq_true hfew]
  have hm5 : m.length < 1073741824 := by omega
  clear hfew
  obtain ⟨n, hn⟩ : ∃ n : Int, n = if 1 ≤ x ∧ x ≤ 63 then 128 * x else 0 := ⟨_, rfl⟩
  have hsm := fun s t => same17_spec s t [] (fun v hv => by cases hv) (by simp)
  by_cases hdst : d.length < 1 ∨ 255 < d.length
  · have hf1 := fields_bad s1 s2 d x n 170 hn (xexpand_dst s1 s2 d n hdst)
    have hf2 := rfields_bad s1 s2 d x n 170 hn (by decide) (rxexpand_dst s1 s2 d n hdst)
    repeat (first
      |(refine st_callV (by rfl) (by rfl) (by rfl) (hf1) (RdW.old hr2) (by rfl) ?_)|(refine st_callV (by rfl) (by rfl) (by rfl) (hf2) (RdW.old hr2) (by rfl) ?_)
      |(refine st_callV (by rfl) (by rfl) (by rfl) (hsm _ _) (fun w hw => ⟨by rw [wide_nil]; exact RdW.nil w hw, by rw [wide_nil]; exact RdW.nil w hw⟩) (by rfl) ?_)
      |refine Z01 ?_|refine Z02 ?_|refine Z03 ?_|refine Z04 ?_|refine Z05 ?_|refine Z06 ?_|refine Z07 ?_|refine Z08 ?_|refine Z09 ?_|refine Z10 ?_|refine Z11 ?_
      |refine Z12 ?_|refine Z13 ?_|refine Z14 ?_|refine Z17 ?_|refine Z18 ?_|refine Z19 ?_|refine Z49 ?_|refine Z50 ?_|refine Z51 ?_|refine Z52 ?_|refine Z53 ?_
      |refine Z54 ?_)
    refine Ze1 fun _ hw => post_of hw SubW.nil ⟨?_, rfl⟩
    rfl
  have hd1 : 1 ≤ d.length := by omega
  have hd2 : d.length ≤ 255 := by omega
  clear hdst
  by_cases hlen : 1 ≤ x ∧ x ≤ 63
  · obtain ⟨k, rfl⟩ := Int.eq_ofNat_of_zero_le (show 0 ≤ x by omega)
    have hn1 : 1 ≤ k := by omega
    have hn2 : k ≤ 63 := by omega
    clear hlen hn hsm
    have hsm := fun s t => same17_spec s t (fels (xpand m d (128 * k)) k) (fels_each _ _) (by rw [fels_len]; omega)
    rw [show Value.int .i64 (k : Int) = N .i64 k from rfl]
    repeat (first
      
      |((refine st_call (by rfl) (by rfl) (by rfl) (fields_ok s1 s2 m d k hm hd hm5 hd1 hd2 hn1 hn2) .nil (fun w hw => ⟨RdW.old hr1 w hw, RdW.old hr2 w hw⟩) (by rfl) ?_; rintro _ _ ⟨y, rfl, rfl⟩))
      |((refine st_call (by rfl) (by rfl) (by rfl) (rfields_ok s1 s2 m d k hm hd hm5 hd1 hd2 hn1 hn2) .nil (fun w hw => ⟨RdW.old hr1 w hw, RdW.old hr2 w hw⟩) (by rfl) ?_; rintro _ _ ⟨z, rfl, rfl⟩))
      |(refine st_callV (by rfl) (by rfl) (by rfl) (hsm _ _) (fun w hw => ⟨RdW.own (by repeat (first | apply Find.here | apply Find.there)) w hw, RdW.own (by repeat (first | apply Find.here | apply Find.there)) w hw⟩) (by rfl) ?_)
      |refine Z01 ?_|refine Z02 ?_|refine Z03 ?_|refine Z04 ?_|refine Z05 ?_|refine Z06 ?_|refine Z07 ?_|refine Z08 ?_|refine Z09 ?_|refine Z10 ?_|refine Z11 ?_
      |refine Z12 ?_|refine Z13 ?_|refine Z14 ?_|refine Z17 ?_|refine Z18 ?_|refine Z19 ?_|refine Z49 ?_|refine Z50 ?_|refine Z51 ?_|refine Z52 ?_|refine Z53 ?_
      |refine Z54 ?_)
    refine Ze1 fun _ hw => post_of hw SubW.nil ⟨?_, rfl⟩
    rfl
  · have hn0 := hn
    rw [if_neg hlen] at hn0
    subst hn0
    have hf1 := fields_bad s1 s2 d x 0 171 hn (xexpand_len s1 s2 d 0 hd1 hd2 (.inl (by decide)))
    have hf2 := rfields_bad s1 s2 d x 0 171 hn (by decide) (rxexpand_len s1 s2 d 0 hd1 hd2 (.inl (by decide)))
    repeat (first
      |(refine st_callV (by rfl) (by rfl) (by rfl) (hf1) (RdW.old hr2) (by rfl) ?_)|(refine st_callV (by rfl) (by rfl) (by rfl) (hf2) (RdW.old hr2) (by rfl) ?_)
      |(refine st_callV (by rfl) (by rfl) (by rfl) (hsm _ _) (fun w hw => ⟨by rw [wide_nil]; exact RdW.nil w hw, by rw [wide_nil]; exact RdW.nil w hw⟩) (by rfl) ?_)
      |refine Z01 ?_|refine Z02 ?_|refine Z03 ?_|refine Z04 ?_|refine Z05 ?_|refine Z06 ?_|refine Z07 ?_|refine Z08 ?_|refine Z09 ?_|refine Z10 ?_|refine Z11 ?_
      |refine Z12 ?_|refine Z13 ?_|refine Z14 ?_|refine Z17 ?_|refine Z18 ?_|refine Z19 ?_|refine Z49 ?_|refine Z50 ?_|refine Z51 ?_|refine Z52 ?_|refine Z53 ?_
      |refine Z54 ?_)
    refine Ze1 fun _ hw => post_of hw SubW.nil ⟨?_, rfl⟩
    rfl
end Go.Proofs.Ytbjfjkmidhfgcaa.L
namespace Go.Proofs.Ytbjfjkmidhfgcaa.L
open Go Go.Proofs
variable {P : Program}
theorem slice_spot {w : World} {r : Reach} {base : Nat} {t e : TypeId} {a : Option Addr} {len cap : Nat} (ht : P.underlying t = some (.slice e)) (h : Value.okWide P w r base t (.slice a len cap)) :
    ∀ x, a = some x → x.spot = none := by
  intro x hx
  subst hx
  simp only [Value.okWide, ht, Cell.okWide, Cell.ok, World.has] at h
  exact h.2.2.2.1
/-- The numbers of a row. -/
theorem row_nat {k : IntKind} {m : Nat} (hk : ub k = some m) {w : World} {a : Option Addr} {len cap : Nat} {zs : List Int}
    (h : (a = none ∧ len = 0 ∧ cap = 0 ∧ zs = []) ∨
      ∃ x, a = some x ∧ len ≤ cap ∧ cap ≤ maxLen ∧ zs.length = cap ∧ (∀ i, i < zs.length → w.cell? (x.add i) = some (.int k (zs.getD i 0))) ∧ ∀ n ∈ zs, (Lit.int k n).wf = true)
    (hs : ∀ x, a = some x → x.spot = none) : ∃ bs : List Nat, Rd w (.slice a len cap) (bs.map (N k)) ∧ (∀ x ∈ bs, x < m) ∧ bs.length < 9223372036854775808 := by
  rcases h with ⟨rfl, rfl, rfl, rfl⟩ | ⟨x, rfl, h1, h2, h3, h4, h5⟩
  · exact ⟨[], Rd.nil w, by simp, by decide⟩
  · have hn : ∀ n ∈ zs, 0 ≤ n ∧ n < (m : Int) := by
      intro n hn
      have := h5 n hn
      cases k <;> simp [ub] at hk <;> subst hk <;> simp [Lit.wf, IntKind.min, IntKind.max, IntKind.signed, IntKind.bits] at this ⊢ <;> omega
    have hg : ∀ i, i < zs.length → Int.ofNat (zs.getD i 0).toNat = zs.getD i 0 := by
      intro i hi
      have : zs.getD i 0 ∈ zs := by simp [List.getD_eq_getElem?_getD, hi]
      have := hn _ this
      show (((zs.getD i 0).toNat : Nat) : Int) = _
      omega
    refine ⟨(zs.take len).map Int.toNat, ⟨⟨some x, cap, ?_, ?_, by simp, by simpa using hs⟩, ?_⟩, ?_, ?_⟩
    · simp; omega
    · simp; omega
    · intro i v hv
      have hi : i < len ∧ i < zs.length := by
        have := (List.getElem?_eq_some_iff.mp hv).1
        simp at this; omega
      have e1 := h4 i hi.2
      rw [← hg i hi.2] at e1
      show w.cell? (x.add i) = _
      rw [e1]
      simp [hi.1, hi.2] at hv
      rw [← hv]
      simp [N, List.getD_eq_getElem?_getD, hi.2]
    · intro y hy
      simp only [List.mem_map] at hy
      obtain ⟨n, hn', rfl⟩ := hy
      have := hn n (List.mem_of_mem_take hn')
      omega
    · have : cap ≤ 2 ^ 63 - 1 := h2
      simp; omega
theorem wf_i64 {x : Int} (h : (Lit.int .i64 x).wf = true) : -9223372036854775808 ≤ x ∧ x < 9223372036854775808 := by
  simp [Lit.wf, IntKind.min, IntKind.max, IntKind.signed, IntKind.bits] at h; omega
theorem post_bool {w w' : World} {e : Ending} (h : PostR (IsV (.bool true)) [] w e w') : e = .returned (.bool true) ∧ RowKit.Below w.heap.size w w' := by
  obtain ⟨v, Wout, ⟨rfl, _⟩, he, hx, _⟩ := h
  exact ⟨he, hx.below⟩
end Go.Proofs.Ytbjfjkmidhfgcaa.L
