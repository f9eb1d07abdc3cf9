/- What is left of a division by a number of many words: the walks. Conditions: as each statement says. -/
import Derived.Test.YtbjfjkmidhfgcaaAuto
import Derived.Test.YtbjfjkmidhfgcaaPerm
import Derived.Test.YtbjfjkmidhfgcaaMore
import Derived.Test.YtbjfjkmidhfgcaaProg
import Derived.Test.YtbjfjkmidhfgcaaNum
import Derived.Test.YtbjfjkmidhfgcaaLmb
import Derived.Test.YtbjfjkmidhfgcaaLmd
import Derived.Test.YtbjfjkmidhfgcaaScope
import Derived.Test.YtbjfjkmidhfgcaaJoin
import Derived.Test.YtbjfjkmidhfgcaaLma
import Derived.Test.YtbjfjkmidhfgcaaLmz
import Derived.Test.YtbjfjkmidhfgcaaLme
import Derived.Test.YtbjfjkmidhfgcaaLmf
namespace Go.Proofs.Ytbjfjkmidhfgcaa.L
open Go Go.Proofs
set_option maxRecDepth 100000
attribute [local irreducible] Code.wp wpList Af bodyPost L.Go
open Num
attribute [local simp] D_len

set_option maxHeartbeats 4000000 in
theorem take_spec (sl sm : Value) (T : TypeId) (ls0 ms : List Nat) (L n M : Nat) (hls0 : Lt 18446744073709551616 ls0) (hL0 : ls0.length = L) (hm : Lt 18446744073709551616 ms) (hml : ms.length = n) (hn : 0 < n) (hnL : n < L) (hLb : L < 16777216) (hmv' : V ms = M)
    (htop : ms.getD (n - 1) 0 ≠ 0) (hX0W : V ls0 < Num.W * M) :
    Spec Try.prog 77 [sl, sm, N .i64 n] (fun w => RdC ⟨w, fps [.sl sl (ls0.map (N .u64)) T]⟩ sm (ms.map (N .u64))) [.sl sl (ls0.map (N .u64)) T]
      (fun _ Wr => Wr = [.sl sl ((D L (V ls0 % M)).map (N .u64)) T]) := by
  refine mk_spec Try.func77 rfl rfl rfl fun w hrm => ?_
  have hMlo : Num.W ^ (n - 1) ≤ M := by rw [← hmv']; exact ge_top hm htop
  have hMp : 0 < M := Nat.lt_of_lt_of_le (W_pow_pos _) hMlo
  have hMhi : M < Num.W ^ n := by rw [← hmv', ← hml]; exact V_lt hm
  repeat (first
    |(refine st_scope0 ?_)|(refine st_label ?_)|refine Z01 ?_|refine Z02 ?_|refine Z03 ?_|refine Z04 ?_|refine Z05 ?_|refine Z06 ?_|refine Z07 ?_|refine Z08 ?_
    |refine Z09 ?_|refine Z10 ?_|refine Z11 ?_|refine Z12 ?_|refine Z13 ?_|refine Z14 ?_|refine Z15 ?_|refine Z16 ?_|refine Z17 ?_|refine Z18 ?_|refine Z19 ?_
    |refine Z20 ?_|refine Z21 ?_|refine Z22 ?_|refine Z23 ?_|refine Z24 ?_|refine Z25 ?_|refine Z26 ?_|refine Z27 ?_|refine Z28 ?_|refine Z29 ?_|refine Z30 ?_
    |refine Z31 ?_|refine Z32 ?_|refine Z33 ?_|refine Z58 ?_|refine Z59 ?_|refine Z60 ?_|refine Z67 ?_|refine Z70 ?_|refine Z71 ?_)
  refine st_loop (ι := List Nat) (fun ls => ls.length = L ∧ Lt 18446744073709551616 ls ∧ V ls % M = V ls0 % M ∧ V ls < Num.W * M) (fun ls => [(0, sl), (1, sm), (2, N .i64 n)]) (fun ls => [.sl sl (ls.map (N .u64)) T]) (fun ls => V ls) ls0 ⟨hL0, hls0, rfl, hX0W⟩ (by repeat (first | apply subL.nil | refine subL.cons (by rfl) ?_)) (by repeat (first | apply SubW.nil | refine SubW.cons (by repeat (first | apply Find.here | apply Find.there)) ?_)) ?_
  rintro ls ⟨hL, hls, hX0, hXW⟩
  obtain ⟨X, hX⟩ : ∃ X, V ls = X := ⟨_, rfl⟩
  rw [hX] at hX0 hXW
  repeat (first
    |(refine st_label ?_)
    |(refine st_callV (by rfl) (by rfl) (by rfl) (cmp_spec sl sm ls ms hls hm (by omega) (by omega)) (fun w hw => ⟨RdW.own (by repeat (first | apply Find.here | apply Find.there)) w hw, RdW.old hrm w hw⟩) (by rfl) ?_)
    |refine Z01 ?_|refine Z02 ?_|refine Z03 ?_|refine Z04 ?_|refine Z05 ?_|refine Z06 ?_|refine Z07 ?_|refine Z08 ?_|refine Z09 ?_|refine Z10 ?_|refine Z11 ?_
    |refine Z12 ?_|refine Z13 ?_|refine Z14 ?_|refine Z15 ?_|refine Z16 ?_|refine Z17 ?_|refine Z18 ?_|refine Z19 ?_|refine Z20 ?_|refine Z21 ?_|refine Z22 ?_
    |refine Z23 ?_|refine Z24 ?_|refine Z25 ?_|refine Z26 ?_|refine Z27 ?_|refine Z28 ?_|refine Z29 ?_|refine Z30 ?_|refine Z31 ?_|refine Z32 ?_|refine Z33 ?_
    |refine Z58 ?_|refine Z59 ?_|refine Z60 ?_|refine Z67 ?_|refine Z70 ?_|refine Z71 ?_)
  rw [hX, hmv']
  refine st_cond (by rfl) (fun hge => ?_) (fun hlt => ?_)
  · have hge : M ≤ X := by
      rcases Nat.lt_or_ge X M with h | h
      · rw [ord3_lt h] at hge; exact absurd hge (by decide)
      · exact h
    have hone : 1 * M ≤ X := by omega
    have htb := hm.getD (by decide) (n - 1)
    have htl : n - 1 < ms.length := by omega
    have hnl : n < ls.length := by omega
    have hn1 : n - 1 < ls.length := by omega
    have hlb := hls.getD (by decide) n
    have hlb1 := hls.getD (by decide) (n - 1)
    have hlv := V_getD hls n
    have hlv1 := V_getD hls (n - 1)
    have hmt := V_getD hm (n - 1)
    rw [hX] at hlv hlv1
    rw [hmv'] at hmt
    have hMtop : M < (ms.getD (n - 1) 0 + 1) * Num.W ^ (n - 1) := by rw [hmt]; exact top_word (by rw [show n - 1 + 1 = n by omega]; exact hMhi)
    have hB1 : True := trivial
    repeat (first
      |((refine st_block ?_; clear hB1))
      |(refine st_block_join (ι := Nat) (fun q => q * M ≤ X ∧ q < 18446744073709551616) (fun q => [(0, sl), (1, sm), (2, N .i64 n), (6, N .u64 q)]) (fun _ => [.sl sl (ls.map (N .u64)) T]) ?_ ?_)
      |refine Z01 ?_|refine Z02 ?_|refine Z03 ?_|refine Z04 ?_|refine Z05 ?_|refine Z06 ?_|refine Z07 ?_|refine Z08 ?_|refine Z09 ?_|refine Z10 ?_|refine Z11 ?_
      |refine Z12 ?_|refine Z13 ?_|refine Z14 ?_|refine Z15 ?_|refine Z16 ?_|refine Z17 ?_|refine Z18 ?_|refine Z19 ?_|refine Z20 ?_|refine Z21 ?_|refine Z22 ?_
      |refine Z23 ?_|refine Z24 ?_|refine Z25 ?_|refine Z26 ?_|refine Z27 ?_|refine Z28 ?_|refine Z29 ?_|refine Z30 ?_|refine Z31 ?_|refine Z32 ?_|refine Z33 ?_
      |refine Z58 ?_|refine Z59 ?_|refine Z60 ?_|refine Z67 ?_|refine Z70 ?_|refine Z71 ?_)
    · repeat (first
        |refine Z01 ?_|refine Z02 ?_|refine Z03 ?_|refine Z04 ?_|refine Z05 ?_|refine Z06 ?_|refine Z07 ?_|refine Z08 ?_|refine Z09 ?_|refine Z10 ?_|refine Z11 ?_
        |refine Z12 ?_|refine Z13 ?_|refine Z14 ?_|refine Z15 ?_|refine Z16 ?_|refine Z17 ?_|refine Z18 ?_|refine Z19 ?_|refine Z20 ?_|refine Z21 ?_|refine Z22 ?_
        |refine Z23 ?_|refine Z24 ?_|refine Z25 ?_|refine Z26 ?_|refine Z27 ?_|refine Z28 ?_|refine Z29 ?_|refine Z30 ?_|refine Z31 ?_|refine Z32 ?_|refine Z33 ?_
        |refine Z58 ?_|refine Z59 ?_|refine Z60 ?_|refine Z67 ?_|refine Z70 ?_|refine Z71 ?_)
      refine st_cond (by rfl) (fun h0 => ?_) (fun h0 => ?_)
      · repeat (first
          |refine Z01 ?_|refine Z02 ?_|refine Z03 ?_|refine Z04 ?_|refine Z05 ?_|refine Z06 ?_|refine Z07 ?_|refine Z08 ?_|refine Z09 ?_|refine Z10 ?_|refine Z11 ?_
          |refine Z12 ?_|refine Z13 ?_|refine Z14 ?_|refine Z15 ?_|refine Z16 ?_|refine Z17 ?_|refine Z18 ?_|refine Z19 ?_|refine Z20 ?_|refine Z21 ?_|refine Z22 ?_
          |refine Z23 ?_|refine Z24 ?_|refine Z25 ?_|refine Z26 ?_|refine Z27 ?_|refine Z28 ?_|refine Z29 ?_|refine Z30 ?_|refine Z31 ?_|refine Z32 ?_|refine Z33 ?_
          |refine Z58 ?_|refine Z59 ?_|refine Z60 ?_|refine Z67 ?_|refine Z70 ?_|refine Z71 ?_)
        exact st_met (ls.getD n 0) ⟨by rw [hlv]; exact Nat.le_trans (Nat.mul_le_mul (Nat.mod_le _ _) (Nat.le_of_lt hMhi)) (Nat.div_mul_le_self _ _), hlb⟩ (by repeat (first | apply subL.nil | refine subL.cons (by rfl) ?_)) (by repeat (first | apply SubW.nil | refine SubW.cons (by repeat (first | apply Find.here | apply Find.there)) ?_))
      · have ht1 : (ms.getD (n - 1) 0 + 1) % 18446744073709551616 = ms.getD (n - 1) 0 + 1 := by omega
        repeat (first
          |(rw [ht1])|refine Z01 ?_|refine Z02 ?_|refine Z03 ?_|refine Z04 ?_|refine Z05 ?_|refine Z06 ?_|refine Z07 ?_|refine Z08 ?_|refine Z09 ?_|refine Z10 ?_
          |refine Z11 ?_|refine Z12 ?_|refine Z13 ?_|refine Z14 ?_|refine Z15 ?_|refine Z16 ?_|refine Z17 ?_|refine Z18 ?_|refine Z19 ?_|refine Z20 ?_|refine Z21 ?_
          |refine Z22 ?_|refine Z23 ?_|refine Z24 ?_|refine Z25 ?_|refine Z26 ?_|refine Z27 ?_|refine Z28 ?_|refine Z29 ?_|refine Z30 ?_|refine Z31 ?_|refine Z32 ?_
          |refine Z33 ?_|refine Z58 ?_|refine Z59 ?_|refine Z60 ?_|refine Z67 ?_|refine Z70 ?_|refine Z71 ?_)
        refine st_cond (by rfl) (fun h1 => ?_) (fun h1 => ?_)
        · have hqb := quo_lt h1 hlb1
          have hq2 : (ls.getD n 0 * 18446744073709551616 + ls.getD (n - 1) 0) / (ms.getD (n - 1) 0 + 1) * M ≤ X := by
            refine qM_le_two (n := n - 1) hMtop ?_
            have := two_words X (n - 1)
            rw [show n - 1 + 1 = n by omega, ← hlv, ← hlv1] at this
            exact this
          repeat (first
            |refine Z01 ?_|refine Z02 ?_|refine Z03 ?_|refine Z04 ?_|refine Z05 ?_|refine Z06 ?_|refine Z07 ?_|refine Z08 ?_|refine Z09 ?_|refine Z10 ?_|refine Z11 ?_
            |refine Z12 ?_|refine Z13 ?_|refine Z14 ?_|refine Z15 ?_|refine Z16 ?_|refine Z17 ?_|refine Z18 ?_|refine Z19 ?_|refine Z20 ?_|refine Z21 ?_|refine Z22 ?_
            |refine Z23 ?_|refine Z24 ?_|refine Z25 ?_|refine Z26 ?_|refine Z27 ?_|refine Z28 ?_|refine Z29 ?_|refine Z30 ?_|refine Z31 ?_|refine Z32 ?_|refine Z33 ?_
            |refine Z58 ?_|refine Z59 ?_|refine Z60 ?_|refine Z67 ?_|refine Z70 ?_|refine Z71 ?_)
          refine st_draw1 (by rfl) ?_
          repeat (first
            |refine Zqf (by intro _ _ _;(first
              |refine Z01 ?_|refine Z02 ?_|refine Z15 ?_|refine Z16 ?_|refine Z17 ?_|refine Z18 ?_|refine Z19 ?_|refine Z20 ?_|refine Z21 ?_|refine Z22 ?_|refine Z23 ?_
              |refine Z33 ?_|refine Z58 ?_|refine Z59 ?_|refine Z60 ?_|refine Z70 ?_|refine Z71 ?_
              |(refine st_callV (by rfl) (by rfl) (by rfl) (div64_spec (ls.getD n 0) (ls.getD (n - 1) 0) (ms.getD (n - 1) 0 + 1) h1 hlb1 (by omega)) (fun _ _ => trivial) (by rfl) ?_));exact Zq) ?_
            |refine Zqp (by intro _ _ _;(first
              |refine Z24 ?_|refine Z25 ?_|refine Z26 ?_|refine Z27 ?_|refine Z28 ?_|refine Z67 ?_|refine Z23 ?_|refine Z20 ?_|refine Z21 ?_);exact Zq) ?_
            |refine Zqe (by intro _ _ _;(first
              |refine Z29 ?_|refine Z30 ?_|refine Z31 ?_|refine Z32 ?_);exact Zqq) ?_
            |refine Zqn ?_)
          refine Zq0 ?_ (by kernel_rfl)
          repeat (first
            |refine Z01 ?_|refine Z02 ?_|refine Z03 ?_|refine Z04 ?_|refine Z05 ?_|refine Z06 ?_|refine Z07 ?_|refine Z08 ?_|refine Z09 ?_|refine Z10 ?_|refine Z11 ?_
            |refine Z12 ?_|refine Z13 ?_|refine Z14 ?_|refine Z15 ?_|refine Z16 ?_|refine Z17 ?_|refine Z18 ?_|refine Z19 ?_|refine Z20 ?_|refine Z21 ?_|refine Z22 ?_
            |refine Z23 ?_|refine Z24 ?_|refine Z25 ?_|refine Z26 ?_|refine Z27 ?_|refine Z28 ?_|refine Z29 ?_|refine Z30 ?_|refine Z31 ?_|refine Z32 ?_|refine Z33 ?_
            |refine Z58 ?_|refine Z59 ?_|refine Z60 ?_|refine Z67 ?_|refine Z70 ?_|refine Z71 ?_)
          exact st_met _ ⟨hq2, hqb⟩ (by repeat (first | apply subL.nil | refine subL.cons (by rfl) ?_)) (by repeat (first | apply SubW.nil | refine SubW.cons (by repeat (first | apply Find.here | apply Find.there)) ?_))
        · repeat (first
            |refine Z01 ?_|refine Z02 ?_|refine Z03 ?_|refine Z04 ?_|refine Z05 ?_|refine Z06 ?_|refine Z07 ?_|refine Z08 ?_|refine Z09 ?_|refine Z10 ?_|refine Z11 ?_
            |refine Z12 ?_|refine Z13 ?_|refine Z14 ?_|refine Z15 ?_|refine Z16 ?_|refine Z17 ?_|refine Z18 ?_|refine Z19 ?_|refine Z20 ?_|refine Z21 ?_|refine Z22 ?_
            |refine Z23 ?_|refine Z24 ?_|refine Z25 ?_|refine Z26 ?_|refine Z27 ?_|refine Z28 ?_|refine Z29 ?_|refine Z30 ?_|refine Z31 ?_|refine Z32 ?_|refine Z33 ?_
            |refine Z58 ?_|refine Z59 ?_|refine Z60 ?_|refine Z67 ?_|refine Z70 ?_|refine Z71 ?_)
          exact st_met 0 ⟨by omega, by decide⟩ (by repeat (first | apply subL.nil | refine subL.cons (by rfl) ?_)) (by repeat (first | apply SubW.nil | refine SubW.cons (by repeat (first | apply Find.here | apply Find.there)) ?_))
    · rintro q0 ⟨hq0M, hq0W⟩
      obtain ⟨q, hqd⟩ : ∃ q, q = max q0 1 := ⟨_, rfl⟩
      have hqM : q * M ≤ X := by
        rcases Nat.le_total q0 1 with h | h
        · rw [hqd, Nat.max_eq_right h]; exact hone
        · rw [hqd, Nat.max_eq_left h]; exact hq0M
      have hqW : q < 18446744073709551616 := by omega
      have hq1 : 1 ≤ q := by rw [hqd]; exact Nat.le_max_right _ _
      repeat (first
        |(rw [← hqd])|refine Z01 ?_|refine Z02 ?_|refine Z03 ?_|refine Z04 ?_|refine Z05 ?_|refine Z06 ?_|refine Z07 ?_|refine Z08 ?_|refine Z09 ?_|refine Z10 ?_
        |refine Z11 ?_|refine Z12 ?_|refine Z13 ?_|refine Z14 ?_|refine Z15 ?_|refine Z16 ?_|refine Z17 ?_|refine Z18 ?_|refine Z19 ?_|refine Z20 ?_|refine Z21 ?_
        |refine Z22 ?_|refine Z23 ?_|refine Z24 ?_|refine Z25 ?_|refine Z26 ?_|refine Z27 ?_|refine Z28 ?_|refine Z29 ?_|refine Z30 ?_|refine Z31 ?_|refine Z32 ?_
        |refine Z33 ?_|refine Z58 ?_|refine Z59 ?_|refine Z60 ?_|refine Z67 ?_|refine Z70 ?_|refine Z71 ?_)
      refine st_loop (ι := Nat) (fun i => i ≤ L) (fun i => [(0, sl), (1, sm), (2, N .i64 n), (6, N .u64 q), (8, N .u64 (bw X (q * M) i)), (9, N .i64 i), (10, N .u64 (q * (M % Num.W ^ i) / Num.W ^ i))])
        (fun i => [.sl sl ((D i (sb X (q * M) i) ++ ls.drop i).map (N .u64)) T]) (fun i => L - i) 0 (by omega) (by simp only [Nat.pow_zero, Nat.mod_one, Nat.mul_zero, Nat.zero_div, bw_0]; exact (by repeat (first | apply subL.nil | refine subL.cons (by rfl) ?_))) (by simp only [D_0, List.drop_zero, List.nil_append]; exact (by repeat (first | apply SubW.nil | refine SubW.cons (by repeat (first | apply Find.here | apply Find.there)) ?_))) ?_
      intro i hi
      have hll : (D i (sb X (q * M) i) ++ ls.drop i).length = L := by rw [List.length_append, D_len, List.length_drop]; omega
      repeat (first
        |refine Z01 ?_|refine Z02 ?_|refine Z03 ?_|refine Z04 ?_|refine Z05 ?_|refine Z06 ?_|refine Z07 ?_|refine Z08 ?_|refine Z09 ?_|refine Z10 ?_|refine Z11 ?_
        |refine Z12 ?_|refine Z13 ?_|refine Z14 ?_|refine Z15 ?_|refine Z16 ?_|refine Z17 ?_|refine Z18 ?_|refine Z19 ?_|refine Z20 ?_|refine Z21 ?_|refine Z22 ?_
        |refine Z23 ?_|refine Z24 ?_|refine Z25 ?_|refine Z26 ?_|refine Z27 ?_|refine Z28 ?_|refine Z29 ?_|refine Z30 ?_|refine Z31 ?_|refine Z32 ?_|refine Z33 ?_
        |refine Z58 ?_|refine Z59 ?_|refine Z60 ?_|refine Z67 ?_|refine Z70 ?_|refine Z71 ?_)
      refine st_cond (by rfl) (fun h => ?_) (fun h => ?_)
      · rw [hll] at h
        have hmi := hm.getD (by decide) i
        have hmv := V_getD hm i
        have hcl := mulw_lt q M i hqW
        have hc1 := mulw_next q M i
        have hc2 := mulw_word q M i
        have hbl := bw_le X (q * M) i
        have hgw := take_word (q := q) (M := M) hls hL hX h
        have hb1 := mul_bound hqW hmi
        rw [hmv'] at hmv
        rw [← hmv] at hc1 hc2
        have hw1 : (q * ms.getD i 0 % 18446744073709551616 + q * (M % Num.W ^ i) / Num.W ^ i) % 18446744073709551616 = q * M / Num.W ^ i % Num.W := by rw [hc2]; show _ = _ % 18446744073709551616; omega
        have hw2 : (q * ms.getD i 0 / 18446744073709551616 + (q * ms.getD i 0 % 18446744073709551616 + q * (M % Num.W ^ i) / Num.W ^ i) / 18446744073709551616) % 18446744073709551616 = q * (M % Num.W ^ (i + 1)) / Num.W ^ (i + 1) := by
          rw [hc1]
          have : q * (M % Num.W ^ i) / Num.W ^ i < 18446744073709551616 := hcl
          show _ = _ / 18446744073709551616
          generalize q * (M % Num.W ^ i) / Num.W ^ i = c at *
          generalize q * ms.getD i 0 = z at *
          omega
        have hsc := sub_carry X (q * M) i
        repeat (first
          |(refine st_callV (by rfl) (by rfl) (by rfl) (at_spec sm ms i (by omega)) (RdW.old hrm) (by rfl) ?_)
          |(refine st_callV (by rfl) (by rfl) (by rfl) (mul64_spec q (ms.getD i 0) hqW hmi) (fun _ _ => trivial) (by rfl) ?_)
          |(refine st_callX (by rfl) (by rfl) (by rfl) (add64X0 _ _) (by rfl) ?_)|(rw [hw1])|(rw [hw2])|(rw [hgw])
          |(refine st_callX (by rfl) (by rfl) (by rfl) (sub64X _ _ _ hbl) (by rfl) ?_)|refine Z01 ?_|refine Z02 ?_|refine Z03 ?_|refine Z04 ?_|refine Z05 ?_|refine Z06 ?_
          |refine Z07 ?_|refine Z08 ?_|refine Z09 ?_|refine Z10 ?_|refine Z11 ?_|refine Z12 ?_|refine Z13 ?_|refine Z14 ?_|refine Z15 ?_|refine Z16 ?_|refine Z17 ?_
          |refine Z18 ?_|refine Z19 ?_|refine Z20 ?_|refine Z21 ?_|refine Z22 ?_|refine Z23 ?_|refine Z24 ?_|refine Z25 ?_|refine Z26 ?_|refine Z27 ?_|refine Z28 ?_
          |refine Z29 ?_|refine Z30 ?_|refine Z31 ?_|refine Z32 ?_|refine Z33 ?_|refine Z58 ?_|refine Z59 ?_|refine Z60 ?_|refine Z67 ?_|refine Z70 ?_|refine Z71 ?_)
        rw [take_set hL h rfl]
        refine st_round (i + 1) (by omega) (by omega) (by rw [hsc]; exact (by repeat (first | apply subL.nil | refine subL.cons (by rfl) ?_))) (by repeat (first | apply SubW.nil | refine SubW.cons (by repeat (first | apply Find.here | apply Find.there)) ?_))
      · rw [hll] at h
        have hie : i = L := by omega
        subst hie
        have hXL : X < Num.W ^ i := by rw [← hX, ← hL]; exact V_lt hls
        have hval : X - q * M < Num.W ^ i := by omega
        rw [take_end hqM hXL, List.drop_eq_nil_of_le (by omega), List.append_nil]
        repeat (first
          |refine Z01 ?_|refine Z02 ?_|refine Z03 ?_|refine Z04 ?_|refine Z05 ?_|refine Z06 ?_|refine Z07 ?_|refine Z08 ?_|refine Z09 ?_|refine Z10 ?_|refine Z11 ?_
          |refine Z12 ?_|refine Z13 ?_|refine Z14 ?_|refine Z15 ?_|refine Z16 ?_|refine Z17 ?_|refine Z18 ?_|refine Z19 ?_|refine Z20 ?_|refine Z21 ?_|refine Z22 ?_
          |refine Z23 ?_|refine Z24 ?_|refine Z25 ?_|refine Z26 ?_|refine Z27 ?_|refine Z28 ?_|refine Z29 ?_|refine Z30 ?_|refine Z31 ?_|refine Z32 ?_|refine Z33 ?_
          |refine Z58 ?_|refine Z59 ?_|refine Z60 ?_|refine Z67 ?_|refine Z70 ?_|refine Z71 ?_)
        refine st_round (D i (X - q * M)) ⟨D_len _ _, D_lt _ _, by rw [V_D' hval, mod_sub hqM, hX0], by rw [V_D' hval]; omega⟩ ?_ (by repeat (first | apply subL.nil | refine subL.cons (by rfl) ?_)) (by repeat (first | apply SubW.nil | refine SubW.cons (by repeat (first | apply Find.here | apply Find.there)) ?_))
        rw [V_D' hval]
        have : M ≤ q * M := Nat.le_mul_of_pos_left M hq1
        omega
  · have hlt : X < M := by
      rcases Nat.lt_or_ge X M with h | h
      · exact h
      · rcases Nat.eq_or_lt_of_le h with h | h
        · rw [ord3_eq h.symm] at hlt; exact absurd (by decide) hlt
        · rw [ord3_gt h] at hlt; exact absurd (by decide) hlt
    have hfin : ls = D L (V ls0 % M) := by
      refine D_of_V hls hL ?_
      rw [hX, ← hX0, Nat.mod_eq_of_lt hlt]
    rw [hfin]
    repeat (first
      |(with_reducible refine st_ng_normal ?_)|refine Z01 ?_|refine Z02 ?_|refine Z03 ?_|refine Z04 ?_|refine Z05 ?_|refine Z06 ?_|refine Z07 ?_|refine Z08 ?_
      |refine Z09 ?_|refine Z10 ?_|refine Z11 ?_|refine Z12 ?_|refine Z13 ?_|refine Z14 ?_|refine Z15 ?_|refine Z16 ?_|refine Z17 ?_|refine Z18 ?_|refine Z19 ?_
      |refine Z20 ?_|refine Z21 ?_|refine Z22 ?_|refine Z23 ?_|refine Z24 ?_|refine Z25 ?_|refine Z26 ?_|refine Z27 ?_|refine Z28 ?_|refine Z29 ?_|refine Z30 ?_
      |refine Z31 ?_|refine Z32 ?_|refine Z33 ?_|refine Z58 ?_|refine Z59 ?_|refine Z60 ?_|refine Z67 ?_|refine Z70 ?_|refine Z71 ?_)
    exact st_end0 rfl fun _ hw => post_of hw (Wout := [.sl sl ((D L (V ls0 % M)).map (N .u64)) T]) (by exact (by repeat (first | apply SubW.nil | refine SubW.cons (by repeat (first | apply Find.here | apply Find.there)) ?_))) rfl
end Go.Proofs.Ytbjfjkmidhfgcaa.L
