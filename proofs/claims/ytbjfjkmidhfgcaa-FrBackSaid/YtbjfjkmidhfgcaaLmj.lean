/- What is left of a division by a number of many words. Conditions: as each statement says. -/
import Derived.Test.YtbjfjkmidhfgcaaAuto
import Derived.Test.YtbjfjkmidhfgcaaPerm
import Derived.Test.YtbjfjkmidhfgcaaMore
import Derived.Test.YtbjfjkmidhfgcaaProg
import Derived.Test.YtbjfjkmidhfgcaaNum
import Derived.Test.YtbjfjkmidhfgcaaLmb
import Derived.Test.YtbjfjkmidhfgcaaLmd
import Derived.Test.YtbjfjkmidhfgcaaScope
import Derived.Test.YtbjfjkmidhfgcaaJoin
import Derived.Test.YtbjfjkmidhfgcaaLma
import Derived.Test.YtbjfjkmidhfgcaaLmz
import Derived.Test.YtbjfjkmidhfgcaaLme
import Derived.Test.YtbjfjkmidhfgcaaLmf
import Derived.Test.YtbjfjkmidhfgcaaLmh
namespace Go.Proofs.Ytbjfjkmidhfgcaa.L
open Go Go.Proofs
set_option maxRecDepth 100000
attribute [local irreducible] Code.wp wpList Af bodyPost L.Go
open Num
attribute [local simp] D_len

theorem take_top {ms : List Nat} {n : Nat} (hn : n ≤ ms.length) (h : ∀ j, n ≤ j → ms.getD j 0 = 0) : V (ms.take n) = V ms := by
  have e : ms = ms.take n ++ List.replicate (ms.length - n) 0 := by
    apply List.ext_getElem?
    intro i
    rcases Nat.lt_or_ge i n with hi | hi
    · rw [List.getElem?_append_left (by simp; omega), List.getElem?_take, if_pos hi]
    · rw [List.getElem?_append_right (by simp; omega), List.getElem?_replicate]
      rcases Nat.lt_or_ge i ms.length with hl | hl
      · have := h i hi
        rw [List.getD_eq_getElem?_getD, List.getElem?_eq_getElem hl] at this
        rw [List.getElem?_eq_getElem hl, if_pos (by simp; omega)]
        simpa using this
      · rw [List.getElem?_eq_none hl, if_neg (by simp; omega)]
  conv => rhs; rw [e]
  rw [V_append, V_rep0, Nat.mul_zero, Nat.add_zero]

set_option maxHeartbeats 4000000 in
theorem mod_spec (s t : Value) (xs ms : List Nat) (hx : Lt 18446744073709551616 xs) (hm : Lt 18446744073709551616 ms) (hl1 : xs.length < 1000000) (hl2 : ms.length < 1000000) :
    Spec Try.prog 31 [s, t] (fun w => Rd w s (xs.map (N .u64)) ∧ Rd w t (ms.map (N .u64))) []
      (fun v Wr => (V ms = 0 ∧ v = .tuple [.slice none 0 0, N .i64 30].toArray ∧ Wr = []) ∨ (0 < V ms ∧ ∃ u, v = .tuple [u, N .i64 0].toArray ∧ Wr = [.sl u ((D ms.length (V xs % V ms)).map (N .u64)) 30])) := by
  refine mk_spec Try.func31 rfl rfl rfl fun w hr => ?_
  have hr1 := RdC.mk0 hr.1
  have hr2 := RdC.mk0 hr.2
  repeat (first
    
    |(refine st_block_join (ι := Nat) (fun n => n ≤ ms.length ∧ (∀ j, n ≤ j → ms.getD j 0 = 0) ∧ (n = 0 ∨ ms.getD (n - 1) 0 ≠ 0)) (fun n => [(0, s), (1, t), (6, N .i64 n)]) (fun _ => []) ?_ ?_)
    |refine Z01 ?_|refine Z02 ?_|refine Z03 ?_|refine Z04 ?_|refine Z05 ?_|refine Z06 ?_|refine Z07 ?_|refine Z08 ?_|refine Z09 ?_|refine Z10 ?_|refine Z11 ?_
    |refine Z12 ?_|refine Z13 ?_|refine Z14 ?_|refine Z15 ?_|refine Z16 ?_|refine Z17 ?_|refine Z18 ?_|refine Z20 ?_|refine Z21 ?_|refine Z22 ?_|refine Z23 ?_
    |refine Z24 ?_|refine Z25 ?_|refine Z26 ?_|refine Z27 ?_|refine Z28 ?_|refine Z29 ?_|refine Z30 ?_|refine Z31 ?_|refine Z32 ?_|refine Z49 ?_|refine Z50 ?_
    |refine Z51 ?_|refine Z52 ?_|refine Z53 ?_|refine Z58 ?_|refine Z59 ?_|refine Z62 ?_|refine Z63 ?_|refine Z64 ?_|refine Z67 ?_|refine Z70 ?_|refine Z71 ?_
    |refine Z75 ?_|refine Z76 ?_|refine Z83 fun _ => ?_)
  · refine st_loop (ι := Nat) (fun n => n ≤ ms.length ∧ ∀ j, n ≤ j → ms.getD j 0 = 0) (fun n => [(0, s), (1, t), (6, N .i64 n)]) (fun _ => []) (fun n => n) ms.length ⟨Nat.le_refl _, fun j hj => getD_out hj⟩ (by repeat (first | apply subL.nil | refine subL.cons (by rfl) ?_)) (by repeat (first | apply SubW.nil | refine SubW.cons (by repeat (first | apply Find.here | apply Find.there)) ?_)) ?_
    rintro n ⟨hn, hz⟩
    by_cases h0 : n = 0
    · repeat (first
        |(refine st_cmp (r := false) (by rfl) (by rfl) (cmpN_f (by first | (simp only [cmpQ]; done) | (simp only [cmpQ]; omega))) (by rfl) ?_)|refine Z01 ?_|refine Z02 ?_
        |refine Z03 ?_|refine Z04 ?_|refine Z05 ?_|refine Z06 ?_|refine Z07 ?_|refine Z08 ?_|refine Z09 ?_|refine Z10 ?_|refine Z11 ?_|refine Z12 ?_|refine Z13 ?_
        |refine Z14 ?_|refine Z15 ?_|refine Z16 ?_|refine Z17 ?_|refine Z18 ?_|refine Z20 ?_|refine Z21 ?_|refine Z22 ?_|refine Z23 ?_|refine Z24 ?_|refine Z25 ?_
        |refine Z26 ?_|refine Z27 ?_|refine Z28 ?_|refine Z29 ?_|refine Z30 ?_|refine Z31 ?_|refine Z32 ?_|refine Z49 ?_|refine Z50 ?_|refine Z51 ?_|refine Z52 ?_
        |refine Z53 ?_|refine Z58 ?_|refine Z59 ?_|refine Z62 ?_|refine Z63 ?_|refine Z64 ?_|refine Z67 ?_|refine Z70 ?_|refine Z71 ?_|refine Z75 ?_|refine Z76 ?_
        |refine Z83 fun _ => ?_)
      exact st_met n ⟨hn, hz, .inl h0⟩ (by repeat (first | apply subL.nil | refine subL.cons (by rfl) ?_)) (by repeat (first | apply SubW.nil | refine SubW.cons (by repeat (first | apply Find.here | apply Find.there)) ?_))
    · have hnl : n - 1 < ms.length := by omega
      by_cases hw : ms.getD (n - 1) 0 = 0
      · repeat (first
          |(refine st_cmp (r := true) (by rfl) (by rfl) (cmpN_t (by first | (simp only [cmpP]; done) | (simp only [cmpP]; omega))) (by rfl) ?_)|refine Z01 ?_
          |refine Z02 ?_|refine Z03 ?_|refine Z04 ?_|refine Z05 ?_|refine Z06 ?_|refine Z07 ?_|refine Z08 ?_|refine Z09 ?_|refine Z10 ?_|refine Z11 ?_|refine Z12 ?_
          |refine Z13 ?_|refine Z14 ?_|refine Z15 ?_|refine Z16 ?_|refine Z17 ?_|refine Z18 ?_|refine Z20 ?_|refine Z21 ?_|refine Z22 ?_|refine Z23 ?_|refine Z24 ?_
          |refine Z25 ?_|refine Z26 ?_|refine Z27 ?_|refine Z28 ?_|refine Z29 ?_|refine Z30 ?_|refine Z31 ?_|refine Z32 ?_|refine Z49 ?_|refine Z50 ?_|refine Z51 ?_
          |refine Z52 ?_|refine Z53 ?_|refine Z58 ?_|refine Z59 ?_|refine Z62 ?_|refine Z63 ?_|refine Z64 ?_|refine Z67 ?_|refine Z70 ?_|refine Z71 ?_|refine Z75 ?_
          |refine Z76 ?_|refine Z83 fun _ => ?_)
        refine st_round (n - 1) ⟨by omega, fun j hj => ?_⟩ (by omega) (by repeat (first | apply subL.nil | refine subL.cons (by rfl) ?_)) (by repeat (first | apply SubW.nil | refine SubW.cons (by repeat (first | apply Find.here | apply Find.there)) ?_))
        rcases Nat.eq_or_lt_of_le hj with h | h
        · rw [← h]; exact hw
        · exact hz j (by omega)
      · repeat (first
          |(refine st_cmp (r := true) (by rfl) (by rfl) (cmpN_t (by first | (simp only [cmpP]; done) | (simp only [cmpP]; omega))) (by rfl) ?_)|(rw [decide_eq_false hw])
          |refine Z01 ?_|refine Z02 ?_|refine Z03 ?_|refine Z04 ?_|refine Z05 ?_|refine Z06 ?_|refine Z07 ?_|refine Z08 ?_|refine Z09 ?_|refine Z10 ?_|refine Z11 ?_
          |refine Z12 ?_|refine Z13 ?_|refine Z14 ?_|refine Z15 ?_|refine Z16 ?_|refine Z17 ?_|refine Z18 ?_|refine Z20 ?_|refine Z21 ?_|refine Z22 ?_|refine Z23 ?_
          |refine Z24 ?_|refine Z25 ?_|refine Z26 ?_|refine Z27 ?_|refine Z28 ?_|refine Z29 ?_|refine Z30 ?_|refine Z31 ?_|refine Z32 ?_|refine Z49 ?_|refine Z50 ?_
          |refine Z51 ?_|refine Z52 ?_|refine Z53 ?_|refine Z58 ?_|refine Z59 ?_|refine Z62 ?_|refine Z63 ?_|refine Z64 ?_|refine Z67 ?_|refine Z70 ?_|refine Z71 ?_
          |refine Z75 ?_|refine Z76 ?_|refine Z83 fun _ => ?_)
        exact st_met n ⟨hn, hz, .inr hw⟩ (by repeat (first | apply subL.nil | refine subL.cons (by rfl) ?_)) (by repeat (first | apply SubW.nil | refine SubW.cons (by repeat (first | apply Find.here | apply Find.there)) ?_))
  rintro n ⟨hn, hz, htop⟩
  by_cases h0 : n = 0
  · repeat (first
      |(refine st_cmp (r := true) (by rfl) (by rfl) (cmpN_t (by first | (simp only [cmpP]; done) | (simp only [cmpP]; omega))) (by rfl) ?_)|refine Z01 ?_|refine Z02 ?_
      |refine Z03 ?_|refine Z04 ?_|refine Z05 ?_|refine Z06 ?_|refine Z07 ?_|refine Z08 ?_|refine Z09 ?_|refine Z10 ?_|refine Z11 ?_|refine Z12 ?_|refine Z13 ?_
      |refine Z14 ?_|refine Z15 ?_|refine Z16 ?_|refine Z17 ?_|refine Z18 ?_|refine Z20 ?_|refine Z21 ?_|refine Z22 ?_|refine Z23 ?_|refine Z24 ?_|refine Z25 ?_
      |refine Z26 ?_|refine Z27 ?_|refine Z28 ?_|refine Z29 ?_|refine Z30 ?_|refine Z31 ?_|refine Z32 ?_|refine Z49 ?_|refine Z50 ?_|refine Z51 ?_|refine Z52 ?_
      |refine Z53 ?_|refine Z58 ?_|refine Z59 ?_|refine Z62 ?_|refine Z63 ?_|refine Z64 ?_|refine Z67 ?_|refine Z70 ?_|refine Z71 ?_|refine Z75 ?_|refine Z76 ?_
      |refine Z83 fun _ => ?_)
    refine Ze2 fun _ hw => post_of hw SubW.nil (.inl ⟨?_, rfl, rfl⟩)
    have := take_top hn hz
    rw [h0, List.take_zero, V_nil] at this
    exact this.symm
  have htop : ms.getD (n - 1) 0 ≠ 0 := by rcases htop with h | h; exact absurd h h0; exact h
  obtain ⟨M, hM⟩ : ∃ M, V ms = M := ⟨_, rfl⟩
  have hMt : V (ms.take n) = M := by rw [take_top hn hz, hM]
  have htl : (ms.take n).length = n := by rw [List.length_take]; omega
  have htt : (ms.take n).getD (n - 1) 0 ≠ 0 := by
    rw [List.getD_eq_getElem?_getD, List.getElem?_take, if_pos (by omega), ← List.getD_eq_getElem?_getD]; exact htop
  have htb := hm.take n
  have hMp : 0 < M := by rw [← hMt]; exact Nat.lt_of_lt_of_le (W_pow_pos _) (ge_top htb htt)
  have hMW : M < Num.W ^ ms.length := by rw [← hM]; exact V_lt hm
  rw [hM]
  repeat (first
    |(refine st_cmp (r := false) (by rfl) (by rfl) (cmpN_f (by first | (simp only [cmpQ]; done) | (simp only [cmpQ]; omega))) (by rfl) ?_)|refine Z01 ?_|refine Z02 ?_
    |refine Z03 ?_|refine Z04 ?_|refine Z05 ?_|refine Z06 ?_|refine Z07 ?_|refine Z08 ?_|refine Z09 ?_|refine Z10 ?_|refine Z11 ?_|refine Z12 ?_|refine Z13 ?_
    |refine Z14 ?_|refine Z15 ?_|refine Z16 ?_|refine Z17 ?_|refine Z18 ?_|refine Z20 ?_|refine Z21 ?_|refine Z22 ?_|refine Z23 ?_|refine Z24 ?_|refine Z25 ?_
    |refine Z26 ?_|refine Z27 ?_|refine Z28 ?_|refine Z29 ?_|refine Z30 ?_|refine Z31 ?_|refine Z32 ?_|refine Z49 ?_|refine Z50 ?_|refine Z51 ?_|refine Z52 ?_
    |refine Z53 ?_|refine Z58 ?_|refine Z59 ?_|refine Z62 ?_|refine Z63 ?_|refine Z64 ?_|refine Z67 ?_|refine Z70 ?_|refine Z71 ?_|refine Z75 ?_|refine Z76 ?_
    |refine Z83 fun _ => ?_)
  rename_i u
  obtain ⟨L, hL⟩ : ∃ L, L = ms.length := ⟨_, rfl⟩
  refine st_loop (ι := Nat) (fun j => j ≤ xs.length) (fun j => [(0, s), (1, t), (6, N .i64 n), (7, u), (8, .int .i64 ((j : Int) - 1))]) (fun j => [.sl u ((D (ms.length + 1) (V xs / Num.W ^ j % M)).map (N .u64)) 30]) (fun j => j) xs.length (Nat.le_refl _) (by repeat (first | apply subL.nil | refine subL.cons (by rfl) ?_)) ?_ ?_
  · rw [Nat.div_eq_of_lt (V_lt hx), Nat.zero_mod, D_zero]
    exact (by repeat (first | apply SubW.nil | refine SubW.cons (by repeat (first | apply Find.here | apply Find.there)) ?_))
  intro j hj
  have hDl := D_len (ms.length + 1) (V xs / Num.W ^ j % M)
  repeat (first
    |refine Z01 ?_|refine Z02 ?_|refine Z03 ?_|refine Z04 ?_|refine Z05 ?_|refine Z06 ?_|refine Z07 ?_|refine Z08 ?_|refine Z09 ?_|refine Z10 ?_|refine Z11 ?_
    |refine Z12 ?_|refine Z13 ?_|refine Z14 ?_|refine Z15 ?_|refine Z16 ?_|refine Z17 ?_|refine Z18 ?_|refine Z20 ?_|refine Z21 ?_|refine Z22 ?_|refine Z23 ?_
    |refine Z24 ?_|refine Z25 ?_|refine Z26 ?_|refine Z27 ?_|refine Z28 ?_|refine Z29 ?_|refine Z30 ?_|refine Z31 ?_|refine Z32 ?_|refine Z49 ?_|refine Z50 ?_
    |refine Z51 ?_|refine Z52 ?_|refine Z53 ?_|refine Z58 ?_|refine Z59 ?_|refine Z62 ?_|refine Z63 ?_|refine Z64 ?_|refine Z67 ?_|refine Z70 ?_|refine Z71 ?_
    |refine Z75 ?_|refine Z76 ?_|refine Z83 fun _ => ?_)
  refine st_cond (by rfl) (fun h => ?_) (fun h => ?_)
  · have hp : (0 : Int) ≤ (j : Int) - 1 := h
    obtain ⟨i, rfl⟩ : ∃ i, j = i + 1 := ⟨j - 1, by omega⟩
    rw [show ((i + 1 : Nat) : Int) - 1 = Int.ofNat i by simp]
    obtain ⟨R, hR⟩ : ∃ R, R = V xs / Num.W ^ (i + 1) % M := ⟨_, rfl⟩
    rw [← hR] at hDl ⊢
    have hRM : R < M := by rw [hR]; exact Nat.mod_lt _ hMp
    have hRW : R < Num.W ^ (ms.length + 1) := Nat.lt_of_lt_of_le (Nat.lt_trans hRM hMW) (W_le (Nat.le_succ _))
    have hxi := hx.getD (by decide) i
    have hil : i < xs.length := by omega
    have hDb := D_lt (ms.length + 1) R
    have hcl : (List.take 1 (D (ms.length + 1) R) ++ List.take ((D (ms.length + 1) R).length - 1) (D (ms.length + 1) R)).length = ms.length + 1 := by rw [List.length_append, List.length_take, List.length_take, hDl]; omega
    repeat (first
      |(rw [List.length_map])
      |(refine st_copy_selfN (lo := 1) (by rfl) (by rfl) (by repeat (first | apply Find.here | apply Find.there)) (by omega) (by rfl) (by rfl) (by rfl) ?_)|refine Z01 ?_
      |refine Z02 ?_|refine Z03 ?_|refine Z04 ?_|refine Z05 ?_|refine Z06 ?_|refine Z07 ?_|refine Z08 ?_|refine Z09 ?_|refine Z10 ?_|refine Z11 ?_|refine Z12 ?_
      |refine Z13 ?_|refine Z14 ?_|refine Z15 ?_|refine Z16 ?_|refine Z17 ?_|refine Z18 ?_|refine Z20 ?_|refine Z21 ?_|refine Z22 ?_|refine Z23 ?_|refine Z24 ?_
      |refine Z25 ?_|refine Z26 ?_|refine Z27 ?_|refine Z28 ?_|refine Z29 ?_|refine Z30 ?_|refine Z31 ?_|refine Z32 ?_|refine Z49 ?_|refine Z50 ?_|refine Z51 ?_
      |refine Z52 ?_|refine Z53 ?_|refine Z58 ?_|refine Z59 ?_|refine Z62 ?_|refine Z63 ?_|refine Z64 ?_|refine Z67 ?_|refine Z70 ?_|refine Z71 ?_|refine Z75 ?_
      |refine Z76 ?_|refine Z83 fun _ => ?_)
    have hset : (List.take 1 (D (ms.length + 1) R) ++ List.take ((D (ms.length + 1) R).length - 1) (D (ms.length + 1) R)).set 0 (xs.getD i 0) = xs.getD i 0 :: (D (ms.length + 1) R).take ms.length := by
      rw [hDl, Nat.add_sub_cancel]
      cases hd : D (ms.length + 1) R with
      | nil => rw [hd] at hDl; simp at hDl
      | cons a r => simp
    rw [hset]
    have hnb : Lt 18446744073709551616 (xs.getD i 0 :: (D (ms.length + 1) R).take ms.length) := Num.Lt.cons hxi (hDb.take _)
    have hnl : (xs.getD i 0 :: (D (ms.length + 1) R).take ms.length).length = ms.length + 1 := by rw [List.length_cons, List.length_take, hDl]; omega
    have hnv : V (xs.getD i 0 :: (D (ms.length + 1) R).take ms.length) = xs.getD i 0 + Num.W * R := by
      rw [shift_val hDl hDb (by rw [V_D' hRW]; exact Nat.lt_trans hRM hMW), V_D' hRW]
    have hnW : V (xs.getD i 0 :: (D (ms.length + 1) R).take ms.length) < Num.W * M := by
      rw [hnv]
      have := Nat.mul_le_mul_left Num.W (show R + 1 ≤ M from hRM)
      rw [Nat.mul_add, Nat.mul_one] at this
      have h2 : xs.getD i 0 < Num.W := hxi
      omega
    have hrv : V (xs.getD i 0 :: (D (ms.length + 1) R).take ms.length) % M = V xs / Num.W ^ i % M := by
      rw [hnv, hR, V_getD hx, mod_step]
    have hcut : List.drop 0 (List.take n ms) = ms.take n := List.drop_zero
    have hsub : RdC ⟨w, fps []⟩ (sub t 0 n) ((ms.take n).map (N .u64)) := by
      have h := RdC.subC (lo := 0) (hi := n) (k := .u64) hr2 (by omega) hn
      rw [hcut] at h; exact h
    repeat (first
      
      |((refine st_call (by rfl) (by rfl) (by rfl) (take_spec u _ 30 _ (ms.take n) (ms.length + 1) n M hnb hnl htb htl (by omega) (by omega) (by omega) hMt htt hnW) (.cons (by repeat (first | apply Find.here | apply Find.there)) .nil) (fun w' hw' => RdC.toWin hsub hw' (.cons Find.here .nil)) (by rfl) ?_; rintro v _ rfl; rw [hrv]))
      |refine Z01 ?_|refine Z02 ?_|refine Z03 ?_|refine Z04 ?_|refine Z05 ?_|refine Z06 ?_|refine Z07 ?_|refine Z08 ?_|refine Z09 ?_|refine Z10 ?_|refine Z11 ?_
      |refine Z12 ?_|refine Z13 ?_|refine Z14 ?_|refine Z15 ?_|refine Z16 ?_|refine Z17 ?_|refine Z18 ?_|refine Z20 ?_|refine Z21 ?_|refine Z22 ?_|refine Z23 ?_
      |refine Z24 ?_|refine Z25 ?_|refine Z26 ?_|refine Z27 ?_|refine Z28 ?_|refine Z29 ?_|refine Z30 ?_|refine Z31 ?_|refine Z32 ?_|refine Z49 ?_|refine Z50 ?_
      |refine Z51 ?_|refine Z52 ?_|refine Z53 ?_|refine Z58 ?_|refine Z59 ?_|refine Z62 ?_|refine Z63 ?_|refine Z64 ?_|refine Z67 ?_|refine Z70 ?_|refine Z71 ?_
      |refine Z75 ?_|refine Z76 ?_|refine Z83 fun _ => ?_)
    refine st_round i (by omega) (by omega) ?_ (by repeat (first | apply SubW.nil | refine SubW.cons (by repeat (first | apply Find.here | apply Find.there)) ?_))
    rw [show ((i : Int) - 1) = Int.ofNat i - Int.ofNat 1 from rfl]
    exact (by repeat (first | apply subL.nil | refine subL.cons (by rfl) ?_))
  · have hp : ¬ (0 : Int) ≤ (j : Int) - 1 := h
    have hj0 : j = 0 := by omega
    subst hj0
    rw [Nat.pow_zero, Nat.div_one] at hDl ⊢
    have hRM : V xs % M < M := Nat.mod_lt _ hMp
    repeat (first
      |refine Z01 ?_|refine Z02 ?_|refine Z03 ?_|refine Z04 ?_|refine Z05 ?_|refine Z06 ?_|refine Z07 ?_|refine Z08 ?_|refine Z09 ?_|refine Z10 ?_|refine Z11 ?_
      |refine Z12 ?_|refine Z13 ?_|refine Z14 ?_|refine Z15 ?_|refine Z16 ?_|refine Z17 ?_|refine Z18 ?_|refine Z20 ?_|refine Z21 ?_|refine Z22 ?_|refine Z23 ?_
      |refine Z24 ?_|refine Z25 ?_|refine Z26 ?_|refine Z27 ?_|refine Z28 ?_|refine Z29 ?_|refine Z30 ?_|refine Z31 ?_|refine Z32 ?_|refine Z49 ?_|refine Z50 ?_
      |refine Z51 ?_|refine Z52 ?_|refine Z53 ?_|refine Z58 ?_|refine Z59 ?_|refine Z62 ?_|refine Z63 ?_|refine Z64 ?_|refine Z67 ?_|refine Z70 ?_|refine Z71 ?_
      |refine Z75 ?_|refine Z76 ?_|refine Z83 fun _ => ?_)
    refine st_resl (s := u) 0 ms.length (by repeat (first | apply Find.here | apply Find.there)) (by omega) (by rw [List.length_map, hDl]; omega) ?_
    have hcut : List.drop 0 (List.take ms.length (List.map (N .u64) (D (ms.length + 1) (V xs % M)))) = (D ms.length (V xs % M)).map (N .u64) := by
      rw [List.drop_zero, ← List.map_take]
      congr 1
      refine D_of_V ((D_lt _ _).take _) (by rw [List.length_take, hDl]; omega) ?_
      rw [V_take (D_lt _ _), V_D, Nat.mod_eq_of_lt (a := V xs % M) (Nat.lt_of_lt_of_le (Nat.lt_trans hRM hMW) (W_le (Nat.le_succ _))), Nat.mod_eq_of_lt (Nat.lt_trans hRM hMW)]
    rw [hcut]
    exact Ze2 fun _ hw => post_of hw (Wout := [.sl (sub u 0 ms.length) ((D ms.length (V xs % M)).map (N .u64)) 30]) (by exact (by repeat (first | apply SubW.nil | refine SubW.cons (by repeat (first | apply Find.here | apply Find.there)) ?_))) (.inr ⟨hMp, _, rfl, rfl⟩)
end Go.Proofs.Ytbjfjkmidhfgcaa.L
