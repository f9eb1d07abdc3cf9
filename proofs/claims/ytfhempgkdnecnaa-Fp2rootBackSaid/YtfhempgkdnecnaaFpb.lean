/- The numbers modulo p: products by Montgomery, the program's walks. Conditions: as each statement says. -/
import Derived.Test.YtfhempgkdnecnaaAuto
import Derived.Test.YtfhempgkdnecnaaPerm
import Derived.Test.YtfhempgkdnecnaaMore
import Derived.Test.YtfhempgkdnecnaaProg
import Derived.Test.YtfhempgkdnecnaaNum
import Derived.Test.YtfhempgkdnecnaaLmb
import Derived.Test.YtfhempgkdnecnaaLmd
import Derived.Test.YtfhempgkdnecnaaLmk
import Derived.Test.YtfhempgkdnecnaaScope
import Derived.Test.YtfhempgkdnecnaaJoin
import Derived.Test.YtfhempgkdnecnaaLma
import Derived.Test.YtfhempgkdnecnaaGho
import Derived.Test.YtfhempgkdnecnaaBld
import Derived.Test.YtfhempgkdnecnaaArr
import Derived.Test.YtfhempgkdnecnaaClr
import Derived.Test.YtfhempgkdnecnaaPq
import Derived.Test.YtfhempgkdnecnaaFpa
namespace Go.Proofs.Ytfhempgkdnecnaa.L
open Go Go.Proofs
set_option maxRecDepth 100000
attribute [local irreducible] Code.wp wpList Af bodyPost L.Go
open Num
attribute [local simp] D_len

theorem mont_inner {T x M A VP V' Pk w c c' mk : Nat} (h1 : V' + A * Pk = VP + A * w) (h2 : w + 18446744073709551616 * c' = Pk + x * mk + c) (h3 : VP + A * c = T + x * (M % A)) :
    V' + A * 18446744073709551616 * c' = T + x * (M % A + A * mk) := by
  have h4 : A * (w + 18446744073709551616 * c') = A * (Pk + x * mk + c) := by rw [h2]
  rw [Nat.mul_add, Nat.mul_add, Nat.mul_add, Nat.mul_left_comm A x mk] at h4
  rw [Nat.mul_assoc, Nat.mul_add x]
  omega
theorem mont_top {P : List Nat} {c Z : Nat} (hl : P.length = 8) (hP : Lt 18446744073709551616 P) (hV : V P + W ^ 6 * c = Z) (hZ : Z < W ^ 8) :
    (P.set 6 ((P.getD 6 0 + c) % 18446744073709551616)).set 7 ((P.getD 7 0 + (P.getD 6 0 + c) / 18446744073709551616) % 18446744073709551616) = D 8 Z := by
  match P, hl with
  | [a0, a1, a2, a3, a4, a5, a6, a7], _ =>
    have h6 := hP.getD (by decide) 6
    have h7 := hP.getD (by decide) 7
    simp only [List.getD_cons_succ, List.getD_cons_zero, List.set_cons_succ, List.set_cons_zero] at h6 h7 ⊢
    have e : V [a0, a1, a2, a3, a4, a5, a6, a7] = V [a0, a1, a2, a3, a4, a5] + W ^ 6 * (a6 + W * a7) := by
      have := V_append [a0, a1, a2, a3, a4, a5] [a6, a7]
      simp only [List.cons_append, List.nil_append, List.length_cons, List.length_nil] at this
      rw [this, show V [a6, a7] = a6 + W * a7 by rw [V_def, val_cons, ← V_def, V_one]]
    have hlo : Lt 18446744073709551616 [a0, a1, a2, a3, a4, a5] := fun y hy => hP y (by simp at hy; rcases hy with h | h | h | h | h | h <;> simp [h])
    have hW : W = 18446744073709551616 := rfl
    have hs : a6 + c + W * a7 < W * W := by
      have h8 : W ^ 8 = W ^ 6 * (W * W) := by rw [show 8 = 6 + 2 from rfl, Nat.pow_add, Nat.pow_two]
      have h9 : W ^ 6 * (a6 + c + W * a7) < W ^ 6 * (W * W) := by
        rw [← h8]
        have : W ^ 6 * (a6 + c + W * a7) = W ^ 6 * (a6 + W * a7) + W ^ 6 * c := by rw [← Nat.mul_add]; congr 1; omega
        omega
      exact Nat.lt_of_mul_lt_mul_left h9
    have h7' : a7 + (a6 + c) / 18446744073709551616 < 18446744073709551616 := by
      rw [hW] at hs; omega
    rw [Nat.mod_eq_of_lt h7']
    refine D_of_V (fun y hy => ?_) rfl ?_
    · simp at hy
      rcases hy with rfl | rfl | rfl | rfl | rfl | rfl | rfl | rfl
      · exact hP _ (by simp)
      · exact hP _ (by simp)
      · exact hP _ (by simp)
      · exact hP _ (by simp)
      · exact hP _ (by simp)
      · exact hP _ (by simp)
      · exact Nat.mod_lt _ (by decide)
      · exact h7'
    · have e2 : V [a0, a1, a2, a3, a4, a5, (a6 + c) % 18446744073709551616, a7 + (a6 + c) / 18446744073709551616] = V [a0, a1, a2, a3, a4, a5] + W ^ 6 * ((a6 + c) % 18446744073709551616 + W * (a7 + (a6 + c) / 18446744073709551616)) := by
        have := V_append [a0, a1, a2, a3, a4, a5] [(a6 + c) % 18446744073709551616, a7 + (a6 + c) / 18446744073709551616]
        simp only [List.cons_append, List.nil_append, List.length_cons, List.length_nil] at this
        rw [this, show V [(a6 + c) % 18446744073709551616, a7 + (a6 + c) / 18446744073709551616] = (a6 + c) % 18446744073709551616 + W * (a7 + (a6 + c) / 18446744073709551616) by rw [V_def, val_cons, ← V_def, V_one]]
      rw [e2, ← hV, e, Nat.add_assoc, ← Nat.mul_add]
      congr 2
      rw [hW]; omega
theorem D8_shift (X : Nat) (h : X < W ^ 8) : (D 8 X).drop 1 ++ [0] = D 8 (X / W) := by
  refine D_of_V (fun y hy => ?_) (by simp) ?_
  · rcases List.mem_append.1 hy with hy | hy
    · exact D_lt _ _ y (List.mem_of_mem_drop hy)
    · simp at hy; subst hy; decide
  · rw [V_append, V_drop (D_lt _ _), V_one, Nat.mul_zero, Nat.add_zero, V_D' h, Nat.pow_one]

set_option maxHeartbeats 4000000 in
theorem step_spec (x T M sh bt bm : Nat) (hx : x < 18446744073709551616) (hM : M < W ^ 6) (hT : T + x * M < W ^ 8) (hs : sh ≤ 1) :
    Spec Try.prog 102 [N .u64 x, pt bm 0, N .i64 sh, pt bt 0] NoPre [.blk bt (LV .u64 (D 8 T)) 84, .blk bm (LV .u64 (D 6 M)) 24]
      (fun v Wr => v = .tuple #[] ∧ Wr = [.blk bt (LV .u64 (D 8 ((T + x * M) / W ^ sh))) 84, .blk bm (LV .u64 (D 6 M)) 24]) := by
  refine mk_spec Try.func102 rfl rfl rfl fun w _ => ?_
  have hlm := D_len 6 M
  have hTW : T < W ^ 8 := by omega
  repeat (first
    |refine Z01 ?_|refine Z02 ?_|refine Z03 ?_|refine Z04 ?_|refine Z05 ?_|refine Z06 ?_|refine Z07 ?_|refine Z08 ?_|refine Z09 ?_|refine Z10 ?_|refine Z11 ?_
    |refine Z12 ?_|refine Z13 ?_|refine Z14 ?_|refine Z15 ?_|refine Z16 ?_|refine Z17 ?_|refine Z18 ?_|refine Z19 ?_|refine Z22 ?_|refine Z23 ?_|refine Z24 ?_
    |refine Z25 ?_|refine Z26 ?_|refine Z27 ?_|refine Z28 ?_|refine Z29 ?_|refine Z30 ?_|refine Z31 ?_|refine Z32 ?_|refine Z33 ?_|refine Z46 ?_|refine Z47 ?_
    |refine Z62 ?_|refine Z63 ?_|refine Z64 ?_|refine Z67 ?_|refine Z70 ?_|refine Z71 ?_|refine Z75 ?_|refine Z76 ?_)
  refine st_loop (ι := Nat × List Nat × Nat) (fun q => q.1 ≤ 6 ∧ q.2.1.length = 8 ∧ Lt 18446744073709551616 q.2.1 ∧ q.2.2 < 18446744073709551616 ∧ V q.2.1 + W ^ q.1 * q.2.2 = T + x * (M % W ^ q.1))
    (fun q => [(0, N .u64 x), (2, N .i64 sh), (3, pt bt 0), (7, N .u64 q.2.2), (14, pt bm 0), (15, N .i64 q.1)])
    (fun q => [.blk bt (LV .u64 q.2.1) 84, .blk bm (LV .u64 (D 6 M)) 24]) (fun q => 6 - q.1) (0, D 8 T, 0) ⟨by simp, D_len _ _, D_lt _ _, by simp, by simp only [Nat.pow_zero, Nat.mod_one, Nat.mul_zero, Nat.add_zero]; exact V_D' hTW⟩ (by repeat (first | apply subL.nil | refine subL.cons (by rfl) ?_)) (by repeat (first | apply SubW.nil | refine SubW.cons (by repeat (first | apply Find.here | apply Find.there)) ?_)) ?_
  rintro ⟨k, P, c⟩ ⟨hk, hPl, hPb, hc, hP⟩
  simp only at hk hPl hPb hc hP ⊢
  by_cases hk' : k < 6
  · have hyk := (D_lt 6 M).getD (by decide) k
    have hyv := D_getD' hM k
    have hpb := hPb.getD (by decide) k
    obtain ⟨hw1, hw2⟩ := mul_word hpb hc (mul_bound hx hyk)
    repeat (first
      |(refine st_cmp (r := true) (by rfl) (by rfl) (cmpN_t (by first | (simp only [cmpP]; done) | (simp only [cmpP]; omega))) (by rfl) ?_)|refine Z01 ?_|refine Z02 ?_
      |refine Z03 ?_|refine Z04 ?_|refine Z05 ?_|refine Z06 ?_|refine Z07 ?_|refine Z08 ?_|refine Z09 ?_|refine Z10 ?_|refine Z11 ?_|refine Z12 ?_|refine Z13 ?_
      |refine Z14 ?_|refine Z15 ?_|refine Z16 ?_|refine Z17 ?_|refine Z18 ?_|refine Z19 ?_|refine Z22 ?_|refine Z23 ?_|refine Z24 ?_|refine Z25 ?_|refine Z26 ?_
      |refine Z27 ?_|refine Z28 ?_|refine Z29 ?_|refine Z30 ?_|refine Z31 ?_|refine Z32 ?_|refine Z33 ?_|refine Z46 ?_|refine Z47 ?_|refine Z62 ?_|refine Z63 ?_
      |refine Z64 ?_|refine Z67 ?_|refine Z70 ?_|refine Z71 ?_|refine Z75 ?_|refine Z76 ?_)
    refine st_draw1 (by rfl) ?_
    repeat (first
      |refine Zqf (by intro _ _ _;(first
        |refine Z01 ?_|refine Z02 ?_|refine Z15 ?_|refine Z16 ?_|refine Z17 ?_|refine Z18 ?_|refine Z19 ?_|refine Z22 ?_|refine Z23 ?_|refine Z33 ?_|refine Z46 ?_
        |refine Z47 ?_|refine Z62 ?_|refine Z63 ?_|refine Z64 ?_|refine Z70 ?_|refine Z71 ?_);exact Zq) ?_
      |refine Zqp (by intro _ _ _;(first
        |refine Z24 ?_|refine Z25 ?_|refine Z26 ?_|refine Z27 ?_|refine Z28 ?_|refine Z67 ?_|refine Z23 ?_|refine Z62 ?_);exact Zq) ?_
      |refine Zqe (by intro _ _ _;(first
        |refine Z29 ?_|refine Z30 ?_|refine Z31 ?_|refine Z32 ?_);exact Zqq) ?_
      |refine Zqd (by intro _ _ _;(first
        |refine Z75 ?_|refine Z76 ?_);exact Zq) ?_
      |refine Zqn ?_)
    refine Zq0 ?_ (by kernel_rfl)
    repeat (first
      |(refine st_callV (by rfl) (by rfl) (by rfl) (mul64_spec x ((D 6 M).getD k 0) hx hyk) (fun _ _ => trivial) (by rfl) ?_)
      |(refine st_callX (by rfl) (by rfl) (by rfl) (add64X0 _ _) (by rfl) ?_)|refine Z01 ?_|refine Z02 ?_|refine Z03 ?_|refine Z04 ?_|refine Z05 ?_|refine Z06 ?_
      |refine Z07 ?_|refine Z08 ?_|refine Z09 ?_|refine Z10 ?_|refine Z11 ?_|refine Z12 ?_|refine Z13 ?_|refine Z14 ?_|refine Z15 ?_|refine Z16 ?_|refine Z17 ?_
      |refine Z18 ?_|refine Z19 ?_|refine Z22 ?_|refine Z23 ?_|refine Z24 ?_|refine Z25 ?_|refine Z26 ?_|refine Z27 ?_|refine Z28 ?_|refine Z29 ?_|refine Z30 ?_
      |refine Z31 ?_|refine Z32 ?_|refine Z33 ?_|refine Z46 ?_|refine Z47 ?_|refine Z62 ?_|refine Z63 ?_|refine Z64 ?_|refine Z67 ?_|refine Z70 ?_|refine Z71 ?_
      |refine Z75 ?_|refine Z76 ?_)
    refine st_round (k + 1, P.set k _, _) ⟨by simp only; omega, by simp only [List.length_set]; exact hPl, hPb.set (Nat.mod_lt _ (by decide)) _, hw2, ?_⟩ (by simp only; omega) (by repeat (first | apply subL.nil | refine subL.cons (by rfl) ?_)) (by repeat (first | apply SubW.nil | refine SubW.cons (by repeat (first | apply Find.here | apply Find.there)) ?_))
    simp only
    have hvs := V_set hPb k ((P.getD k 0 + (x * (D 6 M).getD k 0 % 18446744073709551616 + c) % 18446744073709551616) % 18446744073709551616) (by omega)
    rw [W_mod_succ, ← hyv, Nat.pow_succ]
    exact mont_inner hvs hw1 hP
  · have hke : k = 6 := by omega
    subst hke
    rw [Nat.mod_eq_of_lt hM] at hP
    have htop := mont_top hPl hPb hP hT
    have hg7 : (P.set 6 ((P.getD 6 0 + c) % 18446744073709551616)).getD 7 0 = P.getD 7 0 := by
      rw [List.getD_eq_getElem?_getD, List.getElem?_set_ne (by decide), ← List.getD_eq_getElem?_getD]
    have hl8 := D_len 8 (T + x * M)
    repeat (first
      |(refine st_cmp (r := false) (by rfl) (by rfl) (cmpN_f (by first | (simp only [cmpQ]; done) | (simp only [cmpQ]; omega))) (by rfl) ?_)
      |(refine st_callX (by rfl) (by rfl) (by rfl) (add64X0 _ _) (by rfl) ?_)|(rw [hg7])|(rw [htop])|refine Z01 ?_|refine Z02 ?_|refine Z03 ?_|refine Z04 ?_|refine Z05 ?_
      |refine Z06 ?_|refine Z07 ?_|refine Z08 ?_|refine Z09 ?_|refine Z10 ?_|refine Z11 ?_|refine Z12 ?_|refine Z13 ?_|refine Z14 ?_|refine Z15 ?_|refine Z16 ?_
      |refine Z17 ?_|refine Z18 ?_|refine Z19 ?_|refine Z22 ?_|refine Z23 ?_|refine Z24 ?_|refine Z25 ?_|refine Z26 ?_|refine Z27 ?_|refine Z28 ?_|refine Z29 ?_
      |refine Z30 ?_|refine Z31 ?_|refine Z32 ?_|refine Z33 ?_|refine Z46 ?_|refine Z47 ?_|refine Z62 ?_|refine Z63 ?_|refine Z64 ?_|refine Z67 ?_|refine Z70 ?_
      |refine Z71 ?_|refine Z75 ?_|refine Z76 ?_)
    obtain ⟨Z, hZ⟩ : ∃ Z, Z = T + x * M := ⟨_, rfl⟩
    rw [← hZ] at hl8 hT ⊢
    have h01 : sh = 0 ∨ sh = 1 := by omega
    rcases h01 with rfl | rfl
    · have e1 : List.take 0 (D 8 Z) ++ List.take (8 - 0) (List.drop 0 (List.take 8 (D 8 Z))) ++ List.drop (0 + min (List.drop 0 (List.take 8 (D 8 Z))).length (8 - 0)) (D 8 Z) = D 8 Z := by
        simp [hl8, List.take_of_length_le]
      have e2 : List.take 8 (D 8 Z) ++ List.replicate (8 - 8) 0 ++ List.drop 8 (D 8 Z) = D 8 Z := by
        simp [hl8, List.take_of_length_le]
      refine st_draw1 (by rfl) ?_
      repeat (first
        |refine Zqf (by intro _ _ _;(first
          |refine Z01 ?_|refine Z02 ?_|refine Z15 ?_|refine Z16 ?_|refine Z17 ?_|refine Z18 ?_|refine Z19 ?_|refine Z22 ?_|refine Z23 ?_|refine Z33 ?_|refine Z46 ?_
          |refine Z47 ?_|refine Z62 ?_|refine Z63 ?_|refine Z64 ?_|refine Z70 ?_|refine Z71 ?_);exact Zq) ?_
        |refine Zqp (by intro _ _ _;(first
          |refine Z24 ?_|refine Z25 ?_|refine Z26 ?_|refine Z27 ?_|refine Z28 ?_|refine Z67 ?_|refine Z23 ?_|refine Z62 ?_);exact Zq) ?_
        |refine Zqe (by intro _ _ _;(first
          |refine Z29 ?_|refine Z30 ?_|refine Z31 ?_|refine Z32 ?_);exact Zqq) ?_
        |refine Zqd (by intro _ _ _;(first
          |refine Z75 ?_|refine Z76 ?_);exact Zq) ?_
        |refine Zqn ?_)
      refine Zq0 ?_ (by kernel_rfl)
      rw [e1]
      repeat (first
        |(refine st_clear (by rfl) (by repeat (first | apply Find.here | apply Find.there)) (by rfl) (by rfl) hl8 (by omega) (by omega) ?_)|(rw [e2])|refine Z01 ?_
        |refine Z02 ?_|refine Z03 ?_|refine Z04 ?_|refine Z05 ?_|refine Z06 ?_|refine Z07 ?_|refine Z08 ?_|refine Z09 ?_|refine Z10 ?_|refine Z11 ?_|refine Z12 ?_
        |refine Z13 ?_|refine Z14 ?_|refine Z15 ?_|refine Z16 ?_|refine Z17 ?_|refine Z18 ?_|refine Z19 ?_|refine Z22 ?_|refine Z23 ?_|refine Z24 ?_|refine Z25 ?_
        |refine Z26 ?_|refine Z27 ?_|refine Z28 ?_|refine Z29 ?_|refine Z30 ?_|refine Z31 ?_|refine Z32 ?_|refine Z33 ?_|refine Z46 ?_|refine Z47 ?_|refine Z62 ?_
        |refine Z63 ?_|refine Z64 ?_|refine Z67 ?_|refine Z70 ?_|refine Z71 ?_|refine Z75 ?_|refine Z76 ?_)
      refine st_end0 (by rfl) fun _ hw => post_of hw (Wout := [.blk bt (LV .u64 (D 8 Z)) 84, .blk bm (LV .u64 (D 6 M)) 24]) (by exact (by repeat (first | apply SubW.nil | refine SubW.cons (by repeat (first | apply Find.here | apply Find.there)) ?_))) ⟨rfl, by rw [Nat.pow_zero, Nat.div_one]⟩
    · have hsh := D8_shift Z hT
      have a1 : (D 8 Z).take 8 = D 8 Z := List.take_of_length_le (by omega)
      have a2 : ((D 8 Z).drop 1).length = 7 := by rw [List.length_drop, hl8]
      have e1 : List.take 0 (D 8 Z) ++ List.take (8 - 0) (List.drop 1 (List.take 8 (D 8 Z))) ++ List.drop (0 + min (List.drop 1 (List.take 8 (D 8 Z))).length (8 - 0)) (D 8 Z) = (D 8 Z).drop 1 ++ (D 8 Z).drop 7 := by
        rw [a1, List.take_of_length_le (l := (D 8 Z).drop 1) (by omega), a2]; rfl
      have hl9 : ((D 8 Z).drop 1 ++ (D 8 Z).drop 7).length = 8 := by rw [List.length_append, a2, List.length_drop, hl8]
      have e2 : List.take 7 ((D 8 Z).drop 1 ++ (D 8 Z).drop 7) ++ List.replicate (8 - 7) 0 ++ List.drop 8 ((D 8 Z).drop 1 ++ (D 8 Z).drop 7) = D 8 (Z / W) := by
        rw [List.take_left' a2, List.drop_eq_nil_of_le (Nat.le_of_eq hl9), List.append_nil, ← hsh]; rfl
      refine st_draw1 (by rfl) ?_
      repeat (first
        |refine Zqf (by intro _ _ _;(first
          |refine Z01 ?_|refine Z02 ?_|refine Z15 ?_|refine Z16 ?_|refine Z17 ?_|refine Z18 ?_|refine Z19 ?_|refine Z22 ?_|refine Z23 ?_|refine Z33 ?_|refine Z46 ?_
          |refine Z47 ?_|refine Z62 ?_|refine Z63 ?_|refine Z64 ?_|refine Z70 ?_|refine Z71 ?_);exact Zq) ?_
        |refine Zqp (by intro _ _ _;(first
          |refine Z24 ?_|refine Z25 ?_|refine Z26 ?_|refine Z27 ?_|refine Z28 ?_|refine Z67 ?_|refine Z23 ?_|refine Z62 ?_);exact Zq) ?_
        |refine Zqe (by intro _ _ _;(first
          |refine Z29 ?_|refine Z30 ?_|refine Z31 ?_|refine Z32 ?_);exact Zqq) ?_
        |refine Zqd (by intro _ _ _;(first
          |refine Z75 ?_|refine Z76 ?_);exact Zq) ?_
        |refine Zqn ?_)
      refine Zq0 ?_ (by kernel_rfl)
      rw [e1]
      repeat (first
        |(refine st_clear (by rfl) (by repeat (first | apply Find.here | apply Find.there)) (by rfl) (by rfl) hl9 (by omega) (by omega) ?_)|(rw [e2])|refine Z01 ?_
        |refine Z02 ?_|refine Z03 ?_|refine Z04 ?_|refine Z05 ?_|refine Z06 ?_|refine Z07 ?_|refine Z08 ?_|refine Z09 ?_|refine Z10 ?_|refine Z11 ?_|refine Z12 ?_
        |refine Z13 ?_|refine Z14 ?_|refine Z15 ?_|refine Z16 ?_|refine Z17 ?_|refine Z18 ?_|refine Z19 ?_|refine Z22 ?_|refine Z23 ?_|refine Z24 ?_|refine Z25 ?_
        |refine Z26 ?_|refine Z27 ?_|refine Z28 ?_|refine Z29 ?_|refine Z30 ?_|refine Z31 ?_|refine Z32 ?_|refine Z33 ?_|refine Z46 ?_|refine Z47 ?_|refine Z62 ?_
        |refine Z63 ?_|refine Z64 ?_|refine Z67 ?_|refine Z70 ?_|refine Z71 ?_|refine Z75 ?_|refine Z76 ?_)
      refine st_end0 (by rfl) fun _ hw => post_of hw (Wout := [.blk bt (LV .u64 (D 8 (Z / W))) 84, .blk bm (LV .u64 (D 6 M)) 24]) (by exact (by repeat (first | apply SubW.nil | refine SubW.cons (by repeat (first | apply Find.here | apply Find.there)) ?_))) ⟨rfl, by rw [Nat.pow_one]⟩

/-! ## A product's part W^6 -/
/-- W^6's inverse modulo p. -/
def Ri : Nat := 3231460744492646417066832100176244795738767926513225105051837195607029917124509527734802654356338138714468589979680
theorem Ri_1 : W ^ 6 * Ri % p = 1 := by decide +kernel
theorem minus_p : 9940570264628428797 * p % 18446744073709551616 = 18446744073709551615 := by decide +kernel
theorem sq_lit : ([17644856173732828998, 754043588434789617, 10224657059481499349, 7488229067341005760, 11130996698012816685, 1267921511277847466] : List Nat) = D 6 (W ^ 12 % p) := by decide +kernel
attribute [irreducible] Ri
def redv (a b : Nat) : Nat := a * b * Ri % p
theorem redv_lt (a b : Nat) : redv a b < p := Nat.mod_lt _ p_pos
theorem redv_of {T a b : Nat} (h : T * W ^ 6 % p = a * b % p) : T % p = redv a b := by
  unfold redv
  rw [Nat.mul_mod, ← h, ← Nat.mul_mod, Nat.mul_assoc, Nat.mul_mod, Ri_1, Nat.mul_one, Nat.mod_mod]
theorem all_bits (u : Nat) : (u + u * 18446744073709551615 % 18446744073709551616) % 18446744073709551616 = 0 := by
  have e3 : u + u * 18446744073709551615 = u * 18446744073709551616 := by omega
  have e4 := Nat.add_mod_mod u (u * 18446744073709551615) 18446744073709551616
  rw [e3] at e4
  exact e4.trans (Nat.mul_mod_left _ _)
/-- A round: the multiplier makes the lowest word 0. -/
theorem round_dvd (T : Nat) : (T + T % 18446744073709551616 * 9940570264628428797 % 18446744073709551616 * p) % 18446744073709551616 = 0 := by
  have h := minus_p
  have e : T % 18446744073709551616 * 9940570264628428797 % 18446744073709551616 * p % 18446744073709551616 = T % 18446744073709551616 * 18446744073709551615 % 18446744073709551616 := by
    rw [Nat.mod_mul_mod, Nat.mul_assoc, Nat.mul_mod, h, Nat.mod_mod]
  rw [Nat.add_mod, e]
  exact all_bits _
theorem round_ok {T x b a i : Nat} (hT : T < 2 * p) (hx : x < 18446744073709551616) (hb : b < p) (h : T * W ^ i % p = a % W ^ i * b % p) (hxa : x = a / W ^ i % W) (m : Nat) (hm : m = (T + x * b) % 18446744073709551616 * 9940570264628428797 % 18446744073709551616) :
    (T + x * b + m * p) / W < 2 * p ∧ (T + x * b + m * p) / W * W ^ (i + 1) % p = a % W ^ (i + 1) * b % p := by
  have hm1 : m < 18446744073709551616 := by rw [hm]; exact Nat.mod_lt _ (by decide)
  have hd : W ∣ T + x * b + m * p := by rw [hm]; exact Nat.dvd_of_mod_eq_zero (round_dvd _)
  have h1 : x * b ≤ 18446744073709551615 * p := Nat.mul_le_mul (by omega) (Nat.le_of_lt hb)
  have h2 : m * p ≤ 18446744073709551615 * p := Nat.mul_le_mul (by omega) (Nat.le_refl _)
  constructor
  · refine Nat.div_lt_of_lt_mul ?_
    rw [show W = 18446744073709551616 from rfl]
    omega
  · have e : (T + x * b + m * p) / W * W ^ (i + 1) = (T + x * b + m * p) * W ^ i := by
      rw [Nat.pow_succ, Nat.mul_comm (W ^ i) W, ← Nat.mul_assoc, Nat.div_mul_cancel hd]
    rw [e, Nat.add_mul, Nat.mul_right_comm m p, Nat.add_mul_mod_self_right, Nat.add_mul, Nat.add_mod, h, ← Nat.add_mod, W_mod_succ, ← hxa, Nat.add_mul]
    congr 2
    rw [Nat.mul_right_comm, Nat.mul_comm x]

theorem psq_spec : Spec Try.prog 64 [] NoPre [] (IsV (LV .u64 (D 6 (W ^ 12 % p)))) := by
  refine mk_spec Try.func64 rfl rfl rfl fun w _ => ?_
  repeat (first
    |(refine st_alloc (v := LV .u64 (List.replicate 6 0)) (by rfl) (by rfl) fun _ => ?_)
    |(refine st_buildP (kk := .u64) (vs := [17644856173732828998, 754043588434789617, 10224657059481499349, 7488229067341005760, 11130996698012816685, 1267921511277847466]) (by rfl) (by rfl) (by rfl) (by rfl) (by rfl) (by rfl) (by rfl) (by rfl) ?_)
    |refine Z03 ?_|refine Z04 ?_|refine Z05 ?_|refine Z06 ?_|refine Z07 ?_|refine Z08 ?_|refine Z09 ?_|refine Z10 ?_|refine Z11 ?_|refine Z12 ?_|refine Z13 ?_
    |refine Z14 ?_|refine Z29 ?_|refine Z30 ?_|refine Z31 ?_|refine Z32 ?_|refine Z65 ?_|refine Z82 fun _ => ?_)
  refine Zec fun _ hw => post_of hw SubW.nil ⟨?_, rfl⟩
  rw [← sq_lit]; rfl

set_option maxHeartbeats 4000000 in
theorem predd_spec {a b : Nat} (ha : a < W ^ 6) (hb : b < p) : Spec Try.prog 63 [LV .u64 (D 6 a), LV .u64 (D 6 b)] NoPre [] (IsV (LV .u64 (D 6 (redv a b)))) := by
  refine mk_spec Try.func63 rfl rfl rfl fun w _ => ?_
  have hla := D_len 6 a
  have hlb := D_len 6 b
  have hlp := D_len 6 p
  have hpl := p_lt
  have hp2 := p2_lt
  repeat (first
    |(refine st_alloc (v := LV .u64 (List.replicate 6 0)) (by rfl) (by rfl) fun _ => ?_)
    |(refine st_alloc (v := LV .u64 (List.replicate 8 0)) (by rfl) (by rfl) fun _ => ?_)
    |(refine st_callV (by rfl) (by rfl) (by rfl) (pP_spec) (fun _ _ => trivial) (by rfl) ?_)|refine Z01 ?_|refine Z02 ?_|refine Z03 ?_|refine Z04 ?_|refine Z05 ?_
    |refine Z06 ?_|refine Z07 ?_|refine Z08 ?_|refine Z09 ?_|refine Z10 ?_|refine Z11 ?_|refine Z12 ?_|refine Z13 ?_|refine Z14 ?_|refine Z15 ?_|refine Z17 ?_
    |refine Z18 ?_|refine Z22 ?_|refine Z23 ?_|refine Z24 ?_|refine Z25 ?_|refine Z26 ?_|refine Z27 ?_|refine Z28 ?_|refine Z29 ?_|refine Z30 ?_|refine Z31 ?_
    |refine Z32 ?_|refine Z35 ?_|refine Z48 ?_|refine Z57 ?_|refine Z62 ?_|refine Z63 ?_|refine Z64 ?_|refine Z66 ?_|refine Z67 ?_|refine Z70 ?_|refine Z81 fun _ => ?_
    |refine Z82 fun _ => ?_)
  rename_i b2 b3 b4 b5 b6
  rw [show List.replicate 8 0 = D 8 0 from (D_zero 8).symm]
  refine st_loop (ι := Nat × Nat) (fun q => q.1 ≤ 6 ∧ q.2 < 2 * p ∧ q.2 * W ^ q.1 % p = a % W ^ q.1 * b % p)
    (fun q => [(3, pt b3 0), (4, pt b4 0), (5, pt b5 0), (6, pt b6 0), (7, .func (.func 102) #[] #[pt b6 0]), (12, LV .u64 (D 6 a)), (13, N .i64 q.1)])
    (fun q => [.blk b6 (LV .u64 (D 8 q.2)) 84, .blk b5 (LV .u64 (D 6 p)) 24, .blk b3 (LV .u64 (D 6 b)) 24, .blk b4 (LV .u64 (List.replicate 6 0)) 24]) (fun q => 6 - q.1) (0, 0) ⟨by simp, by have := p_pos; simp only; omega, by simp [Nat.mod_one]⟩ (by repeat (first | apply subL.nil | refine subL.cons (by rfl) ?_)) (by repeat (first | apply SubW.nil | refine SubW.cons (by repeat (first | apply Find.here | apply Find.there)) ?_)) ?_
  rintro ⟨i, T⟩ ⟨hi, hT, hq⟩
  simp only at hi hT hq ⊢
  have hT8 : T < W ^ 8 := Nat.lt_trans (Nat.lt_of_lt_of_le hT (by omega)) (Nat.lt_of_lt_of_le hp2 (W_le (by decide)))
  by_cases h : i < 6
  · have hxi := (D_lt 6 a).getD (by decide) i
    have hxv := D_getD' ha i
    generalize hx : (D 6 a).getD i 0 = x at hxi hxv
    obtain ⟨r1, r2⟩ := round_ok hT hxi hb hq hxv _ rfl
    have hW8 : W ^ 8 = 18446744073709551616 * 18446744073709551616 * W ^ 6 := by decide
    have h1 : x * b ≤ 18446744073709551615 * p := Nat.mul_le_mul (by omega) (Nat.le_of_lt hb)
    have t1 : T + x * b < W ^ 8 := by omega
    have hm1 : (T + x * b) % 18446744073709551616 * 9940570264628428797 % 18446744073709551616 < 18446744073709551616 := Nat.mod_lt _ (by decide)
    generalize hm : (T + x * b) % 18446744073709551616 * 9940570264628428797 % 18446744073709551616 = m at r1 r2 hm1
    have h2 : m * p ≤ 18446744073709551615 * p := Nat.mul_le_mul (by omega) (Nat.le_refl _)
    have t2 : T + x * b + m * p < W ^ 8 := by omega
    have hg : (D 8 (T + x * b)).getD 0 0 = (T + x * b) % 18446744073709551616 := by rw [D_getD' t1, Nat.pow_zero, Nat.div_one]; rfl
    have hl8 := D_len 8 (T + x * b)
    repeat (first
      |(refine st_cmp (r := true) (by rfl) (by rfl) (cmpN_t (by first | (simp only [cmpP]; done) | (simp only [cmpP]; omega))) (by rfl) ?_)|(rw [hx])
      |((refine st_call (by rfl) (by rfl) (by rfl) (step_spec x T b 0 b6 b3 hxi (Nat.lt_trans hb hpl) t1 (by decide)) (.cons (by repeat (first | apply Find.here | apply Find.there)) (.cons (by repeat (first | apply Find.here | apply Find.there)) .nil)) (fun _ _ => trivial) (by rfl) ?_; rintro _ _ ⟨rfl, rfl⟩; rw [Nat.pow_zero, Nat.div_one]))
      |(rw [hg])|(rw [hm])
      |((refine st_call (by rfl) (by rfl) (by rfl) (step_spec m (T + x * b) p 1 b6 b5 hm1 hpl t2 (by decide)) (.cons (by repeat (first | apply Find.here | apply Find.there)) (.cons (by repeat (first | apply Find.here | apply Find.there)) .nil)) (fun _ _ => trivial) (by rfl) ?_; rintro _ _ ⟨rfl, rfl⟩; rw [Nat.pow_one]))
      |refine Z01 ?_|refine Z02 ?_|refine Z03 ?_|refine Z04 ?_|refine Z05 ?_|refine Z06 ?_|refine Z07 ?_|refine Z08 ?_|refine Z09 ?_|refine Z10 ?_|refine Z11 ?_
      |refine Z12 ?_|refine Z13 ?_|refine Z14 ?_|refine Z15 ?_|refine Z17 ?_|refine Z18 ?_|refine Z22 ?_|refine Z23 ?_|refine Z24 ?_|refine Z25 ?_|refine Z26 ?_
      |refine Z27 ?_|refine Z28 ?_|refine Z29 ?_|refine Z30 ?_|refine Z31 ?_|refine Z32 ?_|refine Z35 ?_|refine Z48 ?_|refine Z57 ?_|refine Z62 ?_|refine Z63 ?_
      |refine Z64 ?_|refine Z66 ?_|refine Z67 ?_|refine Z70 ?_|refine Z81 fun _ => ?_|refine Z82 fun _ => ?_)
    exact st_round (i + 1, (T + x * b + m * p) / W) ⟨by simp only; omega, r1, r2⟩ (by simp only; omega) (by repeat (first | apply subL.nil | refine subL.cons (by rfl) ?_)) (by repeat (first | apply SubW.nil | refine SubW.cons (by repeat (first | apply Find.here | apply Find.there)) ?_))
  · have hie : i = 6 := by omega
    subst hie
    rw [Nat.mod_eq_of_lt ha] at hq
    have hv := redv_of hq
    have hT6 : T < W ^ 6 := by omega
    have hl8 := D_len 8 T
    have hg6 : (D 8 T).getD 6 0 = 0 := by rw [D_getD' hT8, Nat.div_eq_of_lt hT6, Nat.zero_mod]
    have htk : List.take 6 (List.drop 0 (List.take 6 (D 8 T))) = D 6 T := by
      rw [List.drop_zero, List.take_take, Nat.min_self, show (8 : Nat) = 6 + 2 from rfl, D_add, List.take_left' (D_len 6 T)]
    have hlv : lessv 6 p T 0 = redv a b := by
      rw [← hv]; unfold lessv
      rw [Nat.zero_mul, Nat.add_zero]
      by_cases hlt : T < p
      · rw [if_pos hlt, Nat.mod_eq_of_lt hlt]
      · rw [if_neg hlt, Nat.mod_eq_sub_mod (by omega), Nat.mod_eq_of_lt (by omega)]
    have hlr := D_len 6 (redv a b)
    repeat (first
      |(refine st_cmp (r := false) (by rfl) (by rfl) (cmpN_f (by first | (simp only [cmpQ]; done) | (simp only [cmpQ]; omega))) (by rfl) ?_)|refine Z01 ?_|refine Z02 ?_
      |refine Z03 ?_|refine Z04 ?_|refine Z05 ?_|refine Z06 ?_|refine Z07 ?_|refine Z08 ?_|refine Z09 ?_|refine Z10 ?_|refine Z11 ?_|refine Z12 ?_|refine Z13 ?_
      |refine Z14 ?_|refine Z15 ?_|refine Z17 ?_|refine Z18 ?_|refine Z22 ?_|refine Z23 ?_|refine Z24 ?_|refine Z25 ?_|refine Z26 ?_|refine Z27 ?_|refine Z28 ?_
      |refine Z29 ?_|refine Z30 ?_|refine Z31 ?_|refine Z32 ?_|refine Z35 ?_|refine Z48 ?_|refine Z57 ?_|refine Z62 ?_|refine Z63 ?_|refine Z64 ?_|refine Z66 ?_
      |refine Z67 ?_|refine Z70 ?_|refine Z81 fun _ => ?_|refine Z82 fun _ => ?_)
    refine st_draw1 (by rfl) ?_
    repeat (first
      |refine Zqf (by intro _ _ _;(first
        |refine Z01 ?_|refine Z02 ?_|refine Z15 ?_|refine Z17 ?_|refine Z18 ?_|refine Z22 ?_|refine Z23 ?_|refine Z35 ?_|refine Z48 ?_|refine Z57 ?_|refine Z62 ?_
        |refine Z63 ?_|refine Z64 ?_|refine Z66 ?_|refine Z70 ?_);exact Zq) ?_
      |refine Zqp (by intro _ _ _;(refine st_load_sptrN (ys := List.drop 0 (List.take 6 (D 8 T))) (by rfl) (by rfl) (by rfl) (RdW.arrN (by repeat (first | apply Find.here | apply Find.there)) (by omega) (by omega) hl8) (by rw [List.drop_zero, List.length_take]; omega) (by decide) (by rfl) ?_; rw [htk]);exact Zq) ?_
      |refine Zqp (by intro _ _ _;(refine st_load_N (by rfl) (by repeat (first | apply Find.here | apply Find.there)) (by omega) (by rfl) (by rfl) ?_; rw [hg6]);exact Zq) ?_
      |refine Zqp (by intro _ _ _;(refine st_callV (by rfl) (by rfl) (by rfl) (pless_spec hT6 (Nat.zero_le 1)) (fun _ _ => trivial) (by rfl) ?_; rw [hlv]);exact Zq) ?_
      |refine Zqp (by intro _ _ _;(first
        |refine Z24 ?_|refine Z25 ?_|refine Z26 ?_|refine Z27 ?_|refine Z28 ?_|refine Z67 ?_|refine Z23 ?_|refine Z62 ?_|refine Z66 ?_);exact Zq) ?_
      |refine Zqe (by intro _ _ _;(first
        |refine Z29 ?_|refine Z30 ?_|refine Z31 ?_|refine Z32 ?_);exact Zqq) ?_
      |refine Zqn ?_)
    refine Zq0 ?_ (by kernel_rfl)
    repeat (first
      |refine Z01 ?_|refine Z02 ?_|refine Z03 ?_|refine Z04 ?_|refine Z05 ?_|refine Z06 ?_|refine Z07 ?_|refine Z08 ?_|refine Z09 ?_|refine Z10 ?_|refine Z11 ?_
      |refine Z12 ?_|refine Z13 ?_|refine Z14 ?_|refine Z15 ?_|refine Z17 ?_|refine Z18 ?_|refine Z22 ?_|refine Z23 ?_|refine Z24 ?_|refine Z25 ?_|refine Z26 ?_
      |refine Z27 ?_|refine Z28 ?_|refine Z29 ?_|refine Z30 ?_|refine Z31 ?_|refine Z32 ?_|refine Z35 ?_|refine Z48 ?_|refine Z57 ?_|refine Z62 ?_|refine Z63 ?_
      |refine Z64 ?_|refine Z66 ?_|refine Z67 ?_|refine Z70 ?_|refine Z81 fun _ => ?_|refine Z82 fun _ => ?_)
    refine Zec fun _ hw => post_of hw SubW.nil ⟨?_, rfl⟩
    rfl
end Go.Proofs.Ytfhempgkdnecnaa.L
