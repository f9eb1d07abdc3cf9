/- Numbers of many words: the walks of products, of divisions of two words by one, and of what is left. Conditions: as each statement says. -/
import Derived.Test.YtbjfjkmidhfgcaaAuto
import Derived.Test.YtbjfjkmidhfgcaaPerm
import Derived.Test.YtbjfjkmidhfgcaaMore
import Derived.Test.YtbjfjkmidhfgcaaProg
import Derived.Test.YtbjfjkmidhfgcaaNum
import Derived.Test.YtbjfjkmidhfgcaaLmb
import Derived.Test.YtbjfjkmidhfgcaaLmd
import Derived.Test.YtbjfjkmidhfgcaaScope
import Derived.Test.YtbjfjkmidhfgcaaLma
import Derived.Test.YtbjfjkmidhfgcaaLmz
namespace Go.Proofs.Ytbjfjkmidhfgcaa.L
open Go Go.Proofs
set_option maxRecDepth 100000
attribute [local irreducible] Code.wp wpList Af bodyPost L.Go
open Num

set_option maxHeartbeats 1000000 in
theorem lmul_spec (s t : Value) (xs ys : List Nat) (hx : Lt 18446744073709551616 xs) (hy : Lt 18446744073709551616 ys) (hl1 : xs.length < 16777216) (hl2 : ys.length < 16777216) :
    Spec Try.prog 33 [s, t] (fun w => Rd w s (xs.map (N .u64)) ∧ Rd w t (ys.map (N .u64))) []
      (fun v Wr => Wr = [.sl v ((D (xs.length + ys.length) (V xs * V ys)).map (N .u64)) 30]) := by
  refine mk_spec Try.func33 rfl rfl rfl fun w hr => ?_
  have hr1 := RdC.mk0 hr.1
  have hr2 := RdC.mk0 hr.2
  repeat (first
    |refine Z01 ?_|refine Z02 ?_|refine Z03 ?_|refine Z04 ?_|refine Z05 ?_|refine Z06 ?_|refine Z07 ?_|refine Z08 ?_|refine Z09 ?_|refine Z10 ?_|refine Z11 ?_
    |refine Z12 ?_|refine Z13 ?_|refine Z14 ?_|refine Z15 ?_|refine Z17 ?_|refine Z18 ?_|refine Z19 ?_|refine Z20 ?_|refine Z21 ?_|refine Z22 ?_|refine Z23 ?_
    |refine Z24 ?_|refine Z25 ?_|refine Z26 ?_|refine Z27 ?_|refine Z28 ?_|refine Z29 ?_|refine Z30 ?_|refine Z31 ?_|refine Z32 ?_|refine Z33 ?_|refine Z58 ?_
    |refine Z59 ?_|refine Z67 ?_|refine Z70 ?_|refine Z83 fun _ => ?_)
  rename_i u
  refine st_loop (ι := Nat) (fun i => i ≤ xs.length) (fun i => [(0, s), (1, t), (5, u), (20, s), (21, N .i64 xs.length), (22, N .i64 i)])
    (fun i => [.sl u ((D (i + ys.length) (V xs % Num.W ^ i * V ys) ++ List.replicate (xs.length - i) 0).map (N .u64)) 30]) (fun i => xs.length - i) 0 (by omega) (by repeat (first | apply subL.nil | refine subL.cons (by rfl) ?_)) ?_ ?_
  · rw [Nat.pow_zero, Nat.mod_one, Nat.zero_mul, D_zero, List.replicate_append_replicate, show 0 + ys.length + (xs.length - 0) = xs.length + ys.length by omega]
    exact (by repeat (first | apply SubW.nil | refine SubW.cons (by repeat (first | apply Find.here | apply Find.there)) ?_))
  intro i hi
  have hDl := D_len (i + ys.length) (V xs % Num.W ^ i * V ys)
  have hDb := D_lt (i + ys.length) (V xs % Num.W ^ i * V ys)
  have hAB : V xs % Num.W ^ i * V ys < Num.W ^ (i + ys.length) := by
    rw [Nat.pow_add]; exact Nat.mul_lt_mul_of_lt_of_le (Nat.mod_lt _ (W_pow_pos i)) (Nat.le_of_lt (V_lt hy)) (W_pow_pos _)
  have hVP := V_D' hAB
  repeat (first
    |refine Z01 ?_|refine Z02 ?_|refine Z03 ?_|refine Z04 ?_|refine Z05 ?_|refine Z06 ?_|refine Z07 ?_|refine Z08 ?_|refine Z09 ?_|refine Z10 ?_|refine Z11 ?_
    |refine Z12 ?_|refine Z13 ?_|refine Z14 ?_|refine Z15 ?_|refine Z17 ?_|refine Z18 ?_|refine Z19 ?_|refine Z20 ?_|refine Z21 ?_|refine Z22 ?_|refine Z23 ?_
    |refine Z24 ?_|refine Z25 ?_|refine Z26 ?_|refine Z27 ?_|refine Z28 ?_|refine Z29 ?_|refine Z30 ?_|refine Z31 ?_|refine Z32 ?_|refine Z33 ?_|refine Z58 ?_
    |refine Z59 ?_|refine Z67 ?_|refine Z70 ?_|refine Z83 fun _ => ?_)
  refine st_cond (by rfl) (fun h => ?_) (fun h => ?_)
  · have hxi := hx.getD (by decide) i
    have hxv := V_getD hx i
    repeat (first
      |refine Z01 ?_|refine Z02 ?_|refine Z03 ?_|refine Z04 ?_|refine Z05 ?_|refine Z06 ?_|refine Z07 ?_|refine Z08 ?_|refine Z09 ?_|refine Z10 ?_|refine Z11 ?_
      |refine Z12 ?_|refine Z13 ?_|refine Z14 ?_|refine Z15 ?_|refine Z17 ?_|refine Z18 ?_|refine Z19 ?_|refine Z20 ?_|refine Z21 ?_|refine Z22 ?_|refine Z23 ?_
      |refine Z24 ?_|refine Z25 ?_|refine Z26 ?_|refine Z27 ?_|refine Z28 ?_|refine Z29 ?_|refine Z30 ?_|refine Z31 ?_|refine Z32 ?_|refine Z33 ?_|refine Z58 ?_
      |refine Z59 ?_|refine Z67 ?_|refine Z70 ?_|refine Z83 fun _ => ?_)
    refine st_loop (ι := Nat × List Nat × Nat) (fun q => q.1 ≤ ys.length ∧ q.2.1.length = i + ys.length ∧ Lt 18446744073709551616 q.2.1 ∧ q.2.2 < 18446744073709551616 ∧ V q.2.1 + Num.W ^ i * Num.W ^ q.1 * q.2.2 = V xs % Num.W ^ i * V ys + xs.getD i 0 * Num.W ^ i * (V ys % Num.W ^ q.1))
      (fun q => [(0, s), (1, t), (5, u), (6, N .i64 i), (7, N .u64 (xs.getD i 0)), (8, N .u64 q.2.2), (20, s), (21, N .i64 xs.length), (22, N .i64 i), (27, t), (28, N .i64 ys.length), (29, N .i64 q.1)])
      (fun q => [.sl u ((q.2.1 ++ List.replicate (xs.length - i) 0).map (N .u64)) 30]) (fun q => ys.length - q.1) (0, D (i + ys.length) (V xs % Num.W ^ i * V ys), 0) ⟨by omega, hDl, hDb, by simp only; decide, by simp only [Nat.pow_zero, Nat.mod_one, Nat.mul_zero, Nat.add_zero]; exact hVP⟩ (by repeat (first | apply subL.nil | refine subL.cons (by rfl) ?_)) (by repeat (first | apply SubW.nil | refine SubW.cons (by repeat (first | apply Find.here | apply Find.there)) ?_)) ?_
    rintro ⟨k, P, c⟩ ⟨hk, hPl, hPb, hc, hP⟩
    simp only at hk hPl hPb hc hP ⊢
    repeat (first
      |refine Z01 ?_|refine Z02 ?_|refine Z03 ?_|refine Z04 ?_|refine Z05 ?_|refine Z06 ?_|refine Z07 ?_|refine Z08 ?_|refine Z09 ?_|refine Z10 ?_|refine Z11 ?_
      |refine Z12 ?_|refine Z13 ?_|refine Z14 ?_|refine Z15 ?_|refine Z17 ?_|refine Z18 ?_|refine Z19 ?_|refine Z20 ?_|refine Z21 ?_|refine Z22 ?_|refine Z23 ?_
      |refine Z24 ?_|refine Z25 ?_|refine Z26 ?_|refine Z27 ?_|refine Z28 ?_|refine Z29 ?_|refine Z30 ?_|refine Z31 ?_|refine Z32 ?_|refine Z33 ?_|refine Z58 ?_
      |refine Z59 ?_|refine Z67 ?_|refine Z70 ?_|refine Z83 fun _ => ?_)
    refine st_cond (by rfl) (fun hk' => ?_) (fun hk' => ?_)
    · have hyk := hy.getD (by decide) k
      have hyv := V_getD hy k
      have hpb := hPb.getD (by decide) (i + k)
      have hgl := getD_low (P := P) (Q := List.replicate (xs.length - i) 0) (i := i + k) (by omega)
      have hsl := fun c => set_low (P := P) (i := i + k) (m := xs.length - i) (by omega) c
      have hlen : (P ++ List.replicate (xs.length - i) 0).length = xs.length + ys.length := by simp; omega
      obtain ⟨hw1, hw2⟩ := mul_word hpb hc (mul_bound hxi hyk)
      repeat (first
        |(refine st_callV (by rfl) (by rfl) (by rfl) (mul64_spec (xs.getD i 0) (ys.getD k 0) hxi hyk) (fun _ _ => trivial) (by rfl) ?_)
        |(refine st_callX (by rfl) (by rfl) (by rfl) (add64X0 _ _) (by rfl) ?_)|(rw [hgl])|refine Z01 ?_|refine Z02 ?_|refine Z03 ?_|refine Z04 ?_|refine Z05 ?_
        |refine Z06 ?_|refine Z07 ?_|refine Z08 ?_|refine Z09 ?_|refine Z10 ?_|refine Z11 ?_|refine Z12 ?_|refine Z13 ?_|refine Z14 ?_|refine Z15 ?_|refine Z17 ?_
        |refine Z18 ?_|refine Z19 ?_|refine Z20 ?_|refine Z21 ?_|refine Z22 ?_|refine Z23 ?_|refine Z24 ?_|refine Z25 ?_|refine Z26 ?_|refine Z27 ?_|refine Z28 ?_
        |refine Z29 ?_|refine Z30 ?_|refine Z31 ?_|refine Z32 ?_|refine Z33 ?_|refine Z58 ?_|refine Z59 ?_|refine Z67 ?_|refine Z70 ?_|refine Z83 fun _ => ?_)
      rw [hsl]
      refine st_round (k + 1, P.set (i + k) _, _) ⟨by simp only; omega, by simp only [List.length_set]; exact hPl, hPb.set (Nat.mod_lt _ (by decide)) _, hw2, ?_⟩ (by simp only; omega) (by repeat (first | apply subL.nil | refine subL.cons (by rfl) ?_)) (by repeat (first | apply SubW.nil | refine SubW.cons (by repeat (first | apply Find.here | apply Find.there)) ?_))
      simp only
      have hvs := V_set hPb (i + k) ((P.getD (i + k) 0 + (xs.getD i 0 * ys.getD k 0 % 18446744073709551616 + c) % 18446744073709551616) % 18446744073709551616) (by omega)
      rw [Nat.pow_add] at hvs
      rw [W_mod_succ, ← hyv, Nat.pow_succ]
      exact mul_inner hvs hw1 hP
    · have hke : k = ys.length := by omega
      subst hke
      have hgl2 : i + ys.length < (P ++ List.replicate (xs.length - i) 0).length := by simp; omega
      repeat (first
        |refine Z01 ?_|refine Z02 ?_|refine Z03 ?_|refine Z04 ?_|refine Z05 ?_|refine Z06 ?_|refine Z07 ?_|refine Z08 ?_|refine Z09 ?_|refine Z10 ?_|refine Z11 ?_
        |refine Z12 ?_|refine Z13 ?_|refine Z14 ?_|refine Z15 ?_|refine Z17 ?_|refine Z18 ?_|refine Z19 ?_|refine Z20 ?_|refine Z21 ?_|refine Z22 ?_|refine Z23 ?_
        |refine Z24 ?_|refine Z25 ?_|refine Z26 ?_|refine Z27 ?_|refine Z28 ?_|refine Z29 ?_|refine Z30 ?_|refine Z31 ?_|refine Z32 ?_|refine Z33 ?_|refine Z58 ?_
        |refine Z59 ?_|refine Z67 ?_|refine Z70 ?_|refine Z83 fun _ => ?_)
      rw [set_mid hPl (by omega)]
      refine st_round (i + 1) (by omega) (by omega) (by repeat (first | apply subL.nil | refine subL.cons (by rfl) ?_)) ?_
      have e : P ++ [c] = D (i + 1 + ys.length) (V xs % Num.W ^ (i + 1) * V ys) := by
        refine D_of_V (hPb.append (Num.Lt.cons hc (Num.Lt.nil _))) (by simp; omega) ?_
        rw [V_snoc hPl, Nat.pow_add, hP, Nat.mod_eq_of_lt (V_lt hy), hxv, mul_outer]
      rw [← e, show xs.length - (i + 1) = xs.length - i - 1 by omega]
      exact (by repeat (first | apply SubW.nil | refine SubW.cons (by repeat (first | apply Find.here | apply Find.there)) ?_))
  · have hie : i = xs.length := by omega
    subst hie
    rw [Nat.mod_eq_of_lt (V_lt hx), Nat.sub_self, List.replicate_zero, List.append_nil]
    repeat (first
      |refine Z01 ?_|refine Z02 ?_|refine Z03 ?_|refine Z04 ?_|refine Z05 ?_|refine Z06 ?_|refine Z07 ?_|refine Z08 ?_|refine Z09 ?_|refine Z10 ?_|refine Z11 ?_
      |refine Z12 ?_|refine Z13 ?_|refine Z14 ?_|refine Z15 ?_|refine Z17 ?_|refine Z18 ?_|refine Z19 ?_|refine Z20 ?_|refine Z21 ?_|refine Z22 ?_|refine Z23 ?_
      |refine Z24 ?_|refine Z25 ?_|refine Z26 ?_|refine Z27 ?_|refine Z28 ?_|refine Z29 ?_|refine Z30 ?_|refine Z31 ?_|refine Z32 ?_|refine Z33 ?_|refine Z58 ?_
      |refine Z59 ?_|refine Z67 ?_|refine Z70 ?_|refine Z83 fun _ => ?_)
    exact Ze1 fun _ hw => post_of hw (Wout := [.sl u ((D (xs.length + ys.length) (V xs * V ys)).map (N .u64)) 30]) (by exact (by repeat (first | apply SubW.nil | refine SubW.cons (by repeat (first | apply Find.here | apply Find.there)) ?_))) rfl
end Go.Proofs.Ytbjfjkmidhfgcaa.L
