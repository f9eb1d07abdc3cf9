/- The walk of the document's product. Conditions: as each statement says. -/
import Derived.Test.YtbjfjkmidhfgcaaAuto
import Derived.Test.YtbjfjkmidhfgcaaPerm
import Derived.Test.YtbjfjkmidhfgcaaMore
import Derived.Test.YtbjfjkmidhfgcaaProg
import Derived.Test.YtbjfjkmidhfgcaaNum
import Derived.Test.YtbjfjkmidhfgcaaLmb
import Derived.Test.YtbjfjkmidhfgcaaLmd
import Derived.Test.YtbjfjkmidhfgcaaLmo
import Derived.Test.YtbjfjkmidhfgcaaLmk
import Derived.Test.YtbjfjkmidhfgcaaScope
import Derived.Test.YtbjfjkmidhfgcaaJoin
import Derived.Test.YtbjfjkmidhfgcaaLma
import Derived.Test.YtbjfjkmidhfgcaaLmz
import Derived.Test.YtbjfjkmidhfgcaaLmv
import Derived.Test.YtbjfjkmidhfgcaaLmw
namespace Go.Proofs.Ytbjfjkmidhfgcaa.L
open Go Go.Proofs
set_option maxRecDepth 100000
attribute [local irreducible] Code.wp wpList Af bodyPost L.Go
open Num
attribute [local simp] D_len octs_len

theorem mul_part {A B a b : Nat} (hA : A < W ^ a) (hB : B < W ^ b) (i : Nat) : A * (B / 2 ^ i) < W ^ (a + b) := by
  rw [Nat.pow_add]
  exact Nat.mul_lt_mul'' hA (Nat.lt_of_le_of_lt (Nat.div_le_self _ _) hB)
theorem dbl_part (A B i : Nat) : A * (B / 2 ^ i) = A * (B / 2 ^ (i + 1)) + A * (B / 2 ^ (i + 1)) + (if B / 2 ^ i % 2 = 1 then A else 0) := by
  conv => lhs; rw [bit_step B i]
  generalize B / 2 ^ (i + 1) = z
  have : B / 2 ^ i % 2 = 0 ∨ B / 2 ^ i % 2 = 1 := by omega
  rcases this with h | h <;> rw [h]
  · simp; rw [Nat.two_mul, Nat.mul_add A]
  · simp; rw [Nat.two_mul, Nat.mul_add A, Nat.mul_add A]; omega

theorem bit_and {ys : List Nat} (hy : Lt 18446744073709551616 ys) (i : Nat) : (ys.getD (i / 64) 0 >>> (i % 64 % 18446744073709551616) % 18446744073709551616 &&& 1 % 18446744073709551616) = V ys / 2 ^ i % 2 := by
  rw [show i % 64 % 18446744073709551616 = i % 64 from Nat.mod_eq_of_lt (by omega), show 1 % 18446744073709551616 = 1 from rfl, Nat.and_one_is_mod, Nat.mod_mod_of_dvd _ (by decide), V_getD hy]
  exact word_bit _ _

set_option maxHeartbeats 2000000 in
theorem mul3_spec (s t : Value) (xs ys : List Nat) (hx : Lt 18446744073709551616 xs) (hy : Lt 18446744073709551616 ys) (hl1 : xs.length < 65536) (hl2 : ys.length < 65536) :
    Spec Try.prog 34 [s, t] (fun w => Rd w s (xs.map (N .u64)) ∧ Rd w t (ys.map (N .u64))) []
      (fun v Wr => Wr = [.sl v ((D (xs.length + ys.length) (V xs * V ys)).map (N .u64)) 30]) := by
  refine mk_spec Try.func34 rfl rfl rfl fun w hr => ?_
  have hr1 := RdC.mk0 hr.1
  have hr2 := RdC.mk0 hr.2
  obtain ⟨n, hn⟩ : ∃ n, n = xs.length + ys.length := ⟨_, rfl⟩
  have hA := V_lt hx
  have hB := V_lt hy
  have hz : V ys / 2 ^ (64 * ys.length) = 0 := Nat.div_eq_of_lt (by rw [Nat.pow_mul, ← W_2]; exact hB)
  repeat (first
    |(rw [← hn])|refine Z01 ?_|refine Z02 ?_|refine Z03 ?_|refine Z04 ?_|refine Z05 ?_|refine Z06 ?_|refine Z07 ?_|refine Z08 ?_|refine Z09 ?_|refine Z10 ?_|refine Z11 ?_
    |refine Z12 ?_|refine Z13 ?_|refine Z14 ?_|refine Z15 ?_|refine Z16 ?_|refine Z17 ?_|refine Z18 ?_|refine Z19 ?_|refine Z20 ?_|refine Z21 ?_|refine Z22 ?_
    |refine Z23 ?_|refine Z24 ?_|refine Z25 ?_|refine Z26 ?_|refine Z27 ?_|refine Z28 ?_|refine Z36 ?_|refine Z37 ?_|refine Z38 ?_|refine Z40 ?_|refine Z42 ?_
    |refine Z44 ?_|refine Z45 ?_|refine Z58 ?_|refine Z59 ?_|refine Z67 ?_|refine Z70 ?_|refine Z71 ?_|refine Z74 ?_|refine Z80 ?_|refine Z83 fun _ => ?_)
  rename_i u0
  refine st_loop (ι := Nat × Value) (fun p => p.1 ≤ 64 * ys.length) (fun p => [(0, s), (1, t), (5, p.2), (6, .int .i64 ((p.1 : Int) - 1))])
    (fun p => [.sl p.2 ((D n (V xs * (V ys / 2 ^ p.1))).map (N .u64)) 30]) (fun p => p.1) (64 * ys.length, u0) (Nat.le_refl _) (by repeat (first | apply subL.nil | refine subL.cons (by rfl) ?_)) (by rw [hz, Nat.mul_zero, D_zero]; exact (by repeat (first | apply SubW.nil | refine SubW.cons (by repeat (first | apply Find.here | apply Find.there)) ?_))) ?_
  rintro ⟨j, u⟩ hj
  dsimp only at hj ⊢
  repeat (first
    |refine Z01 ?_|refine Z02 ?_|refine Z03 ?_|refine Z04 ?_|refine Z05 ?_|refine Z06 ?_|refine Z07 ?_|refine Z08 ?_|refine Z09 ?_|refine Z10 ?_|refine Z11 ?_
    |refine Z12 ?_|refine Z13 ?_|refine Z14 ?_|refine Z15 ?_|refine Z16 ?_|refine Z17 ?_|refine Z18 ?_|refine Z19 ?_|refine Z20 ?_|refine Z21 ?_|refine Z22 ?_
    |refine Z23 ?_|refine Z24 ?_|refine Z25 ?_|refine Z26 ?_|refine Z27 ?_|refine Z28 ?_|refine Z36 ?_|refine Z37 ?_|refine Z38 ?_|refine Z40 ?_|refine Z42 ?_
    |refine Z44 ?_|refine Z45 ?_|refine Z58 ?_|refine Z59 ?_|refine Z67 ?_|refine Z70 ?_|refine Z71 ?_|refine Z74 ?_|refine Z80 ?_|refine Z83 fun _ => ?_)
  refine st_cond (by rfl) (fun h => ?_) (fun h => ?_)
  · have h0 : (0 : Int) ≤ (j : Int) - 1 := h
    obtain ⟨i, rfl⟩ : ∃ i, j = i + 1 := ⟨j - 1, by omega⟩
    rw [show ((i + 1 : Nat) : Int) - 1 = Int.ofNat i by simp]
    have f1 := mul_part hA hB (i + 1)
    have f0 := mul_part hA hB i
    have fd := dbl_part (V xs) (V ys) i
    rw [← hn] at f0 f1
    have hDl := D_len n (V xs * (V ys / 2 ^ (i + 1)))
    have hDl2 : (D n (V xs * (V ys / 2 ^ (i + 1)))).length < 16777216 := by omega
    have ht : D (D n (V xs * (V ys / 2 ^ (i + 1)))).length (V (D n (V xs * (V ys / 2 ^ (i + 1)))) + V (D n (V xs * (V ys / 2 ^ (i + 1))))) = D n (V xs * (V ys / 2 ^ (i + 1)) + V xs * (V ys / 2 ^ (i + 1))) := by rw [D_len, V_D' f1]
    repeat (first
      
      |((refine st_call (by rfl) (by rfl) (by rfl) (twice3_spec _ (D n (V xs * (V ys / 2 ^ (i + 1)))) (D_lt _ _) hDl2) .nil (RdW.own (by repeat (first | apply Find.here | apply Find.there))) (by rfl) ?_; rintro a1 _ rfl; rw [ht]))
      |refine Z01 ?_|refine Z02 ?_|refine Z03 ?_|refine Z04 ?_|refine Z05 ?_|refine Z06 ?_|refine Z07 ?_|refine Z08 ?_|refine Z09 ?_|refine Z10 ?_|refine Z11 ?_
      |refine Z12 ?_|refine Z13 ?_|refine Z14 ?_|refine Z15 ?_|refine Z16 ?_|refine Z17 ?_|refine Z18 ?_|refine Z19 ?_|refine Z20 ?_|refine Z21 ?_|refine Z22 ?_
      |refine Z23 ?_|refine Z24 ?_|refine Z25 ?_|refine Z26 ?_|refine Z27 ?_|refine Z28 ?_|refine Z36 ?_|refine Z37 ?_|refine Z38 ?_|refine Z40 ?_|refine Z42 ?_
      |refine Z44 ?_|refine Z45 ?_|refine Z58 ?_|refine Z59 ?_|refine Z67 ?_|refine Z70 ?_|refine Z71 ?_|refine Z74 ?_|refine Z80 ?_|refine Z83 fun _ => ?_)
    rw [bit_and hy]
    generalize hP : V xs * (V ys / 2 ^ (i + 1)) = P at f1 fd hDl hDl2 ht ⊢
    generalize hP0 : V xs * (V ys / 2 ^ i) = P0 at f0 fd
    refine st_cond (by rfl) (fun h1 => ?_) (fun h1 => ?_)
    · rw [if_pos h1] at fd
      have f2 : P + P < W ^ n := by omega
      have hl3 : (D n (P + P)).length < 16777216 := by rw [D_len]; omega
      have ha : D (max (D n (P + P)).length xs.length) (V (D n (P + P)) + V xs) = D n (V xs * (V ys / 2 ^ i)) := by rw [D_len, V_D' f2, Nat.max_eq_left (by omega), hP0, fd]
      repeat (first
        
        |((refine st_call (by rfl) (by rfl) (by rfl) (add3_spec _ s (D n (P + P)) xs (D_lt _ _) hx hl3 (by omega)) .nil (fun w hw => ⟨RdW.own (by repeat (first | apply Find.here | apply Find.there)) w hw, RdW.old hr1 w hw⟩) (by rfl) ?_; rintro _ _ ⟨a2, rfl, rfl⟩; rw [ha]))
        |refine Z01 ?_|refine Z02 ?_|refine Z03 ?_|refine Z04 ?_|refine Z05 ?_|refine Z06 ?_|refine Z07 ?_|refine Z08 ?_|refine Z09 ?_|refine Z10 ?_|refine Z11 ?_
        |refine Z12 ?_|refine Z13 ?_|refine Z14 ?_|refine Z15 ?_|refine Z16 ?_|refine Z17 ?_|refine Z18 ?_|refine Z19 ?_|refine Z20 ?_|refine Z21 ?_|refine Z22 ?_
        |refine Z23 ?_|refine Z24 ?_|refine Z25 ?_|refine Z26 ?_|refine Z27 ?_|refine Z28 ?_|refine Z36 ?_|refine Z37 ?_|refine Z38 ?_|refine Z40 ?_|refine Z42 ?_
        |refine Z44 ?_|refine Z45 ?_|refine Z58 ?_|refine Z59 ?_|refine Z67 ?_|refine Z70 ?_|refine Z71 ?_|refine Z74 ?_|refine Z80 ?_|refine Z83 fun _ => ?_)
      refine st_round (i, a2) (by show i ≤ _; omega) (by show i < i + 1; omega) ?_ (by repeat (first | apply SubW.nil | refine SubW.cons (by repeat (first | apply Find.here | apply Find.there)) ?_))
      rw [show ((i : Int) - 1) = Int.ofNat i - Int.ofNat 1 from rfl]
      exact (by repeat (first | apply subL.nil | refine subL.cons (by rfl) ?_))
    · rw [if_neg h1, Nat.add_zero] at fd
      rw [← fd, ← hP0]
      repeat (first
        |refine Z01 ?_|refine Z02 ?_|refine Z03 ?_|refine Z04 ?_|refine Z05 ?_|refine Z06 ?_|refine Z07 ?_|refine Z08 ?_|refine Z09 ?_|refine Z10 ?_|refine Z11 ?_
        |refine Z12 ?_|refine Z13 ?_|refine Z14 ?_|refine Z15 ?_|refine Z16 ?_|refine Z17 ?_|refine Z18 ?_|refine Z19 ?_|refine Z20 ?_|refine Z21 ?_|refine Z22 ?_
        |refine Z23 ?_|refine Z24 ?_|refine Z25 ?_|refine Z26 ?_|refine Z27 ?_|refine Z28 ?_|refine Z36 ?_|refine Z37 ?_|refine Z38 ?_|refine Z40 ?_|refine Z42 ?_
        |refine Z44 ?_|refine Z45 ?_|refine Z58 ?_|refine Z59 ?_|refine Z67 ?_|refine Z70 ?_|refine Z71 ?_|refine Z74 ?_|refine Z80 ?_|refine Z83 fun _ => ?_)
      refine st_round (i, a1) (by show i ≤ _; omega) (by show i < i + 1; omega) ?_ (by repeat (first | apply SubW.nil | refine SubW.cons (by repeat (first | apply Find.here | apply Find.there)) ?_))
      rw [show ((i : Int) - 1) = Int.ofNat i - Int.ofNat 1 from rfl]
      exact (by repeat (first | apply subL.nil | refine subL.cons (by rfl) ?_))
  · have h0 : ¬ (0 : Int) ≤ (j : Int) - 1 := h
    have hj0 : j = 0 := by omega
    subst hj0
    rw [Nat.pow_zero, Nat.div_one]
    repeat (first
      |refine Z01 ?_|refine Z02 ?_|refine Z03 ?_|refine Z04 ?_|refine Z05 ?_|refine Z06 ?_|refine Z07 ?_|refine Z08 ?_|refine Z09 ?_|refine Z10 ?_|refine Z11 ?_
      |refine Z12 ?_|refine Z13 ?_|refine Z14 ?_|refine Z15 ?_|refine Z16 ?_|refine Z17 ?_|refine Z18 ?_|refine Z19 ?_|refine Z20 ?_|refine Z21 ?_|refine Z22 ?_
      |refine Z23 ?_|refine Z24 ?_|refine Z25 ?_|refine Z26 ?_|refine Z27 ?_|refine Z28 ?_|refine Z36 ?_|refine Z37 ?_|refine Z38 ?_|refine Z40 ?_|refine Z42 ?_
      |refine Z44 ?_|refine Z45 ?_|refine Z58 ?_|refine Z59 ?_|refine Z67 ?_|refine Z70 ?_|refine Z71 ?_|refine Z74 ?_|refine Z80 ?_|refine Z83 fun _ => ?_)
    refine Ze1 fun _ hw => post_of hw (Wout := [.sl _ ((D n (V xs * V ys)).map (N .u64)) 30]) ?_ rfl
    exact (by repeat (first | apply SubW.nil | refine SubW.cons (by repeat (first | apply Find.here | apply Find.there)) ?_))
end Go.Proofs.Ytbjfjkmidhfgcaa.L
