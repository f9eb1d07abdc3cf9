/- The walk of the document's what is left. Conditions: as each statement says. -/
import Derived.Test.YtbjfjkmidhfgcaaAuto
import Derived.Test.YtbjfjkmidhfgcaaPerm
import Derived.Test.YtbjfjkmidhfgcaaMore
import Derived.Test.YtbjfjkmidhfgcaaProg
import Derived.Test.YtbjfjkmidhfgcaaNum
import Derived.Test.YtbjfjkmidhfgcaaLmb
import Derived.Test.YtbjfjkmidhfgcaaLmd
import Derived.Test.YtbjfjkmidhfgcaaLmo
import Derived.Test.YtbjfjkmidhfgcaaLmk
import Derived.Test.YtbjfjkmidhfgcaaScope
import Derived.Test.YtbjfjkmidhfgcaaJoin
import Derived.Test.YtbjfjkmidhfgcaaLma
import Derived.Test.YtbjfjkmidhfgcaaLmz
import Derived.Test.YtbjfjkmidhfgcaaLmv
import Derived.Test.YtbjfjkmidhfgcaaLmw
import Derived.Test.YtbjfjkmidhfgcaaLmx
namespace Go.Proofs.Ytbjfjkmidhfgcaa.L
open Go Go.Proofs
set_option maxRecDepth 100000
attribute [local irreducible] Code.wp wpList Af bodyPost L.Go
open Num
attribute [local simp] D_len octs_len

theorem even_word (R : Nat) : (R + R) % 18446744073709551616 % 2 = 0 := by omega
theorem set_bit (k R b : Nat) (hb : b ≤ 1) : (D (k + 1) (R + R)).set 0 (((D (k + 1) (R + R)).getD 0 0 + b) % 18446744073709551616) = D (k + 1) (R + R + b) := by
  have h0 := D_getD (k + 1) (R + R) 0 (by omega)
  rw [Nat.pow_zero, Nat.div_one] at h0
  have hw : (D (k + 1) (R + R)).getD 0 0 = (R + R) % 18446744073709551616 := h0
  have he := even_word R
  have hlt : (D (k + 1) (R + R)).getD 0 0 + b < 18446744073709551616 := by rw [hw]; omega
  rw [Nat.mod_eq_of_lt hlt]
  have hl := D_len (k + 1) (R + R)
  refine D_eq (Num.Lt.set (D_lt _ _) hlt 0) (by rw [List.length_set, hl]) ?_
  have hs := V_set (D_lt (k + 1) (R + R)) 0 ((D (k + 1) (R + R)).getD 0 0 + b) (by rw [hl]; omega)
  rw [Nat.pow_zero, Nat.one_mul, Nat.one_mul, V_D] at hs
  have hv : V ((D (k + 1) (R + R)).set 0 ((D (k + 1) (R + R)).getD 0 0 + b)) = (R + R) % W ^ (k + 1) + b := by omega
  have hd : 2 ∣ W ^ (k + 1) := Nat.dvd_trans (show 2 ∣ W by decide) (by rw [Nat.pow_succ]; exact Nat.dvd_mul_left W (W ^ k))
  have hev : (R + R) % W ^ (k + 1) % 2 = 0 := by rw [Nat.mod_mod_of_dvd _ hd]; omega
  have hr := Nat.mod_lt (R + R) (W_pow_pos (k + 1))
  obtain ⟨m, hm⟩ := hd
  have hfit : (R + R) % W ^ (k + 1) + b < W ^ (k + 1) := by omega
  rw [hv, ← Nat.mod_eq_of_lt hfit, Nat.mod_add_mod]
theorem mod_round (A M i : Nat) : (A / 2 ^ (i + 1) % M + A / 2 ^ (i + 1) % M + A / 2 ^ i % 2) % M = A / 2 ^ i % M := by
  conv => rhs; rw [bit_step A i]
  rw [← Nat.two_mul, Nat.add_mod, Nat.mul_mod, Nat.mod_mod, ← Nat.mul_mod, ← Nat.add_mod]

set_option maxHeartbeats 2000000 in
theorem mod3_spec (s t : Value) (xs ms : List Nat) (hx : Lt 18446744073709551616 xs) (hm : Lt 18446744073709551616 ms) (hl1 : xs.length < 65536) (hl2 : ms.length < 65536) :
    Spec Try.prog 32 [s, t] (fun w => Rd w s (xs.map (N .u64)) ∧ Rd w t (ms.map (N .u64))) []
      (fun v Wr => (V ms = 0 ∧ v = .tuple [.slice none 0 0, N .i64 30].toArray ∧ Wr = []) ∨ (0 < V ms ∧ ∃ u, v = .tuple [u, N .i64 0].toArray ∧ Wr = [.sl u ((D ms.length (V xs % V ms)).map (N .u64)) 30])) := by
  refine mk_spec Try.func32 rfl rfl rfl fun w hr => ?_
  have hr1 := RdC.mk0 hr.1
  have hr2 := RdC.mk0 hr.2
  rcases Nat.eq_zero_or_pos (V ms) with hM | hMp
  · repeat (first
      
      |((refine st_callV (by rfl) (by rfl) (by rfl) (cmp3_spec t (.slice none 0 0) ms [] hm (Lt.nil _) (by omega) (by decide)) (fun w hw => ⟨RdW.old hr2 w hw, Rd.nil w⟩) (by rfl) ?_; rw [ord3_eq (hM.trans V_nil.symm)]))
      |refine Z01 ?_|refine Z02 ?_|refine Z03 ?_|refine Z04 ?_|refine Z05 ?_|refine Z06 ?_|refine Z07 ?_|refine Z08 ?_|refine Z09 ?_|refine Z10 ?_|refine Z11 ?_
      |refine Z12 ?_|refine Z13 ?_|refine Z14 ?_|refine Z15 ?_|refine Z16 ?_|refine Z17 ?_|refine Z18 ?_|refine Z19 ?_|refine Z20 ?_|refine Z21 ?_|refine Z22 ?_
      |refine Z23 ?_|refine Z24 ?_|refine Z25 ?_|refine Z26 ?_|refine Z27 ?_|refine Z28 ?_|refine Z29 ?_|refine Z30 ?_|refine Z31 ?_|refine Z32 ?_|refine Z33 ?_
      |refine Z36 ?_|refine Z37 ?_|refine Z38 ?_|refine Z40 ?_|refine Z42 ?_|refine Z44 ?_|refine Z45 ?_|refine Z58 ?_|refine Z59 ?_|refine Z62 ?_|refine Z63 ?_
      |refine Z64 ?_|refine Z67 ?_|refine Z70 ?_|refine Z71 ?_|refine Z74 ?_|refine Z80 ?_|refine Z83 fun _ => ?_)
    exact Ze2 fun _ hw => post_of hw SubW.nil (.inl ⟨hM, rfl, rfl⟩)
  have hg : ord3 (V ms) (V []) = 1 := ord3_gt (by rw [V_nil]; exact hMp)
  have hMW := V_lt hm
  have hz : V xs / 2 ^ (64 * xs.length) = 0 := Nat.div_eq_of_lt (by rw [Nat.pow_mul, ← W_2]; exact V_lt hx)
  obtain ⟨M, hM⟩ : ∃ M, M = V ms := ⟨_, rfl⟩
  repeat (first
    
    |((refine st_callV (by rfl) (by rfl) (by rfl) (cmp3_spec t (.slice none 0 0) ms [] hm (Lt.nil _) (by omega) (by decide)) (fun w hw => ⟨RdW.old hr2 w hw, Rd.nil w⟩) (by rfl) ?_; rw [hg]))
    |refine Z01 ?_|refine Z02 ?_|refine Z03 ?_|refine Z04 ?_|refine Z05 ?_|refine Z06 ?_|refine Z07 ?_|refine Z08 ?_|refine Z09 ?_|refine Z10 ?_|refine Z11 ?_
    |refine Z12 ?_|refine Z13 ?_|refine Z14 ?_|refine Z15 ?_|refine Z16 ?_|refine Z17 ?_|refine Z18 ?_|refine Z19 ?_|refine Z20 ?_|refine Z21 ?_|refine Z22 ?_
    |refine Z23 ?_|refine Z24 ?_|refine Z25 ?_|refine Z26 ?_|refine Z27 ?_|refine Z28 ?_|refine Z29 ?_|refine Z30 ?_|refine Z31 ?_|refine Z32 ?_|refine Z33 ?_
    |refine Z36 ?_|refine Z37 ?_|refine Z38 ?_|refine Z40 ?_|refine Z42 ?_|refine Z44 ?_|refine Z45 ?_|refine Z58 ?_|refine Z59 ?_|refine Z62 ?_|refine Z63 ?_
    |refine Z64 ?_|refine Z67 ?_|refine Z70 ?_|refine Z71 ?_|refine Z74 ?_|refine Z80 ?_|refine Z83 fun _ => ?_)
  rename_i u0
  refine st_loop (ι := Nat × Value) (fun p => p.1 ≤ 64 * xs.length) (fun p => [(0, s), (1, t), (6, p.2), (7, .int .i64 ((p.1 : Int) - 1))])
    (fun p => [.sl p.2 ((D (ms.length + 1) (V xs / 2 ^ p.1 % V ms)).map (N .u64)) 30]) (fun p => p.1) (64 * xs.length, u0) (Nat.le_refl _) (by repeat (first | apply subL.nil | refine subL.cons (by rfl) ?_)) (by rw [hz, Nat.zero_mod, D_zero]; exact (by repeat (first | apply SubW.nil | refine SubW.cons (by repeat (first | apply Find.here | apply Find.there)) ?_))) ?_
  rintro ⟨j, u⟩ hj
  dsimp only at hj ⊢
  repeat (first
    |refine Z01 ?_|refine Z02 ?_|refine Z03 ?_|refine Z04 ?_|refine Z05 ?_|refine Z06 ?_|refine Z07 ?_|refine Z08 ?_|refine Z09 ?_|refine Z10 ?_|refine Z11 ?_
    |refine Z12 ?_|refine Z13 ?_|refine Z14 ?_|refine Z15 ?_|refine Z16 ?_|refine Z17 ?_|refine Z18 ?_|refine Z19 ?_|refine Z20 ?_|refine Z21 ?_|refine Z22 ?_
    |refine Z23 ?_|refine Z24 ?_|refine Z25 ?_|refine Z26 ?_|refine Z27 ?_|refine Z28 ?_|refine Z29 ?_|refine Z30 ?_|refine Z31 ?_|refine Z32 ?_|refine Z33 ?_
    |refine Z36 ?_|refine Z37 ?_|refine Z38 ?_|refine Z40 ?_|refine Z42 ?_|refine Z44 ?_|refine Z45 ?_|refine Z58 ?_|refine Z59 ?_|refine Z62 ?_|refine Z63 ?_
    |refine Z64 ?_|refine Z67 ?_|refine Z70 ?_|refine Z71 ?_|refine Z74 ?_|refine Z80 ?_|refine Z83 fun _ => ?_)
  refine st_cond (by rfl) (fun h => ?_) (fun h => ?_)
  · have h0 : (0 : Int) ≤ (j : Int) - 1 := h
    obtain ⟨i, rfl⟩ : ∃ i, j = i + 1 := ⟨j - 1, by omega⟩
    rw [show ((i + 1 : Nat) : Int) - 1 = Int.ofNat i by simp]
    have hrd := mod_round (V xs) (V ms) i
    have hRM : V xs / 2 ^ (i + 1) % V ms < V ms := Nat.mod_lt _ hMp
    have hb := bit_and hx i
    generalize hR : V xs / 2 ^ (i + 1) % V ms = R at hrd hRM ⊢
    obtain ⟨b, hbe⟩ : ∃ b, b = V xs / 2 ^ i % 2 := ⟨_, rfl⟩
    rw [← hbe] at hrd hb
    have hb1 : b ≤ 1 := by omega
    have hW1 : 2 * W ^ ms.length ≤ W ^ (ms.length + 1) := by rw [Nat.pow_succ, Nat.mul_comm]; exact Nat.mul_le_mul_left _ (by decide)
    have hRW : R < W ^ (ms.length + 1) := by omega
    have hXW : R + R + b < W ^ (ms.length + 1) := by omega
    have hDl := D_len (ms.length + 1) R
    have hDl2 := D_len (ms.length + 1) (R + R)
    have hDl3 := D_len (ms.length + 1) (R + R + b)
    have hl4 : (D (ms.length + 1) R).length < 16777216 := by omega
    have hl5 : (D (ms.length + 1) (R + R + b)).length < 16777216 := by omega
    have ht : D (D (ms.length + 1) R).length (V (D (ms.length + 1) R) + V (D (ms.length + 1) R)) = D (ms.length + 1) (R + R) := by rw [hDl, V_D' hRW]
    have hset := set_bit ms.length R b hb1
    have hv := V_D' hXW
    repeat (first
      
      |((refine st_call (by rfl) (by rfl) (by rfl) (twice3_spec _ (D (ms.length + 1) R) (D_lt _ _) hl4) .nil (RdW.own (by repeat (first | apply Find.here | apply Find.there))) (by rfl) ?_; rintro a1 _ rfl; rw [ht]))
      |refine Z01 ?_|refine Z02 ?_|refine Z03 ?_|refine Z04 ?_|refine Z05 ?_|refine Z06 ?_|refine Z07 ?_|refine Z08 ?_|refine Z09 ?_|refine Z10 ?_|refine Z11 ?_
      |refine Z12 ?_|refine Z13 ?_|refine Z14 ?_|refine Z15 ?_|refine Z16 ?_|refine Z17 ?_|refine Z18 ?_|refine Z19 ?_|refine Z20 ?_|refine Z21 ?_|refine Z22 ?_
      |refine Z23 ?_|refine Z24 ?_|refine Z25 ?_|refine Z26 ?_|refine Z27 ?_|refine Z28 ?_|refine Z29 ?_|refine Z30 ?_|refine Z31 ?_|refine Z32 ?_|refine Z33 ?_
      |refine Z36 ?_|refine Z37 ?_|refine Z38 ?_|refine Z40 ?_|refine Z42 ?_|refine Z44 ?_|refine Z45 ?_|refine Z58 ?_|refine Z59 ?_|refine Z62 ?_|refine Z63 ?_
      |refine Z64 ?_|refine Z67 ?_|refine Z70 ?_|refine Z71 ?_|refine Z74 ?_|refine Z80 ?_|refine Z83 fun _ => ?_)
    refine st_draw1 (by rfl) ?_
    repeat (first
      |refine Zqf (by intro _ _ _;(first
        |refine Z01 ?_|refine Z02 ?_|refine Z15 ?_|refine Z16 ?_|refine Z17 ?_|refine Z18 ?_|refine Z19 ?_|refine Z20 ?_|refine Z21 ?_|refine Z22 ?_|refine Z23 ?_
        |refine Z33 ?_|refine Z36 ?_|refine Z37 ?_|refine Z38 ?_|refine Z40 ?_|refine Z42 ?_|refine Z44 ?_|refine Z45 ?_|refine Z58 ?_|refine Z59 ?_|refine Z62 ?_
        |refine Z63 ?_|refine Z64 ?_|refine Z70 ?_|refine Z71 ?_|refine Z74 ?_|refine Z80 ?_);exact Zq) ?_
      |refine Zqp (by intro _ _ _;(first
        |refine Z24 ?_|refine Z25 ?_|refine Z26 ?_|refine Z27 ?_|refine Z28 ?_|refine Z67 ?_|refine Z23 ?_|refine Z20 ?_|refine Z21 ?_|refine Z62 ?_);exact Zq) ?_
      |refine Zqe (by intro _ _ _;(first
        |refine Z29 ?_|refine Z30 ?_|refine Z31 ?_|refine Z32 ?_);exact Zqq) ?_
      |refine Zqn ?_)
    refine Zq0 ?_ (by kernel_rfl)
    rw [hb, hset]
    repeat (first
      
      |((refine st_callV (by rfl) (by rfl) (by rfl) (cmp3_spec _ t (D (ms.length + 1) (R + R + b)) ms (D_lt _ _) hm hl5 (by omega)) (fun w hw => ⟨RdW.own (by repeat (first | apply Find.here | apply Find.there)) w hw, RdW.old hr2 w hw⟩) (by rfl) ?_; rw [hv]))
      |refine Z01 ?_|refine Z02 ?_|refine Z03 ?_|refine Z04 ?_|refine Z05 ?_|refine Z06 ?_|refine Z07 ?_|refine Z08 ?_|refine Z09 ?_|refine Z10 ?_|refine Z11 ?_
      |refine Z12 ?_|refine Z13 ?_|refine Z14 ?_|refine Z15 ?_|refine Z16 ?_|refine Z17 ?_|refine Z18 ?_|refine Z19 ?_|refine Z20 ?_|refine Z21 ?_|refine Z22 ?_
      |refine Z23 ?_|refine Z24 ?_|refine Z25 ?_|refine Z26 ?_|refine Z27 ?_|refine Z28 ?_|refine Z29 ?_|refine Z30 ?_|refine Z31 ?_|refine Z32 ?_|refine Z33 ?_
      |refine Z36 ?_|refine Z37 ?_|refine Z38 ?_|refine Z40 ?_|refine Z42 ?_|refine Z44 ?_|refine Z45 ?_|refine Z58 ?_|refine Z59 ?_|refine Z62 ?_|refine Z63 ?_
      |refine Z64 ?_|refine Z67 ?_|refine Z70 ?_|refine Z71 ?_|refine Z74 ?_|refine Z80 ?_|refine Z83 fun _ => ?_)
    rcases Nat.lt_or_ge (R + R + b) (V ms) with hlt | hge
    · rw [ord3_lt hlt]
      rw [Nat.mod_eq_of_lt hlt] at hrd
      rw [show decide (Int.ofNat 0 ≤ -1) = false from rfl]
      repeat (first
        |refine Z01 ?_|refine Z02 ?_|refine Z03 ?_|refine Z04 ?_|refine Z05 ?_|refine Z06 ?_|refine Z07 ?_|refine Z08 ?_|refine Z09 ?_|refine Z10 ?_|refine Z11 ?_
        |refine Z12 ?_|refine Z13 ?_|refine Z14 ?_|refine Z15 ?_|refine Z16 ?_|refine Z17 ?_|refine Z18 ?_|refine Z19 ?_|refine Z20 ?_|refine Z21 ?_|refine Z22 ?_
        |refine Z23 ?_|refine Z24 ?_|refine Z25 ?_|refine Z26 ?_|refine Z27 ?_|refine Z28 ?_|refine Z29 ?_|refine Z30 ?_|refine Z31 ?_|refine Z32 ?_|refine Z33 ?_
        |refine Z36 ?_|refine Z37 ?_|refine Z38 ?_|refine Z40 ?_|refine Z42 ?_|refine Z44 ?_|refine Z45 ?_|refine Z58 ?_|refine Z59 ?_|refine Z62 ?_|refine Z63 ?_
        |refine Z64 ?_|refine Z67 ?_|refine Z70 ?_|refine Z71 ?_|refine Z74 ?_|refine Z80 ?_|refine Z83 fun _ => ?_)
      rw [hrd]
      refine st_round (i, a1) (by show i ≤ _; omega) (by show i < i + 1; omega) ?_ (by repeat (first | apply SubW.nil | refine SubW.cons (by repeat (first | apply Find.here | apply Find.there)) ?_))
      rw [show ((i : Int) - 1) = Int.ofNat i - Int.ofNat 1 from rfl]
      exact (by repeat (first | apply subL.nil | refine subL.cons (by rfl) ?_))
    · have ho : decide (Int.ofNat 0 ≤ ord3 (R + R + b) (V ms)) = true := by
        rcases Nat.lt_or_eq_of_le hge with h1 | h1
        · rw [ord3_gt h1]; rfl
        · rw [ord3_eq h1.symm]; rfl
      rw [ho]
      have hsub : R + R + b - V ms = V xs / 2 ^ i % V ms := by rw [← hrd, Nat.mod_eq_sub_mod hge, Nat.mod_eq_of_lt (by omega)]
      have hd : D (max (D (ms.length + 1) (R + R + b)).length ms.length) (sbn (max (D (ms.length + 1) (R + R + b)).length ms.length) (V (D (ms.length + 1) (R + R + b))) (V ms)) = D (ms.length + 1) (V xs / 2 ^ i % V ms) := by
        rw [hDl3, hv, Nat.max_eq_left (by omega), sbn, ← hsub, show R + R + b + W ^ (ms.length + 1) - V ms = R + R + b - V ms + W ^ (ms.length + 1) by omega, ← D_mod, Nat.add_mod_right, D_mod]
      repeat (first
        
        |((refine st_call (by rfl) (by rfl) (by rfl) (sub3_spec _ t (D (ms.length + 1) (R + R + b)) ms (D_lt _ _) hm hl5 (by omega)) .nil (fun w hw => ⟨RdW.own (by repeat (first | apply Find.here | apply Find.there)) w hw, RdW.old hr2 w hw⟩) (by rfl) ?_; rintro _ _ ⟨a2, rfl, rfl⟩; rw [hd]))
        |refine Z01 ?_|refine Z02 ?_|refine Z03 ?_|refine Z04 ?_|refine Z05 ?_|refine Z06 ?_|refine Z07 ?_|refine Z08 ?_|refine Z09 ?_|refine Z10 ?_|refine Z11 ?_
        |refine Z12 ?_|refine Z13 ?_|refine Z14 ?_|refine Z15 ?_|refine Z16 ?_|refine Z17 ?_|refine Z18 ?_|refine Z19 ?_|refine Z20 ?_|refine Z21 ?_|refine Z22 ?_
        |refine Z23 ?_|refine Z24 ?_|refine Z25 ?_|refine Z26 ?_|refine Z27 ?_|refine Z28 ?_|refine Z29 ?_|refine Z30 ?_|refine Z31 ?_|refine Z32 ?_|refine Z33 ?_
        |refine Z36 ?_|refine Z37 ?_|refine Z38 ?_|refine Z40 ?_|refine Z42 ?_|refine Z44 ?_|refine Z45 ?_|refine Z58 ?_|refine Z59 ?_|refine Z62 ?_|refine Z63 ?_
        |refine Z64 ?_|refine Z67 ?_|refine Z70 ?_|refine Z71 ?_|refine Z74 ?_|refine Z80 ?_|refine Z83 fun _ => ?_)
      refine st_round (i, a2) (by show i ≤ _; omega) (by show i < i + 1; omega) ?_ (by repeat (first | apply SubW.nil | refine SubW.cons (by repeat (first | apply Find.here | apply Find.there)) ?_))
      rw [show ((i : Int) - 1) = Int.ofNat i - Int.ofNat 1 from rfl]
      exact (by repeat (first | apply subL.nil | refine subL.cons (by rfl) ?_))
  · have hp : ¬ (0 : Int) ≤ (j : Int) - 1 := h
    have hj0 : j = 0 := by omega
    subst hj0
    have hDl := D_len (ms.length + 1) (V xs % V ms)
    rw [Nat.pow_zero, Nat.div_one]
    have hRM : V xs % V ms < V ms := Nat.mod_lt _ hMp
    repeat (first
      |refine Z01 ?_|refine Z02 ?_|refine Z03 ?_|refine Z04 ?_|refine Z05 ?_|refine Z06 ?_|refine Z07 ?_|refine Z08 ?_|refine Z09 ?_|refine Z10 ?_|refine Z11 ?_
      |refine Z12 ?_|refine Z13 ?_|refine Z14 ?_|refine Z15 ?_|refine Z16 ?_|refine Z17 ?_|refine Z18 ?_|refine Z19 ?_|refine Z20 ?_|refine Z21 ?_|refine Z22 ?_
      |refine Z23 ?_|refine Z24 ?_|refine Z25 ?_|refine Z26 ?_|refine Z27 ?_|refine Z28 ?_|refine Z29 ?_|refine Z30 ?_|refine Z31 ?_|refine Z32 ?_|refine Z33 ?_
      |refine Z36 ?_|refine Z37 ?_|refine Z38 ?_|refine Z40 ?_|refine Z42 ?_|refine Z44 ?_|refine Z45 ?_|refine Z58 ?_|refine Z59 ?_|refine Z62 ?_|refine Z63 ?_
      |refine Z64 ?_|refine Z67 ?_|refine Z70 ?_|refine Z71 ?_|refine Z74 ?_|refine Z80 ?_|refine Z83 fun _ => ?_)
    refine st_resl (s := u) 0 ms.length (by repeat (first | apply Find.here | apply Find.there)) (by omega) (by rw [List.length_map, hDl]; omega) ?_
    have hcut : List.drop 0 (List.take ms.length (List.map (N .u64) (D (ms.length + 1) (V xs % V ms)))) = (D ms.length (V xs % V ms)).map (N .u64) := by
      rw [List.drop_zero, ← List.map_take]
      congr 1
      refine D_of_V ((D_lt _ _).take _) (by rw [List.length_take, hDl]; omega) ?_
      rw [V_take (D_lt _ _), V_D, Nat.mod_eq_of_lt (a := V xs % V ms) (Nat.lt_of_lt_of_le (Nat.lt_trans hRM hMW) (W_le (Nat.le_succ _))), Nat.mod_eq_of_lt (Nat.lt_trans hRM hMW)]
    rw [hcut]
    exact Ze2 fun _ hw => post_of hw (Wout := [.sl (sub u 0 ms.length) ((D ms.length (V xs % V ms)).map (N .u64)) 30]) (by exact (by repeat (first | apply SubW.nil | refine SubW.cons (by repeat (first | apply Find.here | apply Find.there)) ?_))) (.inr ⟨hMp, _, rfl, rfl⟩)
end Go.Proofs.Ytbjfjkmidhfgcaa.L
