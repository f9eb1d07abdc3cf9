/- Bytes and words: the walks; comparing lists of words. Conditions: as each statement says. -/
import Derived.Test.YtbjfjkmidhfgcaaAuto
import Derived.Test.YtbjfjkmidhfgcaaPerm
import Derived.Test.YtbjfjkmidhfgcaaMore
import Derived.Test.YtbjfjkmidhfgcaaProg
import Derived.Test.YtbjfjkmidhfgcaaNum
import Derived.Test.YtbjfjkmidhfgcaaLmb
import Derived.Test.YtbjfjkmidhfgcaaLmd
import Derived.Test.YtbjfjkmidhfgcaaLmo
import Derived.Test.YtbjfjkmidhfgcaaScope
import Derived.Test.YtbjfjkmidhfgcaaJoin
import Derived.Test.YtbjfjkmidhfgcaaLma
import Derived.Test.YtbjfjkmidhfgcaaLmz
import Derived.Test.YtbjfjkmidhfgcaaShaT
namespace Go.Proofs.Ytbjfjkmidhfgcaa.L
open Go Go.Proofs
set_option maxRecDepth 100000
attribute [local irreducible] Code.wp wpList Af bodyPost L.Go
open Num
attribute [local simp] D_len octs_len

set_option maxHeartbeats 1000000 in
theorem octets_spec (s : Value) (xs : List Nat) (n : Nat) (hx : Lt 18446744073709551616 xs) (hl : xs.length < 16777216) (hn : n < 16777216) :
    Spec Try.prog 21 [s, N .i64 n] (fun w => Rd w s (xs.map (N .u64))) [] (fun v Wr => Wr = [.sl v ((octs (V xs) n).map (N .u8)) 5]) := by
  refine mk_spec Try.func21 rfl rfl rfl fun w hr => ?_
  have hr := RdC.mk0 hr
  have hm0 : max n 0 = n := Nat.max_eq_left (Nat.zero_le _)
  have hol := octs_len (V xs) n
  have hal : (octs (V xs) n).length = (List.replicate n 0).length := by rw [hol, List.length_replicate]
  repeat (first
    |(rw [hm0])|refine Z01 ?_|refine Z02 ?_|refine Z03 ?_|refine Z04 ?_|refine Z05 ?_|refine Z06 ?_|refine Z07 ?_|refine Z08 ?_|refine Z09 ?_|refine Z10 ?_|refine Z11 ?_
    |refine Z12 ?_|refine Z13 ?_|refine Z14 ?_|refine Z15 ?_|refine Z16 ?_|refine Z17 ?_|refine Z18 ?_|refine Z20 ?_|refine Z21 ?_|refine Z22 ?_|refine Z23 ?_
    |refine Z29 ?_|refine Z30 ?_|refine Z31 ?_|refine Z32 ?_|refine Z36 ?_|refine Z37 ?_|refine Z38 ?_|refine Z42 ?_|refine Z44 ?_|refine Z45 ?_|refine Z58 ?_
    |refine Z59 ?_|refine Z60 ?_|refine Z70 ?_|refine Z71 ?_|refine Z74 ?_|refine Z80 ?_|refine Z83 fun _ => ?_)
  rename_i u
  rw [List.length_replicate]
  refine st_loop (ι := Nat) (fun i => i ≤ n) (fun i => [(0, s), (1, N .i64 n), (5, u), (12, N .i64 n), (13, N .i64 i)]) (fun i => [.sl u ((Sha.mixT (octs (V xs) n) (List.replicate n 0) i).map (N .u8)) 5]) (fun i => n - i) 0 (by omega) (by repeat (first | apply subL.nil | refine subL.cons (by rfl) ?_)) (by rw [Sha.mixT_0]; exact (by repeat (first | apply SubW.nil | refine SubW.cons (by repeat (first | apply Find.here | apply Find.there)) ?_))) ?_
  intro i hi
  have hml := Sha.mixT_len hal i
  rw [List.length_replicate] at hml
  repeat (first
    |refine Z01 ?_|refine Z02 ?_|refine Z03 ?_|refine Z04 ?_|refine Z05 ?_|refine Z06 ?_|refine Z07 ?_|refine Z08 ?_|refine Z09 ?_|refine Z10 ?_|refine Z11 ?_
    |refine Z12 ?_|refine Z13 ?_|refine Z14 ?_|refine Z15 ?_|refine Z16 ?_|refine Z17 ?_|refine Z18 ?_|refine Z20 ?_|refine Z21 ?_|refine Z22 ?_|refine Z23 ?_
    |refine Z29 ?_|refine Z30 ?_|refine Z31 ?_|refine Z32 ?_|refine Z36 ?_|refine Z37 ?_|refine Z38 ?_|refine Z42 ?_|refine Z44 ?_|refine Z45 ?_|refine Z58 ?_
    |refine Z59 ?_|refine Z60 ?_|refine Z70 ?_|refine Z71 ?_|refine Z74 ?_|refine Z80 ?_|refine Z83 fun _ => ?_)
  refine st_cond (by rfl) (fun h => ?_) (fun h => ?_)
  · have hwb := word_byte (V xs) (n - 1 - i)
    rw [← V_getD hx] at hwb
    repeat (first
      |(refine st_callV (by rfl) (by rfl) (by rfl) (at_spec s xs ((n - 1 - i) / 8) (by omega)) (RdW.old hr) (by rfl) ?_)
      |(refine st_shr (by rfl) (by rfl) (show 8 * ((n - 1 - i) % 8) ≤ 64 by omega) (by rfl) ?_)|refine Z01 ?_|refine Z02 ?_|refine Z03 ?_|refine Z04 ?_|refine Z05 ?_
      |refine Z06 ?_|refine Z07 ?_|refine Z08 ?_|refine Z09 ?_|refine Z10 ?_|refine Z11 ?_|refine Z12 ?_|refine Z13 ?_|refine Z14 ?_|refine Z15 ?_|refine Z16 ?_
      |refine Z17 ?_|refine Z18 ?_|refine Z20 ?_|refine Z21 ?_|refine Z22 ?_|refine Z23 ?_|refine Z29 ?_|refine Z30 ?_|refine Z31 ?_|refine Z32 ?_|refine Z36 ?_
      |refine Z37 ?_|refine Z38 ?_|refine Z42 ?_|refine Z44 ?_|refine Z45 ?_|refine Z58 ?_|refine Z59 ?_|refine Z60 ?_|refine Z70 ?_|refine Z71 ?_|refine Z74 ?_
      |refine Z80 ?_|refine Z83 fun _ => ?_)
    rw [hwb, ← octs_getD _ _ _ h, Sha.mix_take hal (by simp; omega)]
    exact st_round (i + 1) (by omega) (by omega) (by repeat (first | apply subL.nil | refine subL.cons (by rfl) ?_)) (by repeat (first | apply SubW.nil | refine SubW.cons (by repeat (first | apply Find.here | apply Find.there)) ?_))
  · have hie : i = n := by omega
    subst hie
    rw [show Sha.mixT (octs (V xs) i) (List.replicate i 0) i = octs (V xs) i by have := Sha.mixT_all hal; rwa [List.length_replicate] at this]
    repeat (first
      |refine Z01 ?_|refine Z02 ?_|refine Z03 ?_|refine Z04 ?_|refine Z05 ?_|refine Z06 ?_|refine Z07 ?_|refine Z08 ?_|refine Z09 ?_|refine Z10 ?_|refine Z11 ?_
      |refine Z12 ?_|refine Z13 ?_|refine Z14 ?_|refine Z15 ?_|refine Z16 ?_|refine Z17 ?_|refine Z18 ?_|refine Z20 ?_|refine Z21 ?_|refine Z22 ?_|refine Z23 ?_
      |refine Z29 ?_|refine Z30 ?_|refine Z31 ?_|refine Z32 ?_|refine Z36 ?_|refine Z37 ?_|refine Z38 ?_|refine Z42 ?_|refine Z44 ?_|refine Z45 ?_|refine Z58 ?_
      |refine Z59 ?_|refine Z60 ?_|refine Z70 ?_|refine Z71 ?_|refine Z74 ?_|refine Z80 ?_|refine Z83 fun _ => ?_)
    exact Ze1 fun _ hw => post_of hw (Wout := [.sl u ((octs (V xs) i).map (N .u8)) 5]) (by exact (by repeat (first | apply SubW.nil | refine SubW.cons (by repeat (first | apply Find.here | apply Find.there)) ?_))) rfl

theorem words_fit {bs : List Nat} (h : Lt 256 bs) : bval bs < Num.W ^ ((bs.length + 7) / 8) := by
  refine Nat.lt_of_lt_of_le (bval_lt h) ?_
  rw [W_256, ← Nat.pow_mul]
  exact Nat.pow_le_pow_right (by decide) (by omega)
theorem hi8_le (Y k : Nat) : hi8 Y k ≤ Y := by unfold hi8; omega

set_option maxHeartbeats 1000000 in
theorem words_spec (s : Value) (bs : List Nat) (hb : Lt 256 bs) (hl : bs.length < 16777216) :
    Spec Try.prog 24 [s] (fun w => Rd w s (bs.map (N .u8))) [] (fun v Wr => Wr = [.sl v ((D ((bs.length + 7) / 8) (bval bs)).map (N .u64)) 30]) := by
  refine mk_spec Try.func24 rfl rfl rfl fun w hr => ?_
  have hr := RdC.mk0 hr
  have hfit := words_fit hb
  obtain ⟨n, hn⟩ : ∃ n, n = (bs.length + 7) / 8 := ⟨_, rfl⟩
  rw [← hn] at hfit
  repeat (first
    |refine Z01 ?_|refine Z02 ?_|refine Z03 ?_|refine Z04 ?_|refine Z05 ?_|refine Z06 ?_|refine Z07 ?_|refine Z08 ?_|refine Z09 ?_|refine Z10 ?_|refine Z11 ?_
    |refine Z12 ?_|refine Z13 ?_|refine Z14 ?_|refine Z15 ?_|refine Z16 ?_|refine Z17 ?_|refine Z18 ?_|refine Z20 ?_|refine Z21 ?_|refine Z22 ?_|refine Z23 ?_
    |refine Z24 ?_|refine Z25 ?_|refine Z26 ?_|refine Z27 ?_|refine Z28 ?_|refine Z29 ?_|refine Z30 ?_|refine Z31 ?_|refine Z32 ?_|refine Z36 ?_|refine Z37 ?_
    |refine Z38 ?_|refine Z41 ?_|refine Z43 ?_|refine Z44 ?_|refine Z45 ?_|refine Z58 ?_|refine Z59 ?_|refine Z67 ?_|refine Z70 ?_|refine Z71 ?_|refine Z74 ?_
    |refine Z80 ?_|refine Z83 fun _ => ?_)
  rename_i u
  rw [← hn]
  refine st_loop (ι := Nat) (fun i => i ≤ bs.length) (fun i => [(0, s), (3, u), (12, s), (13, N .i64 bs.length), (14, N .i64 i)]) (fun i => [.sl u ((D n (hi8 (bval bs) (bs.length - i))).map (N .u64)) 30]) (fun i => bs.length - i) 0 (by omega) (by repeat (first | apply subL.nil | refine subL.cons (by rfl) ?_)) (by rw [Nat.sub_zero, hi8_all (bval_lt hb), D_zero]; exact (by repeat (first | apply SubW.nil | refine SubW.cons (by repeat (first | apply Find.here | apply Find.there)) ?_))) ?_
  intro i hi
  have hDl := D_len n (hi8 (bval bs) (bs.length - i))
  repeat (first
    |refine Z01 ?_|refine Z02 ?_|refine Z03 ?_|refine Z04 ?_|refine Z05 ?_|refine Z06 ?_|refine Z07 ?_|refine Z08 ?_|refine Z09 ?_|refine Z10 ?_|refine Z11 ?_
    |refine Z12 ?_|refine Z13 ?_|refine Z14 ?_|refine Z15 ?_|refine Z16 ?_|refine Z17 ?_|refine Z18 ?_|refine Z20 ?_|refine Z21 ?_|refine Z22 ?_|refine Z23 ?_
    |refine Z24 ?_|refine Z25 ?_|refine Z26 ?_|refine Z27 ?_|refine Z28 ?_|refine Z29 ?_|refine Z30 ?_|refine Z31 ?_|refine Z32 ?_|refine Z36 ?_|refine Z37 ?_
    |refine Z38 ?_|refine Z41 ?_|refine Z43 ?_|refine Z44 ?_|refine Z45 ?_|refine Z58 ?_|refine Z59 ?_|refine Z67 ?_|refine Z70 ?_|refine Z71 ?_|refine Z74 ?_
    |refine Z80 ?_|refine Z83 fun _ => ?_)
  refine st_cond (by rfl) (fun h => ?_) (fun h => ?_)
  · obtain ⟨k, hk⟩ : ∃ k, k = bs.length - 1 - i := ⟨_, rfl⟩
    have hk1 : bs.length - i = k + 1 := by omega
    rw [hk1] at hDl ⊢
    have hbi := hb.getD (by decide) i
    have hdig := bval_digit hb h
    rw [← hk] at hdig
    obtain ⟨p1, p2, p3⟩ := put_byte (bval bs) k n (Nat.lt_of_le_of_lt (hi8_le _ _) hfit) (by omega)
    rw [hdig] at p1 p2 p3
    have hwd := D_getD n (hi8 (bval bs) (k + 1)) (k / 8) (by omega)
    have hkl : k / 8 < n := by omega
    have hxm : bs.getD i 0 % 18446744073709551616 = bs.getD i 0 := Nat.mod_eq_of_lt (by omega)
    have p1' : hi8 (bval bs) (k + 1) / Num.W ^ (k / 8) % Num.W % 18446744073709551616 ||| (bs.getD i 0 % 18446744073709551616) <<< (8 * (k % 8)) % 18446744073709551616 % 18446744073709551616 = hi8 (bval bs) (k + 1) / Num.W ^ (k / 8) % Num.W + bs.getD i 0 * 256 ^ (k % 8) := by
      rw [hxm, Nat.mod_mod, Nat.mod_eq_of_lt (a := hi8 (bval bs) (k + 1) / Num.W ^ (k / 8) % Num.W) (b := 18446744073709551616) (show _ < 18446744073709551616 from Nat.mod_lt _ W_pos)]; exact p1
    repeat (first
      |(rw [← hk])|refine Z01 ?_|refine Z02 ?_|refine Z03 ?_|refine Z04 ?_|refine Z05 ?_|refine Z06 ?_|refine Z07 ?_|refine Z08 ?_|refine Z09 ?_|refine Z10 ?_
      |refine Z11 ?_|refine Z12 ?_|refine Z13 ?_|refine Z14 ?_|refine Z15 ?_|refine Z16 ?_|refine Z17 ?_|refine Z18 ?_|refine Z20 ?_|refine Z21 ?_|refine Z22 ?_
      |refine Z23 ?_|refine Z24 ?_|refine Z25 ?_|refine Z26 ?_|refine Z27 ?_|refine Z28 ?_|refine Z29 ?_|refine Z30 ?_|refine Z31 ?_|refine Z32 ?_|refine Z36 ?_
      |refine Z37 ?_|refine Z38 ?_|refine Z41 ?_|refine Z43 ?_|refine Z44 ?_|refine Z45 ?_|refine Z58 ?_|refine Z59 ?_|refine Z67 ?_|refine Z70 ?_|refine Z71 ?_
      |refine Z74 ?_|refine Z80 ?_|refine Z83 fun _ => ?_)
    refine st_draw1 (by rfl) ?_
    repeat (first
      |refine Zqf (by intro _ _ _;(first
        |refine Z01 ?_|refine Z02 ?_|refine Z15 ?_|refine Z16 ?_|refine Z17 ?_|refine Z18 ?_|refine Z20 ?_|refine Z21 ?_|refine Z22 ?_|refine Z23 ?_|refine Z36 ?_
        |refine Z37 ?_|refine Z38 ?_|refine Z41 ?_|refine Z43 ?_|refine Z44 ?_|refine Z45 ?_|refine Z58 ?_|refine Z59 ?_|refine Z70 ?_|refine Z71 ?_|refine Z74 ?_
        |refine Z80 ?_);exact Zq) ?_
      |refine Zqp (by intro _ _ _;(first
        |refine Z24 ?_|refine Z25 ?_|refine Z26 ?_|refine Z27 ?_|refine Z28 ?_|refine Z67 ?_|refine Z23 ?_|refine Z20 ?_|refine Z21 ?_);exact Zq) ?_
      |refine Zqe (by intro _ _ _;(first
        |refine Z29 ?_|refine Z30 ?_|refine Z31 ?_|refine Z32 ?_);exact Zqq) ?_
      |refine Zqn ?_)
    refine Zq0 ?_ (by kernel_rfl)
    rw [hwd, p1', ← p3]
    repeat (first
      |refine Z01 ?_|refine Z02 ?_|refine Z03 ?_|refine Z04 ?_|refine Z05 ?_|refine Z06 ?_|refine Z07 ?_|refine Z08 ?_|refine Z09 ?_|refine Z10 ?_|refine Z11 ?_
      |refine Z12 ?_|refine Z13 ?_|refine Z14 ?_|refine Z15 ?_|refine Z16 ?_|refine Z17 ?_|refine Z18 ?_|refine Z20 ?_|refine Z21 ?_|refine Z22 ?_|refine Z23 ?_
      |refine Z24 ?_|refine Z25 ?_|refine Z26 ?_|refine Z27 ?_|refine Z28 ?_|refine Z29 ?_|refine Z30 ?_|refine Z31 ?_|refine Z32 ?_|refine Z36 ?_|refine Z37 ?_
      |refine Z38 ?_|refine Z41 ?_|refine Z43 ?_|refine Z44 ?_|refine Z45 ?_|refine Z58 ?_|refine Z59 ?_|refine Z67 ?_|refine Z70 ?_|refine Z71 ?_|refine Z74 ?_
      |refine Z80 ?_|refine Z83 fun _ => ?_)
    refine st_round (i + 1) (by omega) (by omega) (by repeat (first | apply subL.nil | refine subL.cons (by rfl) ?_)) ?_
    rw [show bs.length - (i + 1) = k by omega]
    exact (by repeat (first | apply SubW.nil | refine SubW.cons (by repeat (first | apply Find.here | apply Find.there)) ?_))
  · have hie : i = bs.length := by omega
    subst hie
    rw [Nat.sub_self, hi8_0]
    repeat (first
      |refine Z01 ?_|refine Z02 ?_|refine Z03 ?_|refine Z04 ?_|refine Z05 ?_|refine Z06 ?_|refine Z07 ?_|refine Z08 ?_|refine Z09 ?_|refine Z10 ?_|refine Z11 ?_
      |refine Z12 ?_|refine Z13 ?_|refine Z14 ?_|refine Z15 ?_|refine Z16 ?_|refine Z17 ?_|refine Z18 ?_|refine Z20 ?_|refine Z21 ?_|refine Z22 ?_|refine Z23 ?_
      |refine Z24 ?_|refine Z25 ?_|refine Z26 ?_|refine Z27 ?_|refine Z28 ?_|refine Z29 ?_|refine Z30 ?_|refine Z31 ?_|refine Z32 ?_|refine Z36 ?_|refine Z37 ?_
      |refine Z38 ?_|refine Z41 ?_|refine Z43 ?_|refine Z44 ?_|refine Z45 ?_|refine Z58 ?_|refine Z59 ?_|refine Z67 ?_|refine Z70 ?_|refine Z71 ?_|refine Z74 ?_
      |refine Z80 ?_|refine Z83 fun _ => ?_)
    refine Ze1 fun _ hw => post_of hw (Wout := [.sl u ((D n (bval bs)).map (N .u64)) 30]) ?_ rfl
    exact (by repeat (first | apply SubW.nil | refine SubW.cons (by repeat (first | apply Find.here | apply Find.there)) ?_))

set_option maxHeartbeats 1000000 in
theorem same3_spec (s t : Value) (xs ys : List Nat) (hl : xs.length < 4294967296) :
    Spec Try.prog 23 [s, t] (fun w => Rd w s (xs.map (N .u64)) ∧ Rd w t (ys.map (N .u64))) [] (IsV (.bool (decide (xs = ys)))) := by
  refine mk_spec Try.func23 rfl rfl rfl fun w hr => ?_
  have hr1 := RdC.mk0 hr.1
  have hr2 := RdC.mk0 hr.2
  repeat (first
    |refine Z01 ?_|refine Z02 ?_|refine Z03 ?_|refine Z04 ?_|refine Z05 ?_|refine Z06 ?_|refine Z07 ?_|refine Z08 ?_|refine Z09 ?_|refine Z10 ?_|refine Z11 ?_
    |refine Z12 ?_|refine Z13 ?_|refine Z14 ?_|refine Z15 ?_|refine Z17 ?_|refine Z18 ?_|refine Z20 ?_|refine Z21 ?_|refine Z22 ?_|refine Z23 ?_|refine Z24 ?_
    |refine Z25 ?_|refine Z26 ?_|refine Z27 ?_|refine Z28 ?_|refine Z58 ?_|refine Z59 ?_|refine Z67 ?_|refine Z70 ?_)
  refine st_cond (by rfl) (fun h => ?_) (fun h => ?_)
  · repeat (first
      |refine Z01 ?_|refine Z02 ?_|refine Z03 ?_|refine Z04 ?_|refine Z05 ?_|refine Z06 ?_|refine Z07 ?_|refine Z08 ?_|refine Z09 ?_|refine Z10 ?_|refine Z11 ?_
      |refine Z12 ?_|refine Z13 ?_|refine Z14 ?_|refine Z15 ?_|refine Z17 ?_|refine Z18 ?_|refine Z20 ?_|refine Z21 ?_|refine Z22 ?_|refine Z23 ?_|refine Z24 ?_
      |refine Z25 ?_|refine Z26 ?_|refine Z27 ?_|refine Z28 ?_|refine Z58 ?_|refine Z59 ?_|refine Z67 ?_|refine Z70 ?_)
    refine Ze1 fun _ hw => post_of hw SubW.nil ⟨?_, rfl⟩
    have : xs ≠ ys := fun e => h (by rw [e])
    simp [this]
  · have h : xs.length = ys.length := by omega
    repeat (first
      |refine Z01 ?_|refine Z02 ?_|refine Z03 ?_|refine Z04 ?_|refine Z05 ?_|refine Z06 ?_|refine Z07 ?_|refine Z08 ?_|refine Z09 ?_|refine Z10 ?_|refine Z11 ?_
      |refine Z12 ?_|refine Z13 ?_|refine Z14 ?_|refine Z15 ?_|refine Z17 ?_|refine Z18 ?_|refine Z20 ?_|refine Z21 ?_|refine Z22 ?_|refine Z23 ?_|refine Z24 ?_
      |refine Z25 ?_|refine Z26 ?_|refine Z27 ?_|refine Z28 ?_|refine Z58 ?_|refine Z59 ?_|refine Z67 ?_|refine Z70 ?_)
    refine st_loop (ι := Nat) (fun i => i ≤ xs.length ∧ xs.take i = ys.take i) (fun i => [(0, s), (1, t), (5, N .i64 i)]) (fun i => []) (fun i => xs.length - i) 0 (by simp) (by repeat (first | apply subL.nil | refine subL.cons (by rfl) ?_)) (by repeat (first | apply SubW.nil | refine SubW.cons (by repeat (first | apply Find.here | apply Find.there)) ?_)) ?_
    rintro i ⟨hi, he⟩
    repeat (first
      |refine Z01 ?_|refine Z02 ?_|refine Z03 ?_|refine Z04 ?_|refine Z05 ?_|refine Z06 ?_|refine Z07 ?_|refine Z08 ?_|refine Z09 ?_|refine Z10 ?_|refine Z11 ?_
      |refine Z12 ?_|refine Z13 ?_|refine Z14 ?_|refine Z15 ?_|refine Z17 ?_|refine Z18 ?_|refine Z20 ?_|refine Z21 ?_|refine Z22 ?_|refine Z23 ?_|refine Z24 ?_
      |refine Z25 ?_|refine Z26 ?_|refine Z27 ?_|refine Z28 ?_|refine Z58 ?_|refine Z59 ?_|refine Z67 ?_|refine Z70 ?_)
    refine st_cond (by rfl) (fun hi' => ?_) (fun hi' => ?_)
    · repeat (first
        |refine Z01 ?_|refine Z02 ?_|refine Z03 ?_|refine Z04 ?_|refine Z05 ?_|refine Z06 ?_|refine Z07 ?_|refine Z08 ?_|refine Z09 ?_|refine Z10 ?_|refine Z11 ?_
        |refine Z12 ?_|refine Z13 ?_|refine Z14 ?_|refine Z15 ?_|refine Z17 ?_|refine Z18 ?_|refine Z20 ?_|refine Z21 ?_|refine Z22 ?_|refine Z23 ?_|refine Z24 ?_
        |refine Z25 ?_|refine Z26 ?_|refine Z27 ?_|refine Z28 ?_|refine Z58 ?_|refine Z59 ?_|refine Z67 ?_|refine Z70 ?_)
      refine st_draw1 (by rfl) ?_
      repeat (first
        |refine Zqf (by intro _ _ _;(first
          |refine Z01 ?_|refine Z02 ?_|refine Z15 ?_|refine Z17 ?_|refine Z18 ?_|refine Z20 ?_|refine Z21 ?_|refine Z22 ?_|refine Z23 ?_|refine Z58 ?_|refine Z59 ?_
          |refine Z70 ?_);exact Zq) ?_
        |refine Zqp (by intro _ _ _;(first
          |refine Z24 ?_|refine Z25 ?_|refine Z26 ?_|refine Z27 ?_|refine Z28 ?_|refine Z67 ?_|refine Z23 ?_|refine Z20 ?_|refine Z21 ?_);exact Zq) ?_
        |refine Zqn ?_)
      refine Zq0 ?_ (by kernel_rfl)
      repeat (first
        |refine Z01 ?_|refine Z02 ?_|refine Z03 ?_|refine Z04 ?_|refine Z05 ?_|refine Z06 ?_|refine Z07 ?_|refine Z08 ?_|refine Z09 ?_|refine Z10 ?_|refine Z11 ?_
        |refine Z12 ?_|refine Z13 ?_|refine Z14 ?_|refine Z15 ?_|refine Z17 ?_|refine Z18 ?_|refine Z20 ?_|refine Z21 ?_|refine Z22 ?_|refine Z23 ?_|refine Z24 ?_
        |refine Z25 ?_|refine Z26 ?_|refine Z27 ?_|refine Z28 ?_|refine Z58 ?_|refine Z59 ?_|refine Z67 ?_|refine Z70 ?_)
      refine st_cond (by rfl) (fun hd => ?_) (fun hd => ?_)
      · repeat (first
          |refine Z01 ?_|refine Z02 ?_|refine Z03 ?_|refine Z04 ?_|refine Z05 ?_|refine Z06 ?_|refine Z07 ?_|refine Z08 ?_|refine Z09 ?_|refine Z10 ?_|refine Z11 ?_
          |refine Z12 ?_|refine Z13 ?_|refine Z14 ?_|refine Z15 ?_|refine Z17 ?_|refine Z18 ?_|refine Z20 ?_|refine Z21 ?_|refine Z22 ?_|refine Z23 ?_|refine Z24 ?_
          |refine Z25 ?_|refine Z26 ?_|refine Z27 ?_|refine Z28 ?_|refine Z58 ?_|refine Z59 ?_|refine Z67 ?_|refine Z70 ?_)
        refine Ze1 fun _ hw => post_of hw SubW.nil ⟨?_, rfl⟩
        have : xs ≠ ys := fun e => hd (by rw [e])
        simp [this]
      · repeat (first
          |refine Z01 ?_|refine Z02 ?_|refine Z03 ?_|refine Z04 ?_|refine Z05 ?_|refine Z06 ?_|refine Z07 ?_|refine Z08 ?_|refine Z09 ?_|refine Z10 ?_|refine Z11 ?_
          |refine Z12 ?_|refine Z13 ?_|refine Z14 ?_|refine Z15 ?_|refine Z17 ?_|refine Z18 ?_|refine Z20 ?_|refine Z21 ?_|refine Z22 ?_|refine Z23 ?_|refine Z24 ?_
          |refine Z25 ?_|refine Z26 ?_|refine Z27 ?_|refine Z28 ?_|refine Z58 ?_|refine Z59 ?_|refine Z67 ?_|refine Z70 ?_)
        exact st_round (i + 1) ⟨by omega, take_next hi' (by omega) he (Decidable.not_not.mp hd)⟩ (by omega) (by repeat (first | apply subL.nil | refine subL.cons (by rfl) ?_)) (by repeat (first | apply SubW.nil | refine SubW.cons (by repeat (first | apply Find.here | apply Find.there)) ?_))
    · have : i = xs.length := by omega
      subst this
      repeat (first
        |refine Z01 ?_|refine Z02 ?_|refine Z03 ?_|refine Z04 ?_|refine Z05 ?_|refine Z06 ?_|refine Z07 ?_|refine Z08 ?_|refine Z09 ?_|refine Z10 ?_|refine Z11 ?_
        |refine Z12 ?_|refine Z13 ?_|refine Z14 ?_|refine Z15 ?_|refine Z17 ?_|refine Z18 ?_|refine Z20 ?_|refine Z21 ?_|refine Z22 ?_|refine Z23 ?_|refine Z24 ?_
        |refine Z25 ?_|refine Z26 ?_|refine Z27 ?_|refine Z28 ?_|refine Z58 ?_|refine Z59 ?_|refine Z67 ?_|refine Z70 ?_)
      refine Ze1 fun _ hw => post_of hw SubW.nil ⟨?_, rfl⟩
      rw [List.take_length, h, List.take_length] at he
      simp [he]
end Go.Proofs.Ytbjfjkmidhfgcaa.L
