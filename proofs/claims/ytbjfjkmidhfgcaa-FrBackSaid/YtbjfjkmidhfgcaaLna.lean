/- The walks of the document's bytes and words. Conditions: as each statement says. -/
import Derived.Test.YtbjfjkmidhfgcaaAuto
import Derived.Test.YtbjfjkmidhfgcaaPerm
import Derived.Test.YtbjfjkmidhfgcaaMore
import Derived.Test.YtbjfjkmidhfgcaaProg
import Derived.Test.YtbjfjkmidhfgcaaNum
import Derived.Test.YtbjfjkmidhfgcaaLmb
import Derived.Test.YtbjfjkmidhfgcaaLmd
import Derived.Test.YtbjfjkmidhfgcaaLmo
import Derived.Test.YtbjfjkmidhfgcaaScope
import Derived.Test.YtbjfjkmidhfgcaaJoin
import Derived.Test.YtbjfjkmidhfgcaaLma
import Derived.Test.YtbjfjkmidhfgcaaLmz
import Derived.Test.YtbjfjkmidhfgcaaLmv
import Derived.Test.YtbjfjkmidhfgcaaShaT
import Derived.Test.YtbjfjkmidhfgcaaLmp
namespace Go.Proofs.Ytbjfjkmidhfgcaa.L
open Go Go.Proofs
set_option maxRecDepth 100000
attribute [local irreducible] Code.wp wpList Af bodyPost L.Go
open Num
attribute [local simp] D_len octs_len

theorem octs_next (A n i : Nat) (h : i < n) : (octs A n).take (i + 1) = (octs A n).take i ++ [A / 256 ^ (n - 1 - i) % 256] := by
  have hl := octs_len A n
  rw [List.take_add_one, List.getElem?_eq_getElem (by omega)]
  have := octs_getD A n i h
  rw [List.getD_eq_getElem?_getD, List.getElem?_eq_getElem (by omega)] at this
  simp only [Option.getD_some] at this
  rw [this]; rfl

set_option maxHeartbeats 1000000 in
theorem octets3_spec (s : Value) (xs : List Nat) (n : Nat) (hx : Lt 18446744073709551616 xs) (hl : xs.length < 16777216) (hn : n < 16777216) :
    Spec Try.prog 22 [s, N .i64 n] (fun w => Rd w s (xs.map (N .u64))) [] (fun v Wr => Wr = [.sl v ((octs (V xs) n).map (N .u8)) 5]) := by
  refine mk_spec Try.func22 rfl rfl rfl fun w hr => ?_
  have hr := RdC.mk0 hr
  have hol := octs_len (V xs) n
  repeat (first
    |refine Z01 ?_|refine Z02 ?_|refine Z03 ?_|refine Z04 ?_|refine Z05 ?_|refine Z06 ?_|refine Z07 ?_|refine Z08 ?_|refine Z09 ?_|refine Z10 ?_|refine Z11 ?_
    |refine Z12 ?_|refine Z13 ?_|refine Z14 ?_|refine Z15 ?_|refine Z16 ?_|refine Z17 ?_|refine Z18 ?_|refine Z36 ?_|refine Z37 ?_|refine Z38 ?_|refine Z42 ?_
    |refine Z44 ?_|refine Z45 ?_|refine Z70 ?_|refine Z71 ?_|refine Z74 ?_|refine Z80 ?_|refine Z84 fun _ => ?_|refine Z85 fun _ => ?_)
  refine st_own_nil 5 ?_
  refine st_loop (ι := Nat × Value) (fun p => p.1 ≤ n) (fun p => [(0, s), (1, N .i64 n), (5, p.2), (6, N .i64 p.1)]) (fun p => [.sl p.2 (((octs (V xs) n).take p.1).map (N .u8)) 5]) (fun p => n - p.1) (0, .slice none 0 0) (Nat.zero_le _) (by repeat (first | apply subL.nil | refine subL.cons (by rfl) ?_)) (by repeat (first | apply SubW.nil | refine SubW.cons (by repeat (first | apply Find.here | apply Find.there)) ?_)) ?_
  rintro ⟨i, u⟩ hi
  dsimp only at hi ⊢
  repeat (first
    |refine Z01 ?_|refine Z02 ?_|refine Z03 ?_|refine Z04 ?_|refine Z05 ?_|refine Z06 ?_|refine Z07 ?_|refine Z08 ?_|refine Z09 ?_|refine Z10 ?_|refine Z11 ?_
    |refine Z12 ?_|refine Z13 ?_|refine Z14 ?_|refine Z15 ?_|refine Z16 ?_|refine Z17 ?_|refine Z18 ?_|refine Z36 ?_|refine Z37 ?_|refine Z38 ?_|refine Z42 ?_
    |refine Z44 ?_|refine Z45 ?_|refine Z70 ?_|refine Z71 ?_|refine Z74 ?_|refine Z80 ?_|refine Z84 fun _ => ?_|refine Z85 fun _ => ?_)
  refine st_cond (by rfl) (fun h => ?_) (fun h => ?_)
  · have hwb := word_byte (V xs) (n - 1 - i)
    rw [← V_getD hx, ← Nat.mod_eq_of_lt (a := 8 * ((n - 1 - i) % 8)) (b := 18446744073709551616) (by omega)] at hwb
    have hnx := octs_next (V xs) n i h
    have htl : ((octs (V xs) n).take i).length = i := by rw [List.length_take, hol]; omega
    repeat (first
      |(refine st_callV (by rfl) (by rfl) (by rfl) (at3_spec s xs ((n - 1 - i) / 8) (by omega)) (RdW.old hr) (by rfl) ?_)
      |(refine st_shr (by rfl) (by rfl) (show 8 * ((n - 1 - i) % 8) ≤ 64 by omega) (by rfl) ?_)
      |(refine st_buildSliceN (vs := [xs.getD ((n - 1 - i) / 8) 0 >>> (8 * ((n - 1 - i) % 8) % 18446744073709551616) % 256]) (kk := .u8) (by rfl) (by rfl) (by rfl) (by rfl) (by rfl) (by rfl) (by rfl) (by rfl) fun _ => ?_)
      |refine Z01 ?_|refine Z02 ?_|refine Z03 ?_|refine Z04 ?_|refine Z05 ?_|refine Z06 ?_|refine Z07 ?_|refine Z08 ?_|refine Z09 ?_|refine Z10 ?_|refine Z11 ?_
      |refine Z12 ?_|refine Z13 ?_|refine Z14 ?_|refine Z15 ?_|refine Z16 ?_|refine Z17 ?_|refine Z18 ?_|refine Z36 ?_|refine Z37 ?_|refine Z38 ?_|refine Z42 ?_
      |refine Z44 ?_|refine Z45 ?_|refine Z70 ?_|refine Z71 ?_|refine Z74 ?_|refine Z80 ?_|refine Z84 fun _ => ?_|refine Z85 fun _ => ?_)
    rw [hwb, ← hnx]
    exact st_round (i + 1, _) (by show i + 1 ≤ n; omega) (by show n - (i + 1) < n - i; omega) (by repeat (first | apply subL.nil | refine subL.cons (by rfl) ?_)) (by repeat (first | apply SubW.nil | refine SubW.cons (by repeat (first | apply Find.here | apply Find.there)) ?_))
  · have hie : i = n := by omega
    subst hie
    rw [List.take_of_length_le (by omega)]
    repeat (first
      |refine Z01 ?_|refine Z02 ?_|refine Z03 ?_|refine Z04 ?_|refine Z05 ?_|refine Z06 ?_|refine Z07 ?_|refine Z08 ?_|refine Z09 ?_|refine Z10 ?_|refine Z11 ?_
      |refine Z12 ?_|refine Z13 ?_|refine Z14 ?_|refine Z15 ?_|refine Z16 ?_|refine Z17 ?_|refine Z18 ?_|refine Z36 ?_|refine Z37 ?_|refine Z38 ?_|refine Z42 ?_
      |refine Z44 ?_|refine Z45 ?_|refine Z70 ?_|refine Z71 ?_|refine Z74 ?_|refine Z80 ?_|refine Z84 fun _ => ?_|refine Z85 fun _ => ?_)
    exact Ze1 fun _ hw => post_of hw (Wout := [.sl u ((octs (V xs) i).map (N .u8)) 5]) (by exact (by repeat (first | apply SubW.nil | refine SubW.cons (by repeat (first | apply Find.here | apply Find.there)) ?_))) rfl

theorem put_plus {w x j : Nat} (h : w + x * 256 ^ j < W) : (w + x <<< (8 * j) % 18446744073709551616) % 18446744073709551616 = w + x * 256 ^ j := by
  have hW : W = 18446744073709551616 := rfl
  rw [Nat.shiftLeft_eq, Nat.pow_mul, show (2 : Nat) ^ 8 = 256 from rfl, Nat.mod_eq_of_lt (a := x * 256 ^ j) (by omega), Nat.mod_eq_of_lt (by omega)]

set_option maxHeartbeats 1000000 in
theorem words3_spec (s : Value) (bs : List Nat) (hb : Lt 256 bs) (hl : bs.length < 16777216) :
    Spec Try.prog 25 [s] (fun w => Rd w s (bs.map (N .u8))) [] (fun v Wr => Wr = [.sl v ((D ((bs.length + 7) / 8) (bval bs)).map (N .u64)) 30]) := by
  refine mk_spec Try.func25 rfl rfl rfl fun w hr => ?_
  have hr := RdC.mk0 hr
  have hfit := words_fit hb
  obtain ⟨n, hn⟩ : ∃ n, n = (bs.length + 7) / 8 := ⟨_, rfl⟩
  rw [← hn] at hfit
  repeat (first
    |refine Z01 ?_|refine Z02 ?_|refine Z03 ?_|refine Z04 ?_|refine Z05 ?_|refine Z06 ?_|refine Z07 ?_|refine Z08 ?_|refine Z09 ?_|refine Z10 ?_|refine Z11 ?_
    |refine Z12 ?_|refine Z13 ?_|refine Z14 ?_|refine Z15 ?_|refine Z16 ?_|refine Z17 ?_|refine Z18 ?_|refine Z20 ?_|refine Z21 ?_|refine Z22 ?_|refine Z23 ?_
    |refine Z24 ?_|refine Z25 ?_|refine Z26 ?_|refine Z27 ?_|refine Z28 ?_|refine Z29 ?_|refine Z30 ?_|refine Z31 ?_|refine Z32 ?_|refine Z33 ?_|refine Z36 ?_
    |refine Z37 ?_|refine Z38 ?_|refine Z43 ?_|refine Z44 ?_|refine Z45 ?_|refine Z58 ?_|refine Z59 ?_|refine Z67 ?_|refine Z70 ?_|refine Z71 ?_|refine Z74 ?_
    |refine Z80 ?_|refine Z83 fun _ => ?_)
  rename_i u
  rw [← hn]
  refine st_loop (ι := Nat) (fun i => i ≤ bs.length) (fun i => [(0, s), (3, u), (4, N .i64 i)]) (fun i => [.sl u ((D n (hi8 (bval bs) (bs.length - i))).map (N .u64)) 30]) (fun i => bs.length - i) 0 (by omega) (by repeat (first | apply subL.nil | refine subL.cons (by rfl) ?_)) (by rw [Nat.sub_zero, hi8_all (bval_lt hb), D_zero]; exact (by repeat (first | apply SubW.nil | refine SubW.cons (by repeat (first | apply Find.here | apply Find.there)) ?_))) ?_
  intro i hi
  have hDl := D_len n (hi8 (bval bs) (bs.length - i))
  repeat (first
    |refine Z01 ?_|refine Z02 ?_|refine Z03 ?_|refine Z04 ?_|refine Z05 ?_|refine Z06 ?_|refine Z07 ?_|refine Z08 ?_|refine Z09 ?_|refine Z10 ?_|refine Z11 ?_
    |refine Z12 ?_|refine Z13 ?_|refine Z14 ?_|refine Z15 ?_|refine Z16 ?_|refine Z17 ?_|refine Z18 ?_|refine Z20 ?_|refine Z21 ?_|refine Z22 ?_|refine Z23 ?_
    |refine Z24 ?_|refine Z25 ?_|refine Z26 ?_|refine Z27 ?_|refine Z28 ?_|refine Z29 ?_|refine Z30 ?_|refine Z31 ?_|refine Z32 ?_|refine Z33 ?_|refine Z36 ?_
    |refine Z37 ?_|refine Z38 ?_|refine Z43 ?_|refine Z44 ?_|refine Z45 ?_|refine Z58 ?_|refine Z59 ?_|refine Z67 ?_|refine Z70 ?_|refine Z71 ?_|refine Z74 ?_
    |refine Z80 ?_|refine Z83 fun _ => ?_)
  refine st_cond (by rfl) (fun h => ?_) (fun h => ?_)
  · obtain ⟨k, hk⟩ : ∃ k, k = bs.length - 1 - i := ⟨_, rfl⟩
    have hk1 : bs.length - i = k + 1 := by omega
    rw [hk1] at hDl ⊢
    have hbi := hb.getD (by decide) i
    have hdig := bval_digit hb h
    rw [← hk] at hdig
    obtain ⟨_, p2, p3⟩ := put_byte (bval bs) k n (Nat.lt_of_le_of_lt (hi8_le _ _) hfit) (by omega)
    rw [hdig] at p2 p3
    have hwd := D_getD n (hi8 (bval bs) (k + 1)) (k / 8) (by omega)
    have hkl : k / 8 < n := by omega
    have hxm : bs.getD i 0 % 18446744073709551616 = bs.getD i 0 := Nat.mod_eq_of_lt (by omega)
    repeat (first
      |(rw [← hk])|refine Z01 ?_|refine Z02 ?_|refine Z03 ?_|refine Z04 ?_|refine Z05 ?_|refine Z06 ?_|refine Z07 ?_|refine Z08 ?_|refine Z09 ?_|refine Z10 ?_
      |refine Z11 ?_|refine Z12 ?_|refine Z13 ?_|refine Z14 ?_|refine Z15 ?_|refine Z16 ?_|refine Z17 ?_|refine Z18 ?_|refine Z20 ?_|refine Z21 ?_|refine Z22 ?_
      |refine Z23 ?_|refine Z24 ?_|refine Z25 ?_|refine Z26 ?_|refine Z27 ?_|refine Z28 ?_|refine Z29 ?_|refine Z30 ?_|refine Z31 ?_|refine Z32 ?_|refine Z33 ?_
      |refine Z36 ?_|refine Z37 ?_|refine Z38 ?_|refine Z43 ?_|refine Z44 ?_|refine Z45 ?_|refine Z58 ?_|refine Z59 ?_|refine Z67 ?_|refine Z70 ?_|refine Z71 ?_
      |refine Z74 ?_|refine Z80 ?_|refine Z83 fun _ => ?_)
    refine st_draw1 (by rfl) ?_
    repeat (first
      |refine Zqf (by intro _ _ _;(first
        |refine Z01 ?_|refine Z02 ?_|refine Z15 ?_|refine Z16 ?_|refine Z17 ?_|refine Z18 ?_|refine Z20 ?_|refine Z21 ?_|refine Z22 ?_|refine Z23 ?_|refine Z33 ?_
        |refine Z36 ?_|refine Z37 ?_|refine Z38 ?_|refine Z43 ?_|refine Z44 ?_|refine Z45 ?_|refine Z58 ?_|refine Z59 ?_|refine Z70 ?_|refine Z71 ?_|refine Z74 ?_
        |refine Z80 ?_);exact Zq) ?_
      |refine Zqp (by intro _ _ _;(first
        |refine Z24 ?_|refine Z25 ?_|refine Z26 ?_|refine Z27 ?_|refine Z28 ?_|refine Z67 ?_|refine Z23 ?_|refine Z20 ?_|refine Z21 ?_);exact Zq) ?_
      |refine Zqe (by intro _ _ _;(first
        |refine Z29 ?_|refine Z30 ?_|refine Z31 ?_|refine Z32 ?_);exact Zqq) ?_
      |refine Zqn ?_)
    refine Zq0 ?_ (by kernel_rfl)
    rw [hwd, hxm, Nat.mod_eq_of_lt (a := 8 * (k % 8)) (by omega), put_plus p2, ← p3]
    have hkk : k = bs.length - (i + 1) := by omega
    rw [hkk]
    repeat (first
      |refine Z01 ?_|refine Z02 ?_|refine Z03 ?_|refine Z04 ?_|refine Z05 ?_|refine Z06 ?_|refine Z07 ?_|refine Z08 ?_|refine Z09 ?_|refine Z10 ?_|refine Z11 ?_
      |refine Z12 ?_|refine Z13 ?_|refine Z14 ?_|refine Z15 ?_|refine Z16 ?_|refine Z17 ?_|refine Z18 ?_|refine Z20 ?_|refine Z21 ?_|refine Z22 ?_|refine Z23 ?_
      |refine Z24 ?_|refine Z25 ?_|refine Z26 ?_|refine Z27 ?_|refine Z28 ?_|refine Z29 ?_|refine Z30 ?_|refine Z31 ?_|refine Z32 ?_|refine Z33 ?_|refine Z36 ?_
      |refine Z37 ?_|refine Z38 ?_|refine Z43 ?_|refine Z44 ?_|refine Z45 ?_|refine Z58 ?_|refine Z59 ?_|refine Z67 ?_|refine Z70 ?_|refine Z71 ?_|refine Z74 ?_
      |refine Z80 ?_|refine Z83 fun _ => ?_)
    exact st_round (i + 1) (by omega) (by omega) (by repeat (first | apply subL.nil | refine subL.cons (by rfl) ?_)) (by repeat (first | apply SubW.nil | refine SubW.cons (by repeat (first | apply Find.here | apply Find.there)) ?_))
  · have hie : i = bs.length := by omega
    subst hie
    rw [Nat.sub_self, hi8_0]
    repeat (first
      |refine Z01 ?_|refine Z02 ?_|refine Z03 ?_|refine Z04 ?_|refine Z05 ?_|refine Z06 ?_|refine Z07 ?_|refine Z08 ?_|refine Z09 ?_|refine Z10 ?_|refine Z11 ?_
      |refine Z12 ?_|refine Z13 ?_|refine Z14 ?_|refine Z15 ?_|refine Z16 ?_|refine Z17 ?_|refine Z18 ?_|refine Z20 ?_|refine Z21 ?_|refine Z22 ?_|refine Z23 ?_
      |refine Z24 ?_|refine Z25 ?_|refine Z26 ?_|refine Z27 ?_|refine Z28 ?_|refine Z29 ?_|refine Z30 ?_|refine Z31 ?_|refine Z32 ?_|refine Z33 ?_|refine Z36 ?_
      |refine Z37 ?_|refine Z38 ?_|refine Z43 ?_|refine Z44 ?_|refine Z45 ?_|refine Z58 ?_|refine Z59 ?_|refine Z67 ?_|refine Z70 ?_|refine Z71 ?_|refine Z74 ?_
      |refine Z80 ?_|refine Z83 fun _ => ?_)
    refine Ze1 fun _ hw => post_of hw (Wout := [.sl u ((D n (bval bs)).map (N .u64)) 30]) ?_ rfl
    exact (by repeat (first | apply SubW.nil | refine SubW.cons (by repeat (first | apply Find.here | apply Find.there)) ?_))
end Go.Proofs.Ytbjfjkmidhfgcaa.L
