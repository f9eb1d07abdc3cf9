/- The numbers modulo r: inverses and bytes, the program's walks. Conditions: as each statement says. -/
import Derived.Test.YtbjfjkmidhfgcaaAuto
import Derived.Test.YtbjfjkmidhfgcaaPerm
import Derived.Test.YtbjfjkmidhfgcaaMore
import Derived.Test.YtbjfjkmidhfgcaaProg
import Derived.Test.YtbjfjkmidhfgcaaNum
import Derived.Test.YtbjfjkmidhfgcaaLmb
import Derived.Test.YtbjfjkmidhfgcaaLmd
import Derived.Test.YtbjfjkmidhfgcaaLmo
import Derived.Test.YtbjfjkmidhfgcaaLmk
import Derived.Test.YtbjfjkmidhfgcaaScope
import Derived.Test.YtbjfjkmidhfgcaaJoin
import Derived.Test.YtbjfjkmidhfgcaaLma
import Derived.Test.YtbjfjkmidhfgcaaLmz
import Derived.Test.YtbjfjkmidhfgcaaLmc
import Derived.Test.YtbjfjkmidhfgcaaLme
import Derived.Test.YtbjfjkmidhfgcaaLmf
import Derived.Test.YtbjfjkmidhfgcaaLmh
import Derived.Test.YtbjfjkmidhfgcaaLmj
import Derived.Test.YtbjfjkmidhfgcaaShaT
import Derived.Test.YtbjfjkmidhfgcaaLmp
import Derived.Test.YtbjfjkmidhfgcaaGho
import Derived.Test.YtbjfjkmidhfgcaaBld
import Derived.Test.YtbjfjkmidhfgcaaPq
import Derived.Test.YtbjfjkmidhfgcaaFra
namespace Go.Proofs.Ytbjfjkmidhfgcaa.L
open Go Go.Proofs
set_option maxRecDepth 100000
attribute [local irreducible] Code.wp wpList Af bodyPost L.Go
open Num
attribute [local simp] D_len octs_len

theorem pow_dbl (a x m : Nat) : (a ^ x % m) * (a ^ x % m) % m = a ^ (2 * x) % m := by
  rw [← Nat.mul_mod, ← Nat.pow_add, Nat.two_mul]
theorem pow_inc (a x m : Nat) : (a ^ x % m) * a % m = a ^ (x + 1) % m := by
  rw [Nat.pow_succ, Nat.mul_mod, Nat.mod_mod, ← Nat.mul_mod]
theorem bit_and0 {ys : List Nat} (hy : Lt 18446744073709551616 ys) (i : Nat) : (ys.getD (i / 64) 0 >>> (i % 64) % 18446744073709551616 &&& 1 % 18446744073709551616) = V ys / 2 ^ i % 2 := by
  rw [show 1 % 18446744073709551616 = 1 from rfl, Nat.and_one_is_mod, Nat.mod_mod_of_dvd _ (by decide), V_getD hy]
  exact word_bit _ _
theorem sub2 : bwn (V (D 4 r)) (V [2]) = 0 := by rw [V_D' r_lt, V_one]; unfold bwn; rw [if_neg (by decide +kernel)]
theorem sub2' : D 4 (sbn 4 (V (D 4 r)) (V [2])) = D 4 (r - 2) := by
  rw [V_D' r_lt, V_one, sbn, show r + W ^ 4 - 2 = r - 2 + W ^ 4 by have : 2 ≤ r := by decide +kernel
                                                                   omega, ← D_mod, Nat.add_mod_right, D_mod]
theorem r2_lt : r - 2 < W ^ 4 := Nat.lt_of_le_of_lt (Nat.sub_le _ _) r_lt
theorem r2_bits : (r - 2) / 2 ^ 256 = 0 := by decide +kernel

theorem one4 : ([1] ++ List.replicate (4 - [1].length) 0 : List Nat) = D 4 1 := one_lit
theorem rpow0 (a : Nat) : a ^ ((r - 2) / 2 ^ 256) % r = 1 := by rw [r2_bits, Nat.pow_zero]; decide +kernel
set_option maxHeartbeats 2000000 in
theorem finv_spec {a : Nat} (ha : a < W ^ 4) : Spec Try.prog 57 [LV .u64 (D 4 a)] NoPre [] (IsV (LV .u64 (D 4 (a ^ (r - 2) % r)))) := by
  refine mk_spec Try.func57 rfl rfl rfl fun w _ => ?_
  have hla := D_len 4 a
  have hlr := D_len 4 r
  have hl1 := D_len 4 1
  have hld := D_len 4 (r - 2)
  repeat (first
    |(rw [one4])|(refine st_alloc (v := LV .u64 (List.replicate 4 0)) (by rfl) (by rfl) fun _ => ?_)
    |(refine st_buildP (kk := .u64) (vs := [1]) (by rfl) (by rfl) (by rfl) (by rfl) (by rfl) (by rfl) (by rfl) (by rfl) ?_)
    |(refine st_callV (by rfl) (by rfl) (by rfl) (fR_spec) (fun _ _ => trivial) (by rfl) ?_)
    |(refine st_buildSliceN (vs := [2]) (kk := .u64) (by rfl) (by rfl) (by rfl) (by rfl) (by rfl) (by rfl) (by rfl) (by rfl) fun _ => ?_)
    |(((refine st_call (by rfl) (by rfl) (by rfl) (sub_spec _ _ (D 4 r) [2] (D_lt _ _) (fun x hx => by simp at hx; subst hx; decide) (by omega) (by decide)) .nil (fun w hw => ⟨RdW.arrAll (m := 4) (by repeat (first | apply Find.here | apply Find.there)) hlr w hw, RdW.own (by repeat (first | apply Find.here | apply Find.there)) w hw⟩) (by rfl) ?_; rintro _ _ ⟨u, rfl, rfl⟩); rw [hlr, show max 4 [2].length = 4 from rfl, sub2, sub2']))
    |refine Z01 ?_|refine Z02 ?_|refine Z03 ?_|refine Z04 ?_|refine Z05 ?_|refine Z06 ?_|refine Z07 ?_|refine Z08 ?_|refine Z09 ?_|refine Z10 ?_|refine Z11 ?_
    |refine Z12 ?_|refine Z13 ?_|refine Z14 ?_|refine Z15 ?_|refine Z16 ?_|refine Z17 ?_|refine Z18 ?_|refine Z19 ?_|refine Z22 ?_|refine Z23 ?_|refine Z24 ?_
    |refine Z25 ?_|refine Z26 ?_|refine Z27 ?_|refine Z28 ?_|refine Z29 ?_|refine Z30 ?_|refine Z31 ?_|refine Z32 ?_|refine Z37 ?_|refine Z38 ?_|refine Z40 ?_
    |refine Z42 ?_|refine Z62 ?_|refine Z63 ?_|refine Z64 ?_|refine Z65 ?_|refine Z67 ?_|refine Z70 ?_|refine Z71 ?_|refine Z81 fun _ => ?_|refine Z82 fun _ => ?_
    |refine Z85 fun _ => ?_)
  rename_i b1 b2 b3 s2 b6
  refine st_loop (ι := Nat) (fun i => i ≤ 256) (fun i => [(1, pt b1 0), (2, pt b2 0), (4, u), (6, pt b6 0), (17, N .i64 i)]) (fun i => [.blk b6 (LV .u64 (D 4 (a ^ ((r - 2) / 2 ^ (256 - i)) % r))) 39, .sl u ((D 4 (r - 2)).map (N .u64)) 30, .blk b1 (LV .u64 (D 4 a)) 39, .blk b2 (LV .u64 (List.replicate 4 0)) 39]) (fun i => 256 - i) 0 (by omega) (by repeat (first | apply subL.nil | refine subL.cons (by rfl) ?_)) (by rw [Nat.sub_zero, rpow0]; exact (by repeat (first | apply SubW.nil | refine SubW.cons (by repeat (first | apply Find.here | apply Find.there)) ?_))) ?_
  intro i hi
  have hle := fun x => D_len 4 (a ^ x % r)
  by_cases h : i < 256
  · obtain ⟨k, hk⟩ : ∃ k, k = 255 - i := ⟨_, rfl⟩
    have hk1 : 256 - i = k + 1 := by omega
    have hkk : k / 64 < 4 := by omega
    rw [hk1]
    have hst := bit_step (r - 2) k
    have hbt := bit_and0 (D_lt 4 (r - 2)) k
    rw [V_D' r2_lt] at hbt
    generalize (r - 2) / 2 ^ (k + 1) = x at hst ⊢
    have hl2 := hle (2 * x)
    have hlx := hle x
    repeat (first
      |(refine st_cmp (r := true) (by rfl) (by rfl) (cmpN_t (by first | (simp only [cmpP]; done) | (simp only [cmpP]; omega))) (by rfl) ?_)|(rw [← hk])
      |((refine st_callV (by rfl) (by rfl) (by rfl) (fmul_spec (a := a ^ x % r) (b := a ^ x % r) (mod_r _) (mod_r _)) (fun _ _ => trivial) (by rfl) ?_; rw [pow_dbl]))
      |(refine st_shr (by rfl) (by rfl) (show k % 64 ≤ 64 by omega) (by rfl) ?_)|(rw [hbt])|refine Z01 ?_|refine Z02 ?_|refine Z03 ?_|refine Z04 ?_|refine Z05 ?_
      |refine Z06 ?_|refine Z07 ?_|refine Z08 ?_|refine Z09 ?_|refine Z10 ?_|refine Z11 ?_|refine Z12 ?_|refine Z13 ?_|refine Z14 ?_|refine Z15 ?_|refine Z16 ?_
      |refine Z17 ?_|refine Z18 ?_|refine Z19 ?_|refine Z22 ?_|refine Z23 ?_|refine Z24 ?_|refine Z25 ?_|refine Z26 ?_|refine Z27 ?_|refine Z28 ?_|refine Z29 ?_
      |refine Z30 ?_|refine Z31 ?_|refine Z32 ?_|refine Z37 ?_|refine Z38 ?_|refine Z40 ?_|refine Z42 ?_|refine Z62 ?_|refine Z63 ?_|refine Z64 ?_|refine Z65 ?_
      |refine Z67 ?_|refine Z70 ?_|refine Z71 ?_|refine Z81 fun _ => ?_|refine Z82 fun _ => ?_|refine Z85 fun _ => ?_)
    have hki : 256 - (i + 1) = k := by omega
    refine st_cond (by rfl) (fun hb => ?_) (fun hb => ?_)
    · have hx1 : (r - 2) / 2 ^ k = 2 * x + 1 := by omega
      have hl3 := hle (2 * x + 1)
      repeat (first
        |((refine st_callV (by rfl) (by rfl) (by rfl) (fmul_spec (a := a ^ (2 * x) % r) (mod_r _) ha) (fun _ _ => trivial) (by rfl) ?_; rw [pow_inc]))|refine Z01 ?_
        |refine Z02 ?_|refine Z03 ?_|refine Z04 ?_|refine Z05 ?_|refine Z06 ?_|refine Z07 ?_|refine Z08 ?_|refine Z09 ?_|refine Z10 ?_|refine Z11 ?_|refine Z12 ?_
        |refine Z13 ?_|refine Z14 ?_|refine Z15 ?_|refine Z16 ?_|refine Z17 ?_|refine Z18 ?_|refine Z19 ?_|refine Z22 ?_|refine Z23 ?_|refine Z24 ?_|refine Z25 ?_
        |refine Z26 ?_|refine Z27 ?_|refine Z28 ?_|refine Z29 ?_|refine Z30 ?_|refine Z31 ?_|refine Z32 ?_|refine Z37 ?_|refine Z38 ?_|refine Z40 ?_|refine Z42 ?_
        |refine Z62 ?_|refine Z63 ?_|refine Z64 ?_|refine Z65 ?_|refine Z67 ?_|refine Z70 ?_|refine Z71 ?_|refine Z81 fun _ => ?_|refine Z82 fun _ => ?_
        |refine Z85 fun _ => ?_)
      exact st_round (i + 1) (by omega) (by omega) (by repeat (first | apply subL.nil | refine subL.cons (by rfl) ?_)) (by rw [hki, hx1]; exact (by repeat (first | apply SubW.nil | refine SubW.cons (by repeat (first | apply Find.here | apply Find.there)) ?_)))
    · have hx1 : (r - 2) / 2 ^ k = 2 * x := by omega
      repeat (first
        |refine Z01 ?_|refine Z02 ?_|refine Z03 ?_|refine Z04 ?_|refine Z05 ?_|refine Z06 ?_|refine Z07 ?_|refine Z08 ?_|refine Z09 ?_|refine Z10 ?_|refine Z11 ?_
        |refine Z12 ?_|refine Z13 ?_|refine Z14 ?_|refine Z15 ?_|refine Z16 ?_|refine Z17 ?_|refine Z18 ?_|refine Z19 ?_|refine Z22 ?_|refine Z23 ?_|refine Z24 ?_
        |refine Z25 ?_|refine Z26 ?_|refine Z27 ?_|refine Z28 ?_|refine Z29 ?_|refine Z30 ?_|refine Z31 ?_|refine Z32 ?_|refine Z37 ?_|refine Z38 ?_|refine Z40 ?_
        |refine Z42 ?_|refine Z62 ?_|refine Z63 ?_|refine Z64 ?_|refine Z65 ?_|refine Z67 ?_|refine Z70 ?_|refine Z71 ?_|refine Z81 fun _ => ?_|refine Z82 fun _ => ?_
        |refine Z85 fun _ => ?_)
      exact st_round (i + 1) (by omega) (by omega) (by repeat (first | apply subL.nil | refine subL.cons (by rfl) ?_)) (by rw [hki, hx1]; exact (by repeat (first | apply SubW.nil | refine SubW.cons (by repeat (first | apply Find.here | apply Find.there)) ?_)))
  · have hie : i = 256 := by omega
    subst hie
    have he := hle (r - 2)
    rw [Nat.sub_self, Nat.pow_zero, Nat.div_one]
    repeat (first
      |(refine st_cmp (r := false) (by rfl) (by rfl) (cmpN_f (by first | (simp only [cmpQ]; done) | (simp only [cmpQ]; omega))) (by rfl) ?_)|refine Z01 ?_|refine Z02 ?_
      |refine Z03 ?_|refine Z04 ?_|refine Z05 ?_|refine Z06 ?_|refine Z07 ?_|refine Z08 ?_|refine Z09 ?_|refine Z10 ?_|refine Z11 ?_|refine Z12 ?_|refine Z13 ?_
      |refine Z14 ?_|refine Z15 ?_|refine Z16 ?_|refine Z17 ?_|refine Z18 ?_|refine Z19 ?_|refine Z22 ?_|refine Z23 ?_|refine Z24 ?_|refine Z25 ?_|refine Z26 ?_
      |refine Z27 ?_|refine Z28 ?_|refine Z29 ?_|refine Z30 ?_|refine Z31 ?_|refine Z32 ?_|refine Z37 ?_|refine Z38 ?_|refine Z40 ?_|refine Z42 ?_|refine Z62 ?_
      |refine Z63 ?_|refine Z64 ?_|refine Z65 ?_|refine Z67 ?_|refine Z70 ?_|refine Z71 ?_|refine Z81 fun _ => ?_|refine Z82 fun _ => ?_|refine Z85 fun _ => ?_)
    refine Zec fun _ hw => post_of hw SubW.nil ⟨?_, rfl⟩
    rfl

theorem foctets_spec (s : Value) (bs : List Nat) (hb : Lt 256 bs) (hl : bs.length < 1000000) :
    Spec Try.prog 53 [s] (fun w => Rd w s (bs.map (N .u8))) [] (IsV (LV .u64 (D 4 (bval bs % r)))) := by
  refine mk_spec Try.func53 rfl rfl rfl fun w hr => ?_
  have hr := RdC.mk0 hr
  have hv := V_D' (words_fit hb)
  have hml := D_len 4 (bval bs % r)
  have hdl := D_len ((bs.length + 7) / 8) (bval bs)
  repeat (first
    |(refine st_alloc (v := LV .u64 (List.replicate 4 0)) (by rfl) (by rfl) fun _ => ?_)
    |((refine st_call (by rfl) (by rfl) (by rfl) (words_spec s bs hb (by omega)) .nil (RdW.old hr) (by rfl) ?_; rintro u _ rfl))
    |((refine st_callV (by rfl) (by rfl) (by rfl) (fwide_spec _ (D ((bs.length + 7) / 8) (bval bs)) (D_lt _ _) (by omega)) (RdW.own (by repeat (first | apply Find.here | apply Find.there))) (by rfl) ?_; rw [hv]))
    |refine Z01 ?_|refine Z03 ?_|refine Z04 ?_|refine Z05 ?_|refine Z06 ?_|refine Z07 ?_|refine Z08 ?_|refine Z09 ?_|refine Z10 ?_|refine Z11 ?_|refine Z12 ?_
    |refine Z13 ?_|refine Z14 ?_|refine Z29 ?_|refine Z30 ?_|refine Z31 ?_|refine Z32 ?_|refine Z82 fun _ => ?_)
  refine Zec fun _ hw => post_of hw SubW.nil ⟨?_, rfl⟩
  rfl

theorem fbytes_spec {a : Nat} (ha : a < W ^ 4) : Spec Try.prog 55 [LV .u64 (D 4 a)] NoPre [] (IsV (LV .u8 (octs (a % r) 32))) := by
  refine mk_spec Try.func55 rfl rfl rfl fun w _ => ?_
  have hla := D_len 4 a
  have hl1 := D_len 4 (a % r)
  have hol := octs_len (a % r) 32
  have hv := V_D' (mod_r a)
  have htk : (octs (a % r) 32).take 32 = octs (a % r) 32 := List.take_of_length_le (by omega)
  repeat (first
    |(refine st_alloc (v := LV .u8 (List.replicate 32 0)) (by rfl) (by rfl) fun _ => ?_)
    |(refine st_callV (by rfl) (by rfl) (by rfl) (freduce_spec ha) (fun _ _ => trivial) (by rfl) ?_)
    |(((refine st_call (by rfl) (by rfl) (by rfl) (octets_spec _ (D 4 (a % r)) 32 (D_lt _ _) (by omega) (by decide)) .nil (RdW.arrAll (m := 4) (by repeat (first | apply Find.here | apply Find.there)) hl1) (by rfl) ?_; rintro u _ rfl); rw [hv]))
    |(rw [htk])|refine Z03 ?_|refine Z04 ?_|refine Z05 ?_|refine Z06 ?_|refine Z07 ?_|refine Z08 ?_|refine Z09 ?_|refine Z10 ?_|refine Z11 ?_|refine Z12 ?_|refine Z13 ?_
    |refine Z14 ?_|refine Z24 ?_|refine Z25 ?_|refine Z26 ?_|refine Z27 ?_|refine Z28 ?_|refine Z29 ?_|refine Z30 ?_|refine Z31 ?_|refine Z32 ?_|refine Z62 ?_
    |refine Z63 ?_|refine Z64 ?_|refine Z66 ?_|refine Z67 ?_|refine Z81 fun _ => ?_|refine Z82 fun _ => ?_)
  refine Zec fun _ hw => post_of hw SubW.nil ⟨?_, rfl⟩
  rfl

/-! ## The number of 32 bytes -/
theorem fD_eq {a b : Nat} (ha : a < W ^ 4) (hb : b < W ^ 4) : (D 4 a = D 4 b) = (a = b) := by
  refine propext ⟨fun h => ?_, fun h => by rw [h]⟩
  have := D_inj h
  rwa [Nat.mod_eq_of_lt ha, Nat.mod_eq_of_lt hb] at this
theorem frombytes_len (s : Value) (bs : List Nat) (hl : bs.length < 9223372036854775808) (h : bs.length ≠ 32) :
    Spec Try.prog 51 [s] (fun w => Rd w s (bs.map (N .u8))) [] (IsV (.tuple #[LV .u64 (D 4 0), N .i64 60])) := by
  refine mk_spec Try.func51 rfl rfl rfl fun w hr => ?_
  have hr := RdC.mk0 hr
  repeat (first
    |(refine st_alloc (v := LV .u64 (List.replicate 4 0)) (by rfl) (by rfl) fun _ => ?_)
    |(refine st_cmp (r := true) (by rfl) (by rfl) (cmpN_t (by first | (simp only [cmpP]; done) | (simp only [cmpP]; omega))) (by rfl) ?_)
    |(refine st_buildP (kk := .u64) (vs := []) (by rfl) (by rfl) (by rfl) (by rfl) (by rfl) (by rfl) (by rfl) (by rfl) ?_)|refine Z01 ?_|refine Z02 ?_|refine Z03 ?_
    |refine Z04 ?_|refine Z05 ?_|refine Z06 ?_|refine Z07 ?_|refine Z08 ?_|refine Z09 ?_|refine Z10 ?_|refine Z11 ?_|refine Z12 ?_|refine Z13 ?_|refine Z14 ?_
    |refine Z17 ?_|refine Z18 ?_|refine Z20 ?_|refine Z21 ?_|refine Z24 ?_|refine Z25 ?_|refine Z26 ?_|refine Z27 ?_|refine Z28 ?_|refine Z29 ?_|refine Z30 ?_
    |refine Z31 ?_|refine Z32 ?_|refine Z58 ?_|refine Z59 ?_|refine Z65 ?_|refine Z66 ?_|refine Z67 ?_|refine Z77 ?_|refine Z78 ?_|refine Z79 ?_|refine Z82 fun _ => ?_)
  refine st_endc2_LV (by rfl) (by rfl) (by rfl) (by repeat (first | apply Find.here | apply Find.there)) (by rfl) (by rfl) (by first | with_reducible assumption | (simp [*]; done)) fun _ hw => post_of hw SubW.nil ⟨?_, rfl⟩
  rw [D_zero]; rfl
theorem frombytes_32 (s : Value) (bs : List Nat) (hb : Lt 256 bs) (h : bs.length = 32) :
    Spec Try.prog 51 [s] (fun w => Rd w s (bs.map (N .u8))) [] (IsV (if bval bs < r then .tuple #[LV .u64 (D 4 (bval bs)), N .i64 0] else .tuple #[LV .u64 (D 4 0), N .i64 61])) := by
  refine mk_spec Try.func51 rfl rfl rfl fun w hr => ?_
  have hr := RdC.mk0 hr
  have hdl := D_len 4 (bval bs)
  have hfit := words_fit hb
  rw [h, show (32 + 7) / 8 = 4 from rfl] at hfit
  have hdm := D_len 4 (bval bs % r)
  have htk : (D 4 (bval bs)).take 4 = D 4 (bval bs) := List.take_of_length_le (by omega)
  repeat (first
    |(refine st_alloc (v := LV .u64 (List.replicate 4 0)) (by rfl) (by rfl) fun _ => ?_)
    |(refine st_cmp (r := false) (by rfl) (by rfl) (cmpN_f (by first | (simp only [cmpQ]; done) | (simp only [cmpQ]; omega))) (by rfl) ?_)
    |(((refine st_call (by rfl) (by rfl) (by rfl) (words_spec s bs hb (by omega)) .nil (RdW.old hr) (by rfl) ?_; rintro u _ rfl); rw [h, show (32 + 7) / 8 = 4 from rfl]))
    |(rw [htk])|refine Z01 ?_|refine Z02 ?_|refine Z03 ?_|refine Z04 ?_|refine Z05 ?_|refine Z06 ?_|refine Z07 ?_|refine Z08 ?_|refine Z09 ?_|refine Z10 ?_|refine Z11 ?_
    |refine Z12 ?_|refine Z13 ?_|refine Z14 ?_|refine Z17 ?_|refine Z18 ?_|refine Z20 ?_|refine Z21 ?_|refine Z24 ?_|refine Z25 ?_|refine Z26 ?_|refine Z27 ?_
    |refine Z28 ?_|refine Z29 ?_|refine Z30 ?_|refine Z31 ?_|refine Z32 ?_|refine Z58 ?_|refine Z59 ?_|refine Z65 ?_|refine Z66 ?_|refine Z67 ?_|refine Z77 ?_
    |refine Z78 ?_|refine Z79 ?_|refine Z82 fun _ => ?_)
  refine st_perm [0, 1, 2, 3] (by rfl) ?_
  repeat (first
    |refine Zpf (by rfl)
      (by intro _ _ _;(first
      |refine Z01 ?_|refine Z02 ?_|refine Z17 ?_|refine Z18 ?_|refine Z20 ?_|refine Z21 ?_|refine Z58 ?_|refine Z59 ?_|refine Z65 ?_|refine Z66 ?_|refine Z77 ?_
      |refine Z78 ?_|refine Z79 ?_);exact Zq) ?_
    |refine Zpp (by rfl)
      (by intro _ _ _;(first
      |refine Z24 ?_|refine Z25 ?_|refine Z26 ?_|refine Z27 ?_|refine Z28 ?_|refine Z67 ?_|refine Z20 ?_|refine Z21 ?_|refine Z66 ?_);exact Zq) ?_
    |refine Zpp (by rfl)
      (by intro _ _ _;refine st_callV (by rfl) (by rfl) (by rfl) (freduce_spec hfit) (fun _ _ => trivial) (by rfl) ?_;exact Zq) ?_
    |refine Zps (by rfl)
      (by intro _ _ _;(first
      |refine Z29 ?_|refine Z30 ?_|refine Z31 ?_|refine Z32 ?_);exact Zqq) ?_
    |refine Zpn (by rfl)
      (by intro _ _ _;(first
      |refine Z82 fun _ => ?_);exact Zpx) fun _ => ?_
    |refine Zpo (by rfl) ?_)
  refine Zp0 ?_
  by_cases hlt : bval bs < r
  · rw [if_pos hlt]
    have he : (!decide (D 4 (bval bs % r) = D 4 (bval bs))) = false := by rw [Nat.mod_eq_of_lt hlt]; simp
    repeat (first
      |(rw [he])|refine Z01 ?_|refine Z02 ?_|refine Z03 ?_|refine Z04 ?_|refine Z05 ?_|refine Z06 ?_|refine Z07 ?_|refine Z08 ?_|refine Z09 ?_|refine Z10 ?_|refine Z11 ?_
      |refine Z12 ?_|refine Z13 ?_|refine Z14 ?_|refine Z17 ?_|refine Z18 ?_|refine Z20 ?_|refine Z21 ?_|refine Z24 ?_|refine Z25 ?_|refine Z26 ?_|refine Z27 ?_
      |refine Z28 ?_|refine Z29 ?_|refine Z30 ?_|refine Z31 ?_|refine Z32 ?_|refine Z58 ?_|refine Z59 ?_|refine Z65 ?_|refine Z66 ?_|refine Z67 ?_|refine Z77 ?_
      |refine Z78 ?_|refine Z79 ?_|refine Z82 fun _ => ?_)
    refine st_endc2_LV (by rfl) (by rfl) (by rfl) (by repeat (first | apply Find.here | apply Find.there)) (by rfl) (by rfl) (by first | with_reducible assumption | (simp [*]; done)) fun _ hw => post_of hw SubW.nil ⟨?_, rfl⟩
    rfl
  · rw [if_neg hlt]
    have he : (!decide (D 4 (bval bs % r) = D 4 (bval bs))) = true := by
      have := Nat.mod_lt (bval bs) r_pos
      rw [decide_eq_false (by rw [fD_eq (mod_r _) hfit]; omega)]; rfl
    repeat (first
      |(rw [he])|(refine st_buildP (kk := .u64) (vs := []) (by rfl) (by rfl) (by rfl) (by rfl) (by rfl) (by rfl) (by rfl) (by rfl) ?_)|refine Z01 ?_|refine Z02 ?_
      |refine Z03 ?_|refine Z04 ?_|refine Z05 ?_|refine Z06 ?_|refine Z07 ?_|refine Z08 ?_|refine Z09 ?_|refine Z10 ?_|refine Z11 ?_|refine Z12 ?_|refine Z13 ?_
      |refine Z14 ?_|refine Z17 ?_|refine Z18 ?_|refine Z20 ?_|refine Z21 ?_|refine Z24 ?_|refine Z25 ?_|refine Z26 ?_|refine Z27 ?_|refine Z28 ?_|refine Z29 ?_
      |refine Z30 ?_|refine Z31 ?_|refine Z32 ?_|refine Z58 ?_|refine Z59 ?_|refine Z65 ?_|refine Z66 ?_|refine Z67 ?_|refine Z77 ?_|refine Z78 ?_|refine Z79 ?_
      |refine Z82 fun _ => ?_)
    refine st_endc2_LV (by rfl) (by rfl) (by rfl) (by repeat (first | apply Find.here | apply Find.there)) (by rfl) (by rfl) (by first | with_reducible assumption | (simp [*]; done)) fun _ hw => post_of hw SubW.nil ⟨?_, rfl⟩
    rw [D_zero]; rfl
end Go.Proofs.Ytbjfjkmidhfgcaa.L
