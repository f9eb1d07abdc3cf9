/- The walk of the law of digits. Condition: as the statement says. -/
import Derived.Test.YtbjfjkmidhfgcaaAuto
import Derived.Test.YtbjfjkmidhfgcaaPerm
import Derived.Test.YtbjfjkmidhfgcaaMore
import Derived.Test.YtbjfjkmidhfgcaaProg
import Derived.Test.YtbjfjkmidhfgcaaNum
import Derived.Test.YtbjfjkmidhfgcaaLmb
import Derived.Test.YtbjfjkmidhfgcaaLmd
import Derived.Test.YtbjfjkmidhfgcaaLmo
import Derived.Test.YtbjfjkmidhfgcaaLmk
import Derived.Test.YtbjfjkmidhfgcaaScope
import Derived.Test.YtbjfjkmidhfgcaaJoin
import Derived.Test.YtbjfjkmidhfgcaaLma
import Derived.Test.YtbjfjkmidhfgcaaLmz
import Derived.Test.YtbjfjkmidhfgcaaLmc
import Derived.Test.YtbjfjkmidhfgcaaLme
import Derived.Test.YtbjfjkmidhfgcaaLmf
import Derived.Test.YtbjfjkmidhfgcaaLmh
import Derived.Test.YtbjfjkmidhfgcaaLmj
import Derived.Test.YtbjfjkmidhfgcaaShaT
import Derived.Test.YtbjfjkmidhfgcaaLmp
import Derived.Test.YtbjfjkmidhfgcaaLmq
import Derived.Test.YtbjfjkmidhfgcaaLmv
import Derived.Test.YtbjfjkmidhfgcaaLmw
import Derived.Test.YtbjfjkmidhfgcaaLmx
import Derived.Test.YtbjfjkmidhfgcaaLmy
import Derived.Test.YtbjfjkmidhfgcaaLna
import Derived.Test.YtbjfjkmidhfgcaaWin
import Derived.Test.YtbjfjkmidhfgcaaGho
import Derived.Test.YtbjfjkmidhfgcaaBld
import Derived.Test.YtbjfjkmidhfgcaaArr
import Derived.Test.YtbjfjkmidhfgcaaPq
import Derived.Test.YtbjfjkmidhfgcaaFra
import Derived.Test.YtbjfjkmidhfgcaaFrb
import Derived.Test.YtbjfjkmidhfgcaaFrc
import Derived.Test.YtbjfjkmidhfgcaaFrd
import Derived.Test.YtbjfjkmidhfgcaaFre
import Derived.Test.YtbjfjkmidhfgcaaFrf
import Derived.Test.YtbjfjkmidhfgcaaFrg
namespace Go.Proofs.Ytbjfjkmidhfgcaa.L
open Go Go.Proofs
set_option maxRecDepth 100000
attribute [local irreducible] Code.wp wpList Af bodyPost L.Go
open Num
attribute [local simp] D_len octs_len

theorem digits_law {w n A : Nat} (hw : 2 ≤ w) (h : A < 2 ^ n) : (digits w A).length ≤ n / w + 1 := by
  refine digits_len hw (Nat.le_trans (Nat.le_of_lt h) ?_)
  rw [← Nat.pow_mul, ← Nat.pow_add]
  refine Nat.pow_le_pow_right (by decide) ?_
  have h1 := Nat.div_add_mod n w
  have h2 := Nat.mod_lt n (show 0 < w by omega)
  omega

theorem rep_D (m : Nat) : List.replicate m 0 = D m 0 := (D_zero m).symm
set_option maxHeartbeats 8000000 in
theorem lawDigits6_spec (s : Value) (xs : List Nat) (hx : Lt 18446744073709551616 xs) (x63 : xs.length < 9223372036854775808) (n : Int) (hn : -9223372036854775808 ≤ n ∧ n < 9223372036854775808) :
    Spec Try.prog 8 [s, .int .i64 n] (fun w => Rd w s (xs.map (N .u64))) [] (IsV (.bool true)) := by
  refine mk_spec Try.func8 rfl rfl rfl fun wd hr0 => ?_
  have hr := RdC.mk0 hr0
  by_cases h1 : 12 < xs.length
  · repeat (first
      |(refine st_callV (by rfl) (by rfl) (by rfl) (awake6_spec) (fun _ _ => trivial) (by rfl) ?_)
      |(refine st_cmp (r := true) (by rfl) (by rfl) (cmpN_t (by first | (simp only [cmpP]; done) | (simp only [cmpP]; omega))) (by rfl) ?_)|refine Z01 ?_|refine Z02 ?_
      |refine Z03 ?_|refine Z04 ?_|refine Z05 ?_|refine Z06 ?_|refine Z07 ?_|refine Z08 ?_|refine Z09 ?_|refine Z10 ?_|refine Z11 ?_|refine Z12 ?_|refine Z13 ?_
      |refine Z14 ?_|refine Z15 ?_|refine Z16 ?_|refine Z17 ?_|refine Z18 ?_|refine Z19 ?_|refine Z20 ?_|refine Z21 ?_|refine Z22 ?_|refine Z23 ?_|refine Z24 ?_
      |refine Z25 ?_|refine Z26 ?_|refine Z27 ?_|refine Z28 ?_|refine Z36 ?_|refine Z37 ?_|refine Z43 ?_|refine Z44 ?_|refine Z45 ?_|refine Z49 ?_|refine Z50 ?_
      |refine Z51 ?_|refine Z52 ?_|refine Z53 ?_|refine Z58 ?_|refine Z59 ?_|refine Z62 ?_|refine Z63 ?_|refine Z64 ?_|refine Z67 ?_|refine Z70 ?_|refine Z71 ?_
      |refine Z72 ?_|refine Z73 ?_|refine Z74 ?_|refine Z80 ?_|refine Z83 fun _ => ?_|refine Z85 fun _ => ?_)
    refine Ze1 fun _ hw => post_of hw SubW.nil ⟨?_, rfl⟩
    rfl
  by_cases hb : n < 2 ∨ 8 < n
  · by_cases h2 : n < 2
    · have hz : cmpZ .lss n (Int.ofNat 2) = some true := by simp [cmpZ]; omega
      repeat (first
        |(refine st_callV (by rfl) (by rfl) (by rfl) (awake6_spec) (fun _ _ => trivial) (by rfl) ?_)
        |(refine st_cmp (r := false) (by rfl) (by rfl) (cmpN_f (by first | (simp only [cmpQ]; done) | (simp only [cmpQ]; omega))) (by rfl) ?_)
        |(refine st_callV (by rfl) (by rfl) (by rfl) (windows_bad s n hb) (fun _ _ => trivial) (by rfl) ?_)|(refine st_cmpz (by rfl) (by rfl) hz (by rfl) ?_)
        |(refine st_lenN (ys := []) (kk := .u64) (by rfl) (by rfl) RdW.nil (by rfl) ?_)|refine Z01 ?_|refine Z02 ?_|refine Z03 ?_|refine Z04 ?_|refine Z05 ?_
        |refine Z06 ?_|refine Z07 ?_|refine Z08 ?_|refine Z09 ?_|refine Z10 ?_|refine Z11 ?_|refine Z12 ?_|refine Z13 ?_|refine Z14 ?_|refine Z15 ?_|refine Z16 ?_
        |refine Z17 ?_|refine Z18 ?_|refine Z19 ?_|refine Z20 ?_|refine Z21 ?_|refine Z22 ?_|refine Z23 ?_|refine Z24 ?_|refine Z25 ?_|refine Z26 ?_|refine Z27 ?_
        |refine Z28 ?_|refine Z36 ?_|refine Z37 ?_|refine Z43 ?_|refine Z44 ?_|refine Z45 ?_|refine Z49 ?_|refine Z50 ?_|refine Z51 ?_|refine Z52 ?_|refine Z53 ?_
        |refine Z58 ?_|refine Z59 ?_|refine Z62 ?_|refine Z63 ?_|refine Z64 ?_|refine Z67 ?_|refine Z70 ?_|refine Z71 ?_|refine Z72 ?_|refine Z73 ?_|refine Z74 ?_
        |refine Z80 ?_|refine Z83 fun _ => ?_|refine Z85 fun _ => ?_)
      refine Ze1 fun _ hw => post_of hw SubW.nil ⟨?_, rfl⟩
      rfl
    · have hz : cmpZ .lss n (Int.ofNat 2) = some false := by simp [cmpZ]; omega
      have hz2 : cmpZ .gtr n (Int.ofNat 8) = some true := by simp [cmpZ]; omega
      repeat (first
        |(refine st_callV (by rfl) (by rfl) (by rfl) (awake6_spec) (fun _ _ => trivial) (by rfl) ?_)
        |(refine st_cmp (r := false) (by rfl) (by rfl) (cmpN_f (by first | (simp only [cmpQ]; done) | (simp only [cmpQ]; omega))) (by rfl) ?_)
        |(refine st_callV (by rfl) (by rfl) (by rfl) (windows_bad s n hb) (fun _ _ => trivial) (by rfl) ?_)|(refine st_cmpz (by rfl) (by rfl) hz (by rfl) ?_)
        |(refine st_cmpz (by rfl) (by rfl) hz2 (by rfl) ?_)|(refine st_lenN (ys := []) (kk := .u64) (by rfl) (by rfl) RdW.nil (by rfl) ?_)|refine Z01 ?_|refine Z02 ?_
        |refine Z03 ?_|refine Z04 ?_|refine Z05 ?_|refine Z06 ?_|refine Z07 ?_|refine Z08 ?_|refine Z09 ?_|refine Z10 ?_|refine Z11 ?_|refine Z12 ?_|refine Z13 ?_
        |refine Z14 ?_|refine Z15 ?_|refine Z16 ?_|refine Z17 ?_|refine Z18 ?_|refine Z19 ?_|refine Z20 ?_|refine Z21 ?_|refine Z22 ?_|refine Z23 ?_|refine Z24 ?_
        |refine Z25 ?_|refine Z26 ?_|refine Z27 ?_|refine Z28 ?_|refine Z36 ?_|refine Z37 ?_|refine Z43 ?_|refine Z44 ?_|refine Z45 ?_|refine Z49 ?_|refine Z50 ?_
        |refine Z51 ?_|refine Z52 ?_|refine Z53 ?_|refine Z58 ?_|refine Z59 ?_|refine Z62 ?_|refine Z63 ?_|refine Z64 ?_|refine Z67 ?_|refine Z70 ?_|refine Z71 ?_
        |refine Z72 ?_|refine Z73 ?_|refine Z74 ?_|refine Z80 ?_|refine Z83 fun _ => ?_|refine Z85 fun _ => ?_)
      refine Ze1 fun _ hw => post_of hw SubW.nil ⟨?_, rfl⟩
      rfl
  obtain ⟨w, rfl⟩ : ∃ w, n = Int.ofNat w := ⟨n.toNat, by simp; omega⟩
  have hm : 2 ≤ w ∧ w ≤ 8 := by simp only [Int.ofNat_eq_natCast] at hb; omega
  obtain ⟨hw, hw8⟩ := hm
  clear hb hn
  obtain ⟨A, hA⟩ : ∃ A, A = V xs := ⟨_, rfl⟩
  have hAl : A < 2 ^ (64 * xs.length) := by have := V_lt hx; rw [W_2, ← Nat.pow_mul, ← hA] at this; exact this
  have hdl := digits_law hw hAl
  have hend := Lk_end hw (Nat.le_refl A)
  obtain ⟨K, hK⟩ : ∃ K, K = (digits w A).length := ⟨_, rfl⟩
  rw [← hK] at hdl hend
  have hKb : 64 * xs.length / w ≤ 64 * xs.length := Nat.div_le_self _ _
  have h1s := one_shl' hw8
  obtain ⟨m, hmm⟩ : ∃ m, m = xs.length + 2 := ⟨_, rfl⟩
  repeat (first
    |(refine st_callV (by rfl) (by rfl) (by rfl) (awake6_spec) (fun _ _ => trivial) (by rfl) ?_)
    |(refine st_cmp (r := false) (by rfl) (by rfl) (cmpN_f (by first | (simp only [cmpQ]; done) | (simp only [cmpQ]; omega))) (by rfl) ?_)
    |(((refine st_call (by rfl) (by rfl) (by rfl) (windows_spec s xs w hx (by omega) hw hw8) .nil (RdW.old hr) (by rfl) ?_; rintro _ _ ⟨u, rfl, rfl⟩); rw [← hA]))
    |((refine st_lenI (by rfl) (by rfl) (RdW.own (by repeat (first | apply Find.here | apply Find.there))) (by rfl) ?_; rw [← hK]))|refine Z01 ?_|refine Z02 ?_
    |refine Z03 ?_|refine Z04 ?_|refine Z05 ?_|refine Z06 ?_|refine Z07 ?_|refine Z08 ?_|refine Z09 ?_|refine Z10 ?_|refine Z11 ?_|refine Z12 ?_|refine Z13 ?_
    |refine Z14 ?_|refine Z15 ?_|refine Z16 ?_|refine Z17 ?_|refine Z18 ?_|refine Z19 ?_|refine Z20 ?_|refine Z21 ?_|refine Z22 ?_|refine Z23 ?_|refine Z24 ?_
    |refine Z25 ?_|refine Z26 ?_|refine Z27 ?_|refine Z28 ?_|refine Z36 ?_|refine Z37 ?_|refine Z43 ?_|refine Z44 ?_|refine Z45 ?_|refine Z49 ?_|refine Z50 ?_
    |refine Z51 ?_|refine Z52 ?_|refine Z53 ?_|refine Z58 ?_|refine Z59 ?_|refine Z62 ?_|refine Z63 ?_|refine Z64 ?_|refine Z67 ?_|refine Z70 ?_|refine Z71 ?_
    |refine Z72 ?_|refine Z73 ?_|refine Z74 ?_|refine Z80 ?_|refine Z83 fun _ => ?_|refine Z85 fun _ => ?_)
  by_cases hK0 : 0 < K
  · have hA0 : A ≠ 0 := by rintro rfl; rw [digits_0] at hK; simp at hK; omega
    have hne := digits_ne hw (Nat.le_refl A) hA0
    rw [← hK] at hne
    have hz : cmpZ .eql ((digits w A).getD (K - 1) 0) (Int.ofNat 0) = some false := by simp only [cmpZ, Int.ofNat_eq_natCast]; exact congrArg some (decide_eq_false hne)
    rw [decide_eq_true hK0]
    repeat (first
      
      |(refine st_iaI (by rfl) (by rfl) (by rfl) (by rfl) (RdW.own (by repeat (first | apply Find.here | apply Find.there))) (show K - 1 < (digits w A).length by omega) (by rfl) ?_)
      |(refine st_load_I (by rfl) (RdW.own (by repeat (first | apply Find.here | apply Find.there))) (show K - 1 < (digits w A).length by omega) (by rfl) (by rfl) ?_)
      |(refine st_cmpz (by rfl) (by rfl) hz (by rfl) ?_)
      |(refine st_cmp (r := false) (by rfl) (by rfl) (cmpN_f (by first | (simp only [cmpQ]; done) | (simp only [cmpQ]; omega))) (by rfl) ?_)|(rw [h1s])|(rw [← hmm])
      |(refine st_buildSliceN (vs := [2 ^ w]) (kk := .u64) (by rfl) (by rfl) (by rfl) (by rfl) (by rfl) (by rfl) (by rfl) (by rfl) fun _ => ?_)
      |((refine st_lenI (by rfl) (by rfl) (RdW.own (by repeat (first | apply Find.here | apply Find.there))) (by rfl) ?_; rw [← hK]))|refine Z01 ?_|refine Z02 ?_
      |refine Z03 ?_|refine Z04 ?_|refine Z05 ?_|refine Z06 ?_|refine Z07 ?_|refine Z08 ?_|refine Z09 ?_|refine Z10 ?_|refine Z11 ?_|refine Z12 ?_|refine Z13 ?_
      |refine Z14 ?_|refine Z15 ?_|refine Z16 ?_|refine Z17 ?_|refine Z18 ?_|refine Z19 ?_|refine Z20 ?_|refine Z21 ?_|refine Z22 ?_|refine Z23 ?_|refine Z24 ?_
      |refine Z25 ?_|refine Z26 ?_|refine Z27 ?_|refine Z28 ?_|refine Z36 ?_|refine Z37 ?_|refine Z43 ?_|refine Z44 ?_|refine Z45 ?_|refine Z49 ?_|refine Z50 ?_
      |refine Z51 ?_|refine Z52 ?_|refine Z53 ?_|refine Z58 ?_|refine Z59 ?_|refine Z62 ?_|refine Z63 ?_|refine Z64 ?_|refine Z67 ?_|refine Z70 ?_|refine Z71 ?_
      |refine Z72 ?_|refine Z73 ?_|refine Z74 ?_|refine Z80 ?_|refine Z83 fun _ => ?_|refine Z85 fun _ => ?_)
    rename_i v9 v10
    rw [rep_D m]
    rw [show N .i64 (K - 1) = Value.int .i64 ((K : Int) - 1) from congrArg _ (by show ((K - 1 : Nat) : Int) = (K : Int) - 1; omega)]
    clear hK0
    have hw1 : (w - 1) % 18446744073709551616 = w - 1 := Nat.mod_eq_of_lt (by omega)
    have p0 := (pow_half hw).2
    have p1 : 2 ^ (w - 1) ≤ 128 := Nat.pow_le_pow_right (n := 2) (by decide) (show w - 1 ≤ 7 by omega)
    have p2 : 2 ^ w ≤ 256 := Nat.pow_le_pow_right (n := 2) (by decide) hw8
    have hAm : A + 256 < W ^ m := by
      have h1 := V_lt hx
      rw [← hA] at h1
      have h2 : W ^ m = W ^ (xs.length + 1) * W := by rw [hmm, Nat.pow_succ]
      have h3 : W ^ xs.length ≤ W ^ (xs.length + 1) := Nat.pow_le_pow_right (by decide) (by omega)
      have h4 : 2 * W ^ (xs.length + 1) ≤ W ^ (xs.length + 1) * W := by rw [Nat.mul_comm]; exact Nat.mul_le_mul_left _ (by decide)
      have h5 : 512 ≤ W ^ m := Nat.le_trans (show 512 ≤ W by decide) (by rw [h2]; exact Nat.le_mul_of_pos_left _ (W_pow_pos _))
      omega
    refine st_loop (ι := Nat × Value) (fun q => q.1 ≤ K) (fun q => [(0, s), (1, N .i64 w), (5, .bool true), (6, u), (8, N .i64 m), (9, q.2), (10, v10), (11, .int .i64 ((q.1 : Int) - 1))])
      (fun q => [.sl q.2 ((D m (Lk w A q.1)).map (N .u64)) 30, .sl v10 ([2 ^ w].map (N .u64)) 30, .sl u (IV (digits w A)) 3]) (fun q => q.1) (K, v9) (Nat.le_refl _) (by repeat (first | apply subL.nil | refine subL.cons (by rfl) ?_)) (by rw [hend]; exact (by repeat (first | apply SubW.nil | refine SubW.cons (by repeat (first | apply Find.here | apply Find.there)) ?_))) ?_
    rintro ⟨j, v⟩ hj
    simp only at hj ⊢
    have hLA := Lk_le hw A j
    have hdj := D_len m (Lk w A j)
    have hvj := V_D' (n := m) (v := Lk w A j) (by omega)
    repeat (first
      |refine Z01 ?_|refine Z02 ?_|refine Z03 ?_|refine Z04 ?_|refine Z05 ?_|refine Z06 ?_|refine Z07 ?_|refine Z08 ?_|refine Z09 ?_|refine Z10 ?_|refine Z11 ?_
      |refine Z12 ?_|refine Z13 ?_|refine Z14 ?_|refine Z15 ?_|refine Z16 ?_|refine Z17 ?_|refine Z18 ?_|refine Z19 ?_|refine Z20 ?_|refine Z21 ?_|refine Z22 ?_
      |refine Z23 ?_|refine Z24 ?_|refine Z25 ?_|refine Z26 ?_|refine Z27 ?_|refine Z28 ?_|refine Z36 ?_|refine Z37 ?_|refine Z43 ?_|refine Z44 ?_|refine Z45 ?_
      |refine Z49 ?_|refine Z50 ?_|refine Z51 ?_|refine Z52 ?_|refine Z53 ?_|refine Z58 ?_|refine Z59 ?_|refine Z62 ?_|refine Z63 ?_|refine Z64 ?_|refine Z67 ?_
      |refine Z70 ?_|refine Z71 ?_|refine Z72 ?_|refine Z73 ?_|refine Z74 ?_|refine Z80 ?_|refine Z83 fun _ => ?_|refine Z85 fun _ => ?_)
    refine st_cond (by rfl) (fun hc => ?_) (fun hc => ?_)
    · have hc0 : (0 : Int) ≤ (j : Int) - 1 := hc
      obtain ⟨i, rfl⟩ : ∃ i, j = i + 1 := ⟨j - 1, by omega⟩
      rw [show ((i + 1 : Nat) : Int) - 1 = Int.ofNat i by simp]
      have hgi := digits_get hw (i := i) (A := A) (by omega)
      have hbd := wdig_bounds hw (Lk w A i)
      have hwe := wdig_eq w (Lk w A i)
      rw [show wnext w (Lk w A i) = Lk w A (i + 1) from rfl] at hwe
      have hLi := Lk_le hw A i
      generalize hd : wdig w (Lk w A i) = d at hgi hbd hwe
      generalize hP : Lk w A (i + 1) * 2 ^ w = P
      have hPe : d + (P : Int) = (Lk w A i : Int) := by rw [← hP, Nat.mul_comm]; exact hwe
      have hPm : P < W ^ m := by omega
      have z1 : cmpZ .leq d (-((2 ^ (w - 1) : Nat) : Int)) = some false := congrArg some (decide_eq_false (by omega))
      have z2 : cmpZ .gtr d (Int.ofNat (2 ^ (w - 1))) = some false := congrArg some (decide_eq_false (by simp only [Int.ofNat_eq_natCast]; omega))
      have hmul : D ((D m (Lk w A (i + 1))).length + [2 ^ w].length) (V (D m (Lk w A (i + 1))) * V [2 ^ w]) = D (m + 1) P := by rw [hdj, hvj, V_one, hP]; rfl
      have hlt1 : Lt 18446744073709551616 [2 ^ w] := fun x hx => by simp at hx; omega
      have hdP := D_len (m + 1) P
      repeat (first
        |(refine st_iaI (by rfl) (by rfl) (by rfl) (by rfl) (RdW.own (by repeat (first | apply Find.here | apply Find.there))) (by omega) (by rfl) ?_)
        |(refine st_load_I (by rfl) (RdW.own (by repeat (first | apply Find.here | apply Find.there))) (by omega) (by rfl) (by rfl) ?_)|(rw [hgi])
        |(refine st_ishl (by first | (with_reducible apply evc) | rfl) (by rfl) (by omega) (by first | omega | (rw [hw1]; omega)) (by rfl) ?_)|(rw [hw1])
        |(rw [Nat.one_mul])|(refine st_cmpz (by rfl) (by rfl) z1 (by rfl) ?_)|(refine st_cmpz (by rfl) (by rfl) z2 (by rfl) ?_)
        |(((refine st_call (by rfl) (by rfl) (by rfl) (lmul_spec _ _ (D m (Lk w A (i + 1))) [2 ^ w] (D_lt _ _) hlt1 (by omega) (by simp)) .nil (fun w hw => ⟨RdW.own (by repeat (first | apply Find.here | apply Find.there)) w hw, RdW.own (by repeat (first | apply Find.here | apply Find.there)) w hw⟩) (by rfl) ?_; rintro v12 _ rfl); rw [hmul]))
        |(rw [hdP])|(refine st_cmp (r := false) (by rfl) (by rfl) (cmpN_f (by first | (simp only [cmpQ]; done) | (simp only [cmpQ]; omega))) (by rfl) ?_)|refine Z01 ?_
        |refine Z02 ?_|refine Z03 ?_|refine Z04 ?_|refine Z05 ?_|refine Z06 ?_|refine Z07 ?_|refine Z08 ?_|refine Z09 ?_|refine Z10 ?_|refine Z11 ?_|refine Z12 ?_
        |refine Z13 ?_|refine Z14 ?_|refine Z15 ?_|refine Z16 ?_|refine Z17 ?_|refine Z18 ?_|refine Z19 ?_|refine Z20 ?_|refine Z21 ?_|refine Z22 ?_|refine Z23 ?_
        |refine Z24 ?_|refine Z25 ?_|refine Z26 ?_|refine Z27 ?_|refine Z28 ?_|refine Z36 ?_|refine Z37 ?_|refine Z43 ?_|refine Z44 ?_|refine Z45 ?_|refine Z49 ?_
        |refine Z50 ?_|refine Z51 ?_|refine Z52 ?_|refine Z53 ?_|refine Z58 ?_|refine Z59 ?_|refine Z62 ?_|refine Z63 ?_|refine Z64 ?_|refine Z67 ?_|refine Z70 ?_
        |refine Z71 ?_|refine Z72 ?_|refine Z73 ?_|refine Z74 ?_|refine Z80 ?_|refine Z83 fun _ => ?_|refine Z85 fun _ => ?_)
      have hcut : List.drop 0 (List.take m (List.map (N .u64) (D (m + 1) P))) = (D m P).map (N .u64) := by
        rw [List.drop_zero, ← List.map_take, D_snoc, List.take_left' (D_len m P)]
      have hdmP := D_len m P
      have hvP := V_D' hPm
      refine st_resl (s := v12) 0 m (by repeat (first | apply Find.here | apply Find.there)) (Nat.zero_le _) (by rw [List.length_map, hdP]; omega) ?_
      rw [hcut]
      refine st_cond (by rfl) (fun hneg => ?_) (fun hneg => ?_)
      · have hn0 : d < 0 := hneg
        have he : ((-d) % ((18446744073709551616 : Nat) : Int)).toNat = P - Lk w A i := by omega
        have hlt2 : Lt 18446744073709551616 [P - Lk w A i] := fun x hx => by simp at hx; omega
        have hs : D (max (D m P).length [P - Lk w A i].length) (sbn (max (D m P).length [P - Lk w A i].length) (V (D m P)) (V [P - Lk w A i])) = D m (Lk w A i) := by
          rw [hdmP, hvP, V_one, show max m [P - Lk w A i].length = m by simp; omega, D_sbn (Nat.sub_le _ _)]; congr 1; omega
        repeat (first
          |(refine st_iaI (by rfl) (by rfl) (by rfl) (by rfl) (RdW.own (by repeat (first | apply Find.here | apply Find.there))) (by omega) (by rfl) ?_)
          |(refine st_load_I (by rfl) (RdW.own (by repeat (first | apply Find.here | apply Find.there))) (by omega) (by rfl) (by rfl) ?_)|(rw [hgi])|(rw [he])
          |(refine st_buildSliceN (vs := [P - Lk w A i]) (kk := .u64) (by rfl) (by rfl) (by rfl) (by rfl) (by rfl) (by rfl) (by rfl) (by rfl) fun _ => ?_)
          |(((refine st_call (by rfl) (by rfl) (by rfl) (sub_spec _ _ (D m P) [P - Lk w A i] (D_lt _ _) hlt2 (by omega) (by simp)) .nil (fun w hw => ⟨RdW.own (by repeat (first | apply Find.here | apply Find.there)) w hw, RdW.own (by repeat (first | apply Find.here | apply Find.there)) w hw⟩) (by rfl) ?_; rintro _ _ ⟨a, rfl, rfl⟩); rw [hs]))
          |refine Z01 ?_|refine Z02 ?_|refine Z03 ?_|refine Z04 ?_|refine Z05 ?_|refine Z06 ?_|refine Z07 ?_|refine Z08 ?_|refine Z09 ?_|refine Z10 ?_|refine Z11 ?_
          |refine Z12 ?_|refine Z13 ?_|refine Z14 ?_|refine Z15 ?_|refine Z16 ?_|refine Z17 ?_|refine Z18 ?_|refine Z19 ?_|refine Z20 ?_|refine Z21 ?_|refine Z22 ?_
          |refine Z23 ?_|refine Z24 ?_|refine Z25 ?_|refine Z26 ?_|refine Z27 ?_|refine Z28 ?_|refine Z36 ?_|refine Z37 ?_|refine Z43 ?_|refine Z44 ?_|refine Z45 ?_
          |refine Z49 ?_|refine Z50 ?_|refine Z51 ?_|refine Z52 ?_|refine Z53 ?_|refine Z58 ?_|refine Z59 ?_|refine Z62 ?_|refine Z63 ?_|refine Z64 ?_|refine Z67 ?_
          |refine Z70 ?_|refine Z71 ?_|refine Z72 ?_|refine Z73 ?_|refine Z74 ?_|refine Z80 ?_|refine Z83 fun _ => ?_|refine Z85 fun _ => ?_)
        refine st_round (i, a) (by simp only; omega) (by simp only; omega) ?_ (by repeat (first | apply SubW.nil | refine SubW.cons (by repeat (first | apply Find.here | apply Find.there)) ?_))
        rw [show (((i, a) : Nat × Value).1 : Int) - 1 = Int.ofNat i - Int.ofNat 1 from rfl]
        exact (by repeat (first | apply subL.nil | refine subL.cons (by rfl) ?_))
      · have hn0 : ¬ d < 0 := hneg
        have he : (d % ((18446744073709551616 : Nat) : Int)).toNat = Lk w A i - P := by omega
        have hlt2 : Lt 18446744073709551616 [Lk w A i - P] := fun x hx => by simp at hx; omega
        have hs : D (max (D m P).length [Lk w A i - P].length) (V (D m P) + V [Lk w A i - P]) = D m (Lk w A i) := by
          rw [hdmP, hvP, V_one, show max m [Lk w A i - P].length = m by simp; omega]; congr 1; omega
        repeat (first
          |(refine st_iaI (by rfl) (by rfl) (by rfl) (by rfl) (RdW.own (by repeat (first | apply Find.here | apply Find.there))) (by omega) (by rfl) ?_)
          |(refine st_load_I (by rfl) (RdW.own (by repeat (first | apply Find.here | apply Find.there))) (by omega) (by rfl) (by rfl) ?_)|(rw [hgi])|(rw [he])
          |(refine st_buildSliceN (vs := [Lk w A i - P]) (kk := .u64) (by rfl) (by rfl) (by rfl) (by rfl) (by rfl) (by rfl) (by rfl) (by rfl) fun _ => ?_)
          |(((refine st_call (by rfl) (by rfl) (by rfl) (add_spec _ _ (D m P) [Lk w A i - P] (D_lt _ _) hlt2 (by omega) (by simp)) .nil (fun w hw => ⟨RdW.own (by repeat (first | apply Find.here | apply Find.there)) w hw, RdW.own (by repeat (first | apply Find.here | apply Find.there)) w hw⟩) (by rfl) ?_; rintro _ _ ⟨a, rfl, rfl⟩); rw [hs]))
          |refine Z01 ?_|refine Z02 ?_|refine Z03 ?_|refine Z04 ?_|refine Z05 ?_|refine Z06 ?_|refine Z07 ?_|refine Z08 ?_|refine Z09 ?_|refine Z10 ?_|refine Z11 ?_
          |refine Z12 ?_|refine Z13 ?_|refine Z14 ?_|refine Z15 ?_|refine Z16 ?_|refine Z17 ?_|refine Z18 ?_|refine Z19 ?_|refine Z20 ?_|refine Z21 ?_|refine Z22 ?_
          |refine Z23 ?_|refine Z24 ?_|refine Z25 ?_|refine Z26 ?_|refine Z27 ?_|refine Z28 ?_|refine Z36 ?_|refine Z37 ?_|refine Z43 ?_|refine Z44 ?_|refine Z45 ?_
          |refine Z49 ?_|refine Z50 ?_|refine Z51 ?_|refine Z52 ?_|refine Z53 ?_|refine Z58 ?_|refine Z59 ?_|refine Z62 ?_|refine Z63 ?_|refine Z64 ?_|refine Z67 ?_
          |refine Z70 ?_|refine Z71 ?_|refine Z72 ?_|refine Z73 ?_|refine Z74 ?_|refine Z80 ?_|refine Z83 fun _ => ?_|refine Z85 fun _ => ?_)
        refine st_round (i, a) (by simp only; omega) (by simp only; omega) ?_ (by repeat (first | apply SubW.nil | refine SubW.cons (by repeat (first | apply Find.here | apply Find.there)) ?_))
        rw [show (((i, a) : Nat × Value).1 : Int) - 1 = Int.ofNat i - Int.ofNat 1 from rfl]
        exact (by repeat (first | apply subL.nil | refine subL.cons (by rfl) ?_))
    · have hp : ¬ (0 : Int) ≤ (j : Int) - 1 := hc
      have hj0 : j = 0 := by omega
      subst hj0
      have ho : ord3 (V (D m (Lk w A 0))) (V xs) = 0 := by rw [hvj, ← hA]; exact ord3_eq rfl
      repeat (first
        
        |((refine st_callV (by rfl) (by rfl) (by rfl) (cmp_spec v s (D m (Lk w A 0)) xs (D_lt _ _) hx (by omega) (by omega)) (fun w hw => ⟨RdW.own (by repeat (first | apply Find.here | apply Find.there)) w hw, RdW.old hr w hw⟩) (by rfl) ?_; rw [ho]))
        |refine Z01 ?_|refine Z02 ?_|refine Z03 ?_|refine Z04 ?_|refine Z05 ?_|refine Z06 ?_|refine Z07 ?_|refine Z08 ?_|refine Z09 ?_|refine Z10 ?_|refine Z11 ?_
        |refine Z12 ?_|refine Z13 ?_|refine Z14 ?_|refine Z15 ?_|refine Z16 ?_|refine Z17 ?_|refine Z18 ?_|refine Z19 ?_|refine Z20 ?_|refine Z21 ?_|refine Z22 ?_
        |refine Z23 ?_|refine Z24 ?_|refine Z25 ?_|refine Z26 ?_|refine Z27 ?_|refine Z28 ?_|refine Z36 ?_|refine Z37 ?_|refine Z43 ?_|refine Z44 ?_|refine Z45 ?_
        |refine Z49 ?_|refine Z50 ?_|refine Z51 ?_|refine Z52 ?_|refine Z53 ?_|refine Z58 ?_|refine Z59 ?_|refine Z62 ?_|refine Z63 ?_|refine Z64 ?_|refine Z67 ?_
        |refine Z70 ?_|refine Z71 ?_|refine Z72 ?_|refine Z73 ?_|refine Z74 ?_|refine Z80 ?_|refine Z83 fun _ => ?_|refine Z85 fun _ => ?_)
      refine Ze1 fun _ hw => post_of hw SubW.nil ⟨?_, rfl⟩
      rfl
  · rw [decide_eq_false hK0]
    repeat (first
      |(refine st_cmp (r := false) (by rfl) (by rfl) (cmpN_f (by first | (simp only [cmpQ]; done) | (simp only [cmpQ]; omega))) (by rfl) ?_)
      |(refine st_cmp (r := false) (by rfl) (by rfl) (cmpN_f (by first | (simp only [cmpQ]; done) | (simp only [cmpQ]; omega))) (by rfl) ?_)|(rw [h1s])|(rw [← hmm])
      |(refine st_buildSliceN (vs := [2 ^ w]) (kk := .u64) (by rfl) (by rfl) (by rfl) (by rfl) (by rfl) (by rfl) (by rfl) (by rfl) fun _ => ?_)
      |((refine st_lenI (by rfl) (by rfl) (RdW.own (by repeat (first | apply Find.here | apply Find.there))) (by rfl) ?_; rw [← hK]))|refine Z01 ?_|refine Z02 ?_
      |refine Z03 ?_|refine Z04 ?_|refine Z05 ?_|refine Z06 ?_|refine Z07 ?_|refine Z08 ?_|refine Z09 ?_|refine Z10 ?_|refine Z11 ?_|refine Z12 ?_|refine Z13 ?_
      |refine Z14 ?_|refine Z15 ?_|refine Z16 ?_|refine Z17 ?_|refine Z18 ?_|refine Z19 ?_|refine Z20 ?_|refine Z21 ?_|refine Z22 ?_|refine Z23 ?_|refine Z24 ?_
      |refine Z25 ?_|refine Z26 ?_|refine Z27 ?_|refine Z28 ?_|refine Z36 ?_|refine Z37 ?_|refine Z43 ?_|refine Z44 ?_|refine Z45 ?_|refine Z49 ?_|refine Z50 ?_
      |refine Z51 ?_|refine Z52 ?_|refine Z53 ?_|refine Z58 ?_|refine Z59 ?_|refine Z62 ?_|refine Z63 ?_|refine Z64 ?_|refine Z67 ?_|refine Z70 ?_|refine Z71 ?_
      |refine Z72 ?_|refine Z73 ?_|refine Z74 ?_|refine Z80 ?_|refine Z83 fun _ => ?_|refine Z85 fun _ => ?_)
    rename_i v9 v10
    rw [rep_D m]
    skip
    clear hK0
    have hw1 : (w - 1) % 18446744073709551616 = w - 1 := Nat.mod_eq_of_lt (by omega)
    have p0 := (pow_half hw).2
    have p1 : 2 ^ (w - 1) ≤ 128 := Nat.pow_le_pow_right (n := 2) (by decide) (show w - 1 ≤ 7 by omega)
    have p2 : 2 ^ w ≤ 256 := Nat.pow_le_pow_right (n := 2) (by decide) hw8
    have hAm : A + 256 < W ^ m := by
      have h1 := V_lt hx
      rw [← hA] at h1
      have h2 : W ^ m = W ^ (xs.length + 1) * W := by rw [hmm, Nat.pow_succ]
      have h3 : W ^ xs.length ≤ W ^ (xs.length + 1) := Nat.pow_le_pow_right (by decide) (by omega)
      have h4 : 2 * W ^ (xs.length + 1) ≤ W ^ (xs.length + 1) * W := by rw [Nat.mul_comm]; exact Nat.mul_le_mul_left _ (by decide)
      have h5 : 512 ≤ W ^ m := Nat.le_trans (show 512 ≤ W by decide) (by rw [h2]; exact Nat.le_mul_of_pos_left _ (W_pow_pos _))
      omega
    refine st_loop (ι := Nat × Value) (fun q => q.1 ≤ K) (fun q => [(0, s), (1, N .i64 w), (5, .bool true), (6, u), (8, N .i64 m), (9, q.2), (10, v10), (11, .int .i64 ((q.1 : Int) - 1))])
      (fun q => [.sl q.2 ((D m (Lk w A q.1)).map (N .u64)) 30, .sl v10 ([2 ^ w].map (N .u64)) 30, .sl u (IV (digits w A)) 3]) (fun q => q.1) (K, v9) (Nat.le_refl _) (by repeat (first | apply subL.nil | refine subL.cons (by rfl) ?_)) (by rw [hend]; exact (by repeat (first | apply SubW.nil | refine SubW.cons (by repeat (first | apply Find.here | apply Find.there)) ?_))) ?_
    rintro ⟨j, v⟩ hj
    simp only at hj ⊢
    have hLA := Lk_le hw A j
    have hdj := D_len m (Lk w A j)
    have hvj := V_D' (n := m) (v := Lk w A j) (by omega)
    repeat (first
      |refine Z01 ?_|refine Z02 ?_|refine Z03 ?_|refine Z04 ?_|refine Z05 ?_|refine Z06 ?_|refine Z07 ?_|refine Z08 ?_|refine Z09 ?_|refine Z10 ?_|refine Z11 ?_
      |refine Z12 ?_|refine Z13 ?_|refine Z14 ?_|refine Z15 ?_|refine Z16 ?_|refine Z17 ?_|refine Z18 ?_|refine Z19 ?_|refine Z20 ?_|refine Z21 ?_|refine Z22 ?_
      |refine Z23 ?_|refine Z24 ?_|refine Z25 ?_|refine Z26 ?_|refine Z27 ?_|refine Z28 ?_|refine Z36 ?_|refine Z37 ?_|refine Z43 ?_|refine Z44 ?_|refine Z45 ?_
      |refine Z49 ?_|refine Z50 ?_|refine Z51 ?_|refine Z52 ?_|refine Z53 ?_|refine Z58 ?_|refine Z59 ?_|refine Z62 ?_|refine Z63 ?_|refine Z64 ?_|refine Z67 ?_
      |refine Z70 ?_|refine Z71 ?_|refine Z72 ?_|refine Z73 ?_|refine Z74 ?_|refine Z80 ?_|refine Z83 fun _ => ?_|refine Z85 fun _ => ?_)
    refine st_cond (by rfl) (fun hc => ?_) (fun hc => ?_)
    · have hc0 : (0 : Int) ≤ (j : Int) - 1 := hc
      obtain ⟨i, rfl⟩ : ∃ i, j = i + 1 := ⟨j - 1, by omega⟩
      rw [show ((i + 1 : Nat) : Int) - 1 = Int.ofNat i by simp]
      have hgi := digits_get hw (i := i) (A := A) (by omega)
      have hbd := wdig_bounds hw (Lk w A i)
      have hwe := wdig_eq w (Lk w A i)
      rw [show wnext w (Lk w A i) = Lk w A (i + 1) from rfl] at hwe
      have hLi := Lk_le hw A i
      generalize hd : wdig w (Lk w A i) = d at hgi hbd hwe
      generalize hP : Lk w A (i + 1) * 2 ^ w = P
      have hPe : d + (P : Int) = (Lk w A i : Int) := by rw [← hP, Nat.mul_comm]; exact hwe
      have hPm : P < W ^ m := by omega
      have z1 : cmpZ .leq d (-((2 ^ (w - 1) : Nat) : Int)) = some false := congrArg some (decide_eq_false (by omega))
      have z2 : cmpZ .gtr d (Int.ofNat (2 ^ (w - 1))) = some false := congrArg some (decide_eq_false (by simp only [Int.ofNat_eq_natCast]; omega))
      have hmul : D ((D m (Lk w A (i + 1))).length + [2 ^ w].length) (V (D m (Lk w A (i + 1))) * V [2 ^ w]) = D (m + 1) P := by rw [hdj, hvj, V_one, hP]; rfl
      have hlt1 : Lt 18446744073709551616 [2 ^ w] := fun x hx => by simp at hx; omega
      have hdP := D_len (m + 1) P
      repeat (first
        |(refine st_iaI (by rfl) (by rfl) (by rfl) (by rfl) (RdW.own (by repeat (first | apply Find.here | apply Find.there))) (by omega) (by rfl) ?_)
        |(refine st_load_I (by rfl) (RdW.own (by repeat (first | apply Find.here | apply Find.there))) (by omega) (by rfl) (by rfl) ?_)|(rw [hgi])
        |(refine st_ishl (by first | (with_reducible apply evc) | rfl) (by rfl) (by omega) (by first | omega | (rw [hw1]; omega)) (by rfl) ?_)|(rw [hw1])
        |(rw [Nat.one_mul])|(refine st_cmpz (by rfl) (by rfl) z1 (by rfl) ?_)|(refine st_cmpz (by rfl) (by rfl) z2 (by rfl) ?_)
        |(((refine st_call (by rfl) (by rfl) (by rfl) (lmul_spec _ _ (D m (Lk w A (i + 1))) [2 ^ w] (D_lt _ _) hlt1 (by omega) (by simp)) .nil (fun w hw => ⟨RdW.own (by repeat (first | apply Find.here | apply Find.there)) w hw, RdW.own (by repeat (first | apply Find.here | apply Find.there)) w hw⟩) (by rfl) ?_; rintro v12 _ rfl); rw [hmul]))
        |(rw [hdP])|(refine st_cmp (r := false) (by rfl) (by rfl) (cmpN_f (by first | (simp only [cmpQ]; done) | (simp only [cmpQ]; omega))) (by rfl) ?_)|refine Z01 ?_
        |refine Z02 ?_|refine Z03 ?_|refine Z04 ?_|refine Z05 ?_|refine Z06 ?_|refine Z07 ?_|refine Z08 ?_|refine Z09 ?_|refine Z10 ?_|refine Z11 ?_|refine Z12 ?_
        |refine Z13 ?_|refine Z14 ?_|refine Z15 ?_|refine Z16 ?_|refine Z17 ?_|refine Z18 ?_|refine Z19 ?_|refine Z20 ?_|refine Z21 ?_|refine Z22 ?_|refine Z23 ?_
        |refine Z24 ?_|refine Z25 ?_|refine Z26 ?_|refine Z27 ?_|refine Z28 ?_|refine Z36 ?_|refine Z37 ?_|refine Z43 ?_|refine Z44 ?_|refine Z45 ?_|refine Z49 ?_
        |refine Z50 ?_|refine Z51 ?_|refine Z52 ?_|refine Z53 ?_|refine Z58 ?_|refine Z59 ?_|refine Z62 ?_|refine Z63 ?_|refine Z64 ?_|refine Z67 ?_|refine Z70 ?_
        |refine Z71 ?_|refine Z72 ?_|refine Z73 ?_|refine Z74 ?_|refine Z80 ?_|refine Z83 fun _ => ?_|refine Z85 fun _ => ?_)
      have hcut : List.drop 0 (List.take m (List.map (N .u64) (D (m + 1) P))) = (D m P).map (N .u64) := by
        rw [List.drop_zero, ← List.map_take, D_snoc, List.take_left' (D_len m P)]
      have hdmP := D_len m P
      have hvP := V_D' hPm
      refine st_resl (s := v12) 0 m (by repeat (first | apply Find.here | apply Find.there)) (Nat.zero_le _) (by rw [List.length_map, hdP]; omega) ?_
      rw [hcut]
      refine st_cond (by rfl) (fun hneg => ?_) (fun hneg => ?_)
      · have hn0 : d < 0 := hneg
        have he : ((-d) % ((18446744073709551616 : Nat) : Int)).toNat = P - Lk w A i := by omega
        have hlt2 : Lt 18446744073709551616 [P - Lk w A i] := fun x hx => by simp at hx; omega
        have hs : D (max (D m P).length [P - Lk w A i].length) (sbn (max (D m P).length [P - Lk w A i].length) (V (D m P)) (V [P - Lk w A i])) = D m (Lk w A i) := by
          rw [hdmP, hvP, V_one, show max m [P - Lk w A i].length = m by simp; omega, D_sbn (Nat.sub_le _ _)]; congr 1; omega
        repeat (first
          |(refine st_iaI (by rfl) (by rfl) (by rfl) (by rfl) (RdW.own (by repeat (first | apply Find.here | apply Find.there))) (by omega) (by rfl) ?_)
          |(refine st_load_I (by rfl) (RdW.own (by repeat (first | apply Find.here | apply Find.there))) (by omega) (by rfl) (by rfl) ?_)|(rw [hgi])|(rw [he])
          |(refine st_buildSliceN (vs := [P - Lk w A i]) (kk := .u64) (by rfl) (by rfl) (by rfl) (by rfl) (by rfl) (by rfl) (by rfl) (by rfl) fun _ => ?_)
          |(((refine st_call (by rfl) (by rfl) (by rfl) (sub_spec _ _ (D m P) [P - Lk w A i] (D_lt _ _) hlt2 (by omega) (by simp)) .nil (fun w hw => ⟨RdW.own (by repeat (first | apply Find.here | apply Find.there)) w hw, RdW.own (by repeat (first | apply Find.here | apply Find.there)) w hw⟩) (by rfl) ?_; rintro _ _ ⟨a, rfl, rfl⟩); rw [hs]))
          |refine Z01 ?_|refine Z02 ?_|refine Z03 ?_|refine Z04 ?_|refine Z05 ?_|refine Z06 ?_|refine Z07 ?_|refine Z08 ?_|refine Z09 ?_|refine Z10 ?_|refine Z11 ?_
          |refine Z12 ?_|refine Z13 ?_|refine Z14 ?_|refine Z15 ?_|refine Z16 ?_|refine Z17 ?_|refine Z18 ?_|refine Z19 ?_|refine Z20 ?_|refine Z21 ?_|refine Z22 ?_
          |refine Z23 ?_|refine Z24 ?_|refine Z25 ?_|refine Z26 ?_|refine Z27 ?_|refine Z28 ?_|refine Z36 ?_|refine Z37 ?_|refine Z43 ?_|refine Z44 ?_|refine Z45 ?_
          |refine Z49 ?_|refine Z50 ?_|refine Z51 ?_|refine Z52 ?_|refine Z53 ?_|refine Z58 ?_|refine Z59 ?_|refine Z62 ?_|refine Z63 ?_|refine Z64 ?_|refine Z67 ?_
          |refine Z70 ?_|refine Z71 ?_|refine Z72 ?_|refine Z73 ?_|refine Z74 ?_|refine Z80 ?_|refine Z83 fun _ => ?_|refine Z85 fun _ => ?_)
        refine st_round (i, a) (by simp only; omega) (by simp only; omega) ?_ (by repeat (first | apply SubW.nil | refine SubW.cons (by repeat (first | apply Find.here | apply Find.there)) ?_))
        rw [show (((i, a) : Nat × Value).1 : Int) - 1 = Int.ofNat i - Int.ofNat 1 from rfl]
        exact (by repeat (first | apply subL.nil | refine subL.cons (by rfl) ?_))
      · have hn0 : ¬ d < 0 := hneg
        have he : (d % ((18446744073709551616 : Nat) : Int)).toNat = Lk w A i - P := by omega
        have hlt2 : Lt 18446744073709551616 [Lk w A i - P] := fun x hx => by simp at hx; omega
        have hs : D (max (D m P).length [Lk w A i - P].length) (V (D m P) + V [Lk w A i - P]) = D m (Lk w A i) := by
          rw [hdmP, hvP, V_one, show max m [Lk w A i - P].length = m by simp; omega]; congr 1; omega
        repeat (first
          |(refine st_iaI (by rfl) (by rfl) (by rfl) (by rfl) (RdW.own (by repeat (first | apply Find.here | apply Find.there))) (by omega) (by rfl) ?_)
          |(refine st_load_I (by rfl) (RdW.own (by repeat (first | apply Find.here | apply Find.there))) (by omega) (by rfl) (by rfl) ?_)|(rw [hgi])|(rw [he])
          |(refine st_buildSliceN (vs := [Lk w A i - P]) (kk := .u64) (by rfl) (by rfl) (by rfl) (by rfl) (by rfl) (by rfl) (by rfl) (by rfl) fun _ => ?_)
          |(((refine st_call (by rfl) (by rfl) (by rfl) (add_spec _ _ (D m P) [Lk w A i - P] (D_lt _ _) hlt2 (by omega) (by simp)) .nil (fun w hw => ⟨RdW.own (by repeat (first | apply Find.here | apply Find.there)) w hw, RdW.own (by repeat (first | apply Find.here | apply Find.there)) w hw⟩) (by rfl) ?_; rintro _ _ ⟨a, rfl, rfl⟩); rw [hs]))
          |refine Z01 ?_|refine Z02 ?_|refine Z03 ?_|refine Z04 ?_|refine Z05 ?_|refine Z06 ?_|refine Z07 ?_|refine Z08 ?_|refine Z09 ?_|refine Z10 ?_|refine Z11 ?_
          |refine Z12 ?_|refine Z13 ?_|refine Z14 ?_|refine Z15 ?_|refine Z16 ?_|refine Z17 ?_|refine Z18 ?_|refine Z19 ?_|refine Z20 ?_|refine Z21 ?_|refine Z22 ?_
          |refine Z23 ?_|refine Z24 ?_|refine Z25 ?_|refine Z26 ?_|refine Z27 ?_|refine Z28 ?_|refine Z36 ?_|refine Z37 ?_|refine Z43 ?_|refine Z44 ?_|refine Z45 ?_
          |refine Z49 ?_|refine Z50 ?_|refine Z51 ?_|refine Z52 ?_|refine Z53 ?_|refine Z58 ?_|refine Z59 ?_|refine Z62 ?_|refine Z63 ?_|refine Z64 ?_|refine Z67 ?_
          |refine Z70 ?_|refine Z71 ?_|refine Z72 ?_|refine Z73 ?_|refine Z74 ?_|refine Z80 ?_|refine Z83 fun _ => ?_|refine Z85 fun _ => ?_)
        refine st_round (i, a) (by simp only; omega) (by simp only; omega) ?_ (by repeat (first | apply SubW.nil | refine SubW.cons (by repeat (first | apply Find.here | apply Find.there)) ?_))
        rw [show (((i, a) : Nat × Value).1 : Int) - 1 = Int.ofNat i - Int.ofNat 1 from rfl]
        exact (by repeat (first | apply subL.nil | refine subL.cons (by rfl) ?_))
    · have hp : ¬ (0 : Int) ≤ (j : Int) - 1 := hc
      have hj0 : j = 0 := by omega
      subst hj0
      have ho : ord3 (V (D m (Lk w A 0))) (V xs) = 0 := by rw [hvj, ← hA]; exact ord3_eq rfl
      repeat (first
        
        |((refine st_callV (by rfl) (by rfl) (by rfl) (cmp_spec v s (D m (Lk w A 0)) xs (D_lt _ _) hx (by omega) (by omega)) (fun w hw => ⟨RdW.own (by repeat (first | apply Find.here | apply Find.there)) w hw, RdW.old hr w hw⟩) (by rfl) ?_; rw [ho]))
        |refine Z01 ?_|refine Z02 ?_|refine Z03 ?_|refine Z04 ?_|refine Z05 ?_|refine Z06 ?_|refine Z07 ?_|refine Z08 ?_|refine Z09 ?_|refine Z10 ?_|refine Z11 ?_
        |refine Z12 ?_|refine Z13 ?_|refine Z14 ?_|refine Z15 ?_|refine Z16 ?_|refine Z17 ?_|refine Z18 ?_|refine Z19 ?_|refine Z20 ?_|refine Z21 ?_|refine Z22 ?_
        |refine Z23 ?_|refine Z24 ?_|refine Z25 ?_|refine Z26 ?_|refine Z27 ?_|refine Z28 ?_|refine Z36 ?_|refine Z37 ?_|refine Z43 ?_|refine Z44 ?_|refine Z45 ?_
        |refine Z49 ?_|refine Z50 ?_|refine Z51 ?_|refine Z52 ?_|refine Z53 ?_|refine Z58 ?_|refine Z59 ?_|refine Z62 ?_|refine Z63 ?_|refine Z64 ?_|refine Z67 ?_
        |refine Z70 ?_|refine Z71 ?_|refine Z72 ?_|refine Z73 ?_|refine Z74 ?_|refine Z80 ?_|refine Z83 fun _ => ?_|refine Z85 fun _ => ?_)
      refine Ze1 fun _ hw => post_of hw SubW.nil ⟨?_, rfl⟩
      rfl
end Go.Proofs.Ytbjfjkmidhfgcaa.L
