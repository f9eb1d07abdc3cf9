/- The digits of a number: the document's walk, and lists of digits compared. Conditions: as each statement says. -/
import Derived.Test.YtbjfjkmidhfgcaaAuto
import Derived.Test.YtbjfjkmidhfgcaaPerm
import Derived.Test.YtbjfjkmidhfgcaaMore
import Derived.Test.YtbjfjkmidhfgcaaProg
import Derived.Test.YtbjfjkmidhfgcaaNum
import Derived.Test.YtbjfjkmidhfgcaaLmb
import Derived.Test.YtbjfjkmidhfgcaaLmd
import Derived.Test.YtbjfjkmidhfgcaaLmo
import Derived.Test.YtbjfjkmidhfgcaaLmk
import Derived.Test.YtbjfjkmidhfgcaaScope
import Derived.Test.YtbjfjkmidhfgcaaJoin
import Derived.Test.YtbjfjkmidhfgcaaLma
import Derived.Test.YtbjfjkmidhfgcaaLmz
import Derived.Test.YtbjfjkmidhfgcaaLmv
import Derived.Test.YtbjfjkmidhfgcaaLmw
import Derived.Test.YtbjfjkmidhfgcaaLmx
import Derived.Test.YtbjfjkmidhfgcaaWin
import Derived.Test.YtbjfjkmidhfgcaaGho
import Derived.Test.YtbjfjkmidhfgcaaBld
import Derived.Test.YtbjfjkmidhfgcaaArr
namespace Go.Proofs.Ytbjfjkmidhfgcaa.L
open Go Go.Proofs
set_option maxRecDepth 100000
attribute [local irreducible] Code.wp wpList Af bodyPost L.Go
open Num
attribute [local simp] D_len

theorem rwindows_bad (s : Value) (w' : Int) (h : w' < 2 ∨ 8 < w') : Spec Try.prog 49 [s, .int .i64 w'] NoPre [] (IsV (.tuple #[.slice none 0 0, N .i64 1])) := by
  refine mk_spec Try.func49 rfl rfl rfl fun w _ => ?_
  by_cases h2 : w' < 2
  · have hz : cmpZ .lss w' (Int.ofNat 2) = some true := by simp [cmpZ]; omega
    repeat (first
      |(refine st_cmpz (by rfl) (by rfl) hz (by rfl) ?_)|refine Z01 ?_|refine Z02 ?_|refine Z03 ?_|refine Z04 ?_|refine Z05 ?_|refine Z06 ?_|refine Z07 ?_|refine Z08 ?_
      |refine Z09 ?_|refine Z10 ?_|refine Z11 ?_|refine Z12 ?_|refine Z13 ?_|refine Z14 ?_|refine Z15 ?_|refine Z16 ?_|refine Z17 ?_|refine Z18 ?_|refine Z19 ?_
      |refine Z20 ?_|refine Z21 ?_|refine Z22 ?_|refine Z23 ?_|refine Z24 ?_|refine Z25 ?_|refine Z26 ?_|refine Z27 ?_|refine Z28 ?_|refine Z29 ?_|refine Z30 ?_
      |refine Z31 ?_|refine Z32 ?_|refine Z33 ?_|refine Z38 ?_|refine Z42 ?_|refine Z43 ?_|refine Z44 ?_|refine Z45 ?_|refine Z49 ?_|refine Z50 ?_|refine Z51 ?_
      |refine Z52 ?_|refine Z53 ?_|refine Z58 ?_|refine Z59 ?_|refine Z67 ?_|refine Z70 ?_|refine Z71 ?_|refine Z72 ?_|refine Z73 ?_|refine Z74 ?_|refine Z80 ?_
      |refine Z84 fun _ => ?_|refine Z85 fun _ => ?_)
    exact Ze2 fun _ hw => post_of hw SubW.nil ⟨rfl, rfl⟩
  · have hz : cmpZ .lss w' (Int.ofNat 2) = some false := by simp [cmpZ]; omega
    have hz2 : cmpZ .gtr w' (Int.ofNat 8) = some true := by simp [cmpZ]; omega
    repeat (first
      |(refine st_cmpz (by rfl) (by rfl) hz (by rfl) ?_)|(refine st_cmpz (by rfl) (by rfl) hz2 (by rfl) ?_)|refine Z01 ?_|refine Z02 ?_|refine Z03 ?_|refine Z04 ?_
      |refine Z05 ?_|refine Z06 ?_|refine Z07 ?_|refine Z08 ?_|refine Z09 ?_|refine Z10 ?_|refine Z11 ?_|refine Z12 ?_|refine Z13 ?_|refine Z14 ?_|refine Z15 ?_
      |refine Z16 ?_|refine Z17 ?_|refine Z18 ?_|refine Z19 ?_|refine Z20 ?_|refine Z21 ?_|refine Z22 ?_|refine Z23 ?_|refine Z24 ?_|refine Z25 ?_|refine Z26 ?_
      |refine Z27 ?_|refine Z28 ?_|refine Z29 ?_|refine Z30 ?_|refine Z31 ?_|refine Z32 ?_|refine Z33 ?_|refine Z38 ?_|refine Z42 ?_|refine Z43 ?_|refine Z44 ?_
      |refine Z45 ?_|refine Z49 ?_|refine Z50 ?_|refine Z51 ?_|refine Z52 ?_|refine Z53 ?_|refine Z58 ?_|refine Z59 ?_|refine Z67 ?_|refine Z70 ?_|refine Z71 ?_
      |refine Z72 ?_|refine Z73 ?_|refine Z74 ?_|refine Z80 ?_|refine Z84 fun _ => ?_|refine Z85 fun _ => ?_)
    exact Ze2 fun _ hw => post_of hw SubW.nil ⟨rfl, rfl⟩

theorem one_shl {w : Nat} (hw : w ≤ 8) : (1 % 18446744073709551616) <<< (w % 18446744073709551616) % 18446744073709551616 = 2 ^ w := by
  have h : 2 ^ w ≤ 256 := Nat.pow_le_pow_right (n := 2) (by decide) hw
  rw [Nat.mod_eq_of_lt (a := w) (by omega), show 1 % 18446744073709551616 = 1 from rfl, Nat.shiftLeft_eq, Nat.one_mul, Nat.mod_eq_of_lt (by omega)]
theorem one_shl' {w : Nat} (hw : w ≤ 8) : 1 <<< (w % 18446744073709551616) % 18446744073709551616 = 2 ^ w := one_shl hw
theorem ext0 {xs : List Nat} (hx : Lt 18446744073709551616 xs) : xs ++ [0] = D (xs.length + 1) (V xs) := by
  refine D_of_V (fun y hy => ?_) (by simp) (by rw [V_snoc rfl, Nat.mul_zero, Nat.add_zero])
  rcases List.mem_append.1 hy with h | h
  · exact hx y h
  · simp at h; subst h; decide

set_option maxHeartbeats 4000000 in
theorem rwindows_spec (s : Value) (xs : List Nat) (w : Nat) (hx : Lt 18446744073709551616 xs) (hl : xs.length < 65536) (hw : 2 ≤ w) (hw8 : w ≤ 8) :
    Spec Try.prog 49 [s, N .i64 w] (fun w => Rd w s (xs.map (N .u64))) [] (fun v Wr => ∃ u, v = .tuple [u, N .i64 0].toArray ∧ Wr = [.sl u (IV (digits w (V xs))) 3]) := by
  refine mk_spec Try.func49 rfl rfl rfl fun wd hr0 => ?_
  have hr := RdC.mk0 hr0
  have hx0 := ext0 hx
  repeat (first
    |(refine st_cmp (r := false) (by rfl) (by rfl) (cmpN_f (by first | (simp only [cmpQ]; done) | (simp only [cmpQ]; omega))) (by rfl) ?_)
    |(refine st_buildSliceN (vs := []) (kk := .u64) (by rfl) (by rfl) (by rfl) (by rfl) (by rfl) (by rfl) (by rfl) (by rfl) fun _ => ?_)
    |(refine st_buildSliceN (vs := [0]) (kk := .u64) (by rfl) (by rfl) (by rfl) (by rfl) (by rfl) (by rfl) (by rfl) (by rfl) fun _ => ?_)|(rw [List.nil_append])
    |(rw [hx0])|refine Z01 ?_|refine Z02 ?_|refine Z03 ?_|refine Z04 ?_|refine Z05 ?_|refine Z06 ?_|refine Z07 ?_|refine Z08 ?_|refine Z09 ?_|refine Z10 ?_|refine Z11 ?_
    |refine Z12 ?_|refine Z13 ?_|refine Z14 ?_|refine Z15 ?_|refine Z16 ?_|refine Z17 ?_|refine Z18 ?_|refine Z19 ?_|refine Z20 ?_|refine Z21 ?_|refine Z22 ?_
    |refine Z23 ?_|refine Z24 ?_|refine Z25 ?_|refine Z26 ?_|refine Z27 ?_|refine Z28 ?_|refine Z29 ?_|refine Z30 ?_|refine Z31 ?_|refine Z32 ?_|refine Z33 ?_
    |refine Z38 ?_|refine Z42 ?_|refine Z43 ?_|refine Z44 ?_|refine Z45 ?_|refine Z49 ?_|refine Z50 ?_|refine Z51 ?_|refine Z52 ?_|refine Z53 ?_|refine Z58 ?_
    |refine Z59 ?_|refine Z67 ?_|refine Z70 ?_|refine Z71 ?_|refine Z72 ?_|refine Z73 ?_|refine Z74 ?_|refine Z80 ?_|refine Z84 fun _ => ?_|refine Z85 fun _ => ?_)
  rename_i s20 s22 s23 s24
  refine st_own_nil 3 ?_
  obtain ⟨A, hA⟩ : ∃ A, A = V xs := ⟨_, rfl⟩
  obtain ⟨m, hm⟩ : ∃ m, m = xs.length + 1 := ⟨_, rfl⟩
  rw [← hA, ← hm]
  have p0 := (pow_half hw).2
  have p1 : 2 ^ (w - 1) ≤ 128 := Nat.pow_le_pow_right (n := 2) (by decide) (show w - 1 ≤ 7 by omega)
  have p2 : 2 ^ w ≤ 256 := Nat.pow_le_pow_right (n := 2) (by decide) hw8
  have hAl : A + 256 < W ^ m := by
    have h1 := V_lt hx
    have h2 : W ^ m = W ^ xs.length * W := by rw [hm, Nat.pow_succ]
    have h3 : 2 * W ^ xs.length ≤ W ^ xs.length * W := by rw [Nat.mul_comm]; exact Nat.mul_le_mul_left _ (by decide)
    have h4 : 512 ≤ W ^ m := Nat.le_trans (show 512 ≤ W by decide) (by rw [h2]; exact Nat.le_mul_of_pos_left _ (W_pow_pos _))
    omega
  refine st_loop (ι := Nat × Value × Value) (fun q => q.1 = 0 ∨ Lk w A (q.1 - 1) ≠ 0)
    (fun q => [(1, N .i64 w), (6, q.2.1), (7, q.2.2)])
    (fun q => [.sl q.2.2 (IV (outs w A q.1)) 3, .sl q.2.1 ((D m (Lk w A q.1)).map (N .u64)) 30]) (fun q => Lk w A q.1) (0, s24, .slice none 0 0) (.inl rfl) (by repeat (first | apply subL.nil | refine subL.cons (by rfl) ?_)) (by repeat (first | apply SubW.nil | refine SubW.cons (by repeat (first | apply Find.here | apply Find.there)) ?_)) ?_
  rintro ⟨k, u, v⟩ hk
  simp only at hk ⊢
  obtain ⟨L, hL⟩ : ∃ L, L = Lk w A k := ⟨_, rfl⟩
  have hLA := Lk_le hw A k
  rw [← hL] at hLA ⊢
  have hdl := D_len m L
  have hv := V_D' (n := m) (v := L) (by omega)
  have hml : m ≤ 65536 := by omega
  by_cases h0 : L = 0
  · have ho : ord3 (V (D m L)) (V []) = 0 := ord3_eq (by rw [hv, h0, V_nil])
    repeat (first
      
      |((refine st_callV (by rfl) (by rfl) (by rfl) (cmp3_spec u (.slice none 0 0) (D m L) [] (D_lt _ _) (Lt.nil _) (by omega) (by decide)) (fun w hw => ⟨RdW.own (by repeat (first | apply Find.here | apply Find.there)) w hw, Rd.nil w⟩) (by rfl) ?_; rw [ho]))
      |refine Z01 ?_|refine Z02 ?_|refine Z03 ?_|refine Z04 ?_|refine Z05 ?_|refine Z06 ?_|refine Z07 ?_|refine Z08 ?_|refine Z09 ?_|refine Z10 ?_|refine Z11 ?_
      |refine Z12 ?_|refine Z13 ?_|refine Z14 ?_|refine Z15 ?_|refine Z16 ?_|refine Z17 ?_|refine Z18 ?_|refine Z19 ?_|refine Z20 ?_|refine Z21 ?_|refine Z22 ?_
      |refine Z23 ?_|refine Z24 ?_|refine Z25 ?_|refine Z26 ?_|refine Z27 ?_|refine Z28 ?_|refine Z29 ?_|refine Z30 ?_|refine Z31 ?_|refine Z32 ?_|refine Z33 ?_
      |refine Z38 ?_|refine Z42 ?_|refine Z43 ?_|refine Z44 ?_|refine Z45 ?_|refine Z49 ?_|refine Z50 ?_|refine Z51 ?_|refine Z52 ?_|refine Z53 ?_|refine Z58 ?_
      |refine Z59 ?_|refine Z67 ?_|refine Z70 ?_|refine Z71 ?_|refine Z72 ?_|refine Z73 ?_|refine Z74 ?_|refine Z80 ?_|refine Z84 fun _ => ?_|refine Z85 fun _ => ?_)
    rw [outs_digits hw (by rw [← hL]; exact h0) hk]
    exact Ze2 fun _ hw => post_of hw (Wout := [.sl v (IV (digits w A)) 3]) (by exact (by repeat (first | apply SubW.nil | refine SubW.cons (by repeat (first | apply Find.here | apply Find.there)) ?_))) ⟨_, rfl, rfl⟩
  have ho : ord3 (V (D m L)) (V []) = 1 := ord3_gt (by rw [hv, V_nil]; omega)
  have hg : (D m L).getD 0 0 = L % W := by rw [D_getD' (by omega), Nat.pow_zero, Nat.div_one]
  have h1s := one_shl' hw8
  have hrem : L % W % 2 ^ w = L % 2 ^ w := Nat.mod_mod_of_dvd _ ⟨2 ^ (64 - w), by rw [← Nat.pow_add, show w + (64 - w) = 64 by omega]; rfl⟩
  have hw1 : (w - 1) % 18446744073709551616 = w - 1 := Nat.mod_eq_of_lt (by omega)
  have hw2 : w % 18446744073709551616 = w := Nat.mod_eq_of_lt (by omega)
  have hw3 : (64 - w) % 18446744073709551616 = 64 - w := Nat.mod_eq_of_lt (by omega)
  have hLm : L % 2 ^ w < 2 ^ w := Nat.mod_lt _ (Nat.two_pow_pos w)
  have hwe := wdig_eq w L
  have hol := outs_len w A k
  have hout : outs w A k ++ [wdig w L] = outs w A (k + 1) := by rw [outs, ← hL]
  have hbd := wdig_bounds hw L
  have hkm : k < 50000000 := by
    have h1 := digits_ge hw hk
    have h2 := digits_bound hw (A := A) (n := 64 * xs.length) (by have := V_lt hx; rw [W_2, ← Nat.pow_mul, ← hA] at this; exact this)
    omega
  repeat (first
    
    |((refine st_callV (by rfl) (by rfl) (by rfl) (cmp3_spec u (.slice none 0 0) (D m L) [] (D_lt _ _) (Lt.nil _) (by omega) (by decide)) (fun w hw => ⟨RdW.own (by repeat (first | apply Find.here | apply Find.there)) w hw, Rd.nil w⟩) (by rfl) ?_; rw [ho]))
    |(rw [hg])|(rw [h1s])|(refine st_umod (by rfl) (by rfl) (by omega) (by rfl) ?_)|(rw [hrem])
    |(refine st_ishl (by first | (with_reducible apply evc) | rfl) (by rfl) (by omega) (by rw [hw1]; omega) (by rfl) ?_)|(rw [hw1])|(rw [Nat.one_mul])|refine Z01 ?_
    |refine Z02 ?_|refine Z03 ?_|refine Z04 ?_|refine Z05 ?_|refine Z06 ?_|refine Z07 ?_|refine Z08 ?_|refine Z09 ?_|refine Z10 ?_|refine Z11 ?_|refine Z12 ?_
    |refine Z13 ?_|refine Z14 ?_|refine Z15 ?_|refine Z16 ?_|refine Z17 ?_|refine Z18 ?_|refine Z19 ?_|refine Z20 ?_|refine Z21 ?_|refine Z22 ?_|refine Z23 ?_
    |refine Z24 ?_|refine Z25 ?_|refine Z26 ?_|refine Z27 ?_|refine Z28 ?_|refine Z29 ?_|refine Z30 ?_|refine Z31 ?_|refine Z32 ?_|refine Z33 ?_|refine Z38 ?_
    |refine Z42 ?_|refine Z43 ?_|refine Z44 ?_|refine Z45 ?_|refine Z49 ?_|refine Z50 ?_|refine Z51 ?_|refine Z52 ?_|refine Z53 ?_|refine Z58 ?_|refine Z59 ?_
    |refine Z67 ?_|refine Z70 ?_|refine Z71 ?_|refine Z72 ?_|refine Z73 ?_|refine Z74 ?_|refine Z80 ?_|refine Z84 fun _ => ?_|refine Z85 fun _ => ?_)
  refine st_cond (by rfl) (fun hd => ?_) (fun hd => ?_)
  · have hwd : wdig w L = Int.ofNat (L % 2 ^ w) - Int.ofNat (2 ^ w) := by unfold wdig; rw [if_pos hd]; rfl
    obtain ⟨X, hX0⟩ : ∃ X, X = L + (2 ^ w - L % 2 ^ w) := ⟨_, rfl⟩
    have hX : X = 2 ^ w * wnext w L := by
      simp only [Int.ofNat_eq_natCast] at hwd; omega
    have hXW : X < W ^ m := by omega
    have he : ((-(wdig w L)) % ((18446744073709551616 : Nat) : Int)).toNat = 2 ^ w - L % 2 ^ w := by
      simp only [Int.ofNat_eq_natCast] at hwd; omega
    have hadd : D (max (D m L).length [2 ^ w - L % 2 ^ w].length) (V (D m L) + V [2 ^ w - L % 2 ^ w]) = D m X := by
      rw [hdl, hv, V_one, ← hX0]; congr 1; simp; omega
    have hlt1 : Lt 18446744073709551616 [2 ^ w - L % 2 ^ w] := fun x hx => by simp at hx; omega
    repeat (first
      |(refine st_ishl (by first | (with_reducible apply evc) | rfl) (by rfl) (by omega) (by rw [hw2]; omega) (by rfl) ?_)|(rw [hw2])|(rw [Nat.one_mul])|(rw [← hwd])
      |(rw [he])|(refine st_buildSliceN (vs := [2 ^ w - L % 2 ^ w]) (kk := .u64) (by rfl) (by rfl) (by rfl) (by rfl) (by rfl) (by rfl) (by rfl) (by rfl) fun _ => ?_)
      |(((refine st_call (by rfl) (by rfl) (by rfl) (add3_spec u _ (D m L) [2 ^ w - L % 2 ^ w] (D_lt _ _) hlt1 (by omega) (by simp)) .nil (fun w hw => ⟨RdW.own (by repeat (first | apply Find.here | apply Find.there)) w hw, RdW.own (by repeat (first | apply Find.here | apply Find.there)) w hw⟩) (by rfl) ?_; rintro _ _ ⟨a, rfl, rfl⟩); rw [hadd]))
      |(refine st_buildSliceI (vs := [wdig w L]) (by rfl) (by rfl) (by rfl) (by rfl) (by rfl) (by rfl) (by rfl) (by rfl) fun _ => ?_)
      |(refine st_appendI (ys := [wdig w L]) (by rfl) (by rfl) (by repeat (first | apply Find.here | apply Find.there)) (RdW.own (by repeat (first | apply Find.here | apply Find.there))) (by rfl) (by rfl) (by rfl) (by rfl) (by rw [hol]; simp; omega) (by rw [hol]; simp; omega) (by rfl) fun _ => ?_)
      |(rw [hout])|refine Z01 ?_|refine Z02 ?_|refine Z03 ?_|refine Z04 ?_|refine Z05 ?_|refine Z06 ?_|refine Z07 ?_|refine Z08 ?_|refine Z09 ?_|refine Z10 ?_
      |refine Z11 ?_|refine Z12 ?_|refine Z13 ?_|refine Z14 ?_|refine Z15 ?_|refine Z16 ?_|refine Z17 ?_|refine Z18 ?_|refine Z19 ?_|refine Z20 ?_|refine Z21 ?_
      |refine Z22 ?_|refine Z23 ?_|refine Z24 ?_|refine Z25 ?_|refine Z26 ?_|refine Z27 ?_|refine Z28 ?_|refine Z29 ?_|refine Z30 ?_|refine Z31 ?_|refine Z32 ?_
      |refine Z33 ?_|refine Z38 ?_|refine Z42 ?_|refine Z43 ?_|refine Z44 ?_|refine Z45 ?_|refine Z49 ?_|refine Z50 ?_|refine Z51 ?_|refine Z52 ?_|refine Z53 ?_
      |refine Z58 ?_|refine Z59 ?_|refine Z67 ?_|refine Z70 ?_|refine Z71 ?_|refine Z72 ?_|refine Z73 ?_|refine Z74 ?_|refine Z80 ?_|refine Z84 fun _ => ?_
      |refine Z85 fun _ => ?_)
    rename_i s68 v2
    have hXn : X / 2 ^ w = Lk w A (k + 1) := by
      show _ = wnext w (Lk w A k)
      rw [← hL, hX, Nat.mul_div_cancel_left _ (Nat.two_pow_pos w)]
    refine st_loop (ι := Nat) (fun i => i ≤ m) (fun i => [(1, N .i64 w), (6, a), (7, v2), (13, N .i64 i)]) (fun i => [.sl a ((D i (X / 2 ^ w) ++ (D m X).drop i).map (N .u64)) 30, .sl v2 (IV (outs w A (k + 1))) 3]) (fun i => m - i) 0 (Nat.zero_le _) (by repeat (first | apply subL.nil | refine subL.cons (by rfl) ?_)) (by rw [D_0, List.nil_append, List.drop_zero]; exact (by repeat (first | apply SubW.nil | refine SubW.cons (by repeat (first | apply Find.here | apply Find.there)) ?_))) ?_
    intro i hi
    have hdl := D_len i (X / 2 ^ w)
    have hdm := D_len m X
    have hpl : (D i (X / 2 ^ w) ++ (D m X).drop i).length = m := by rw [List.length_append, hdl, List.length_drop, hdm]; omega
    by_cases him : i < m
    · have hg0 := (drop_get (xs := D m X) hdl).trans (D_getD' hXW i)
      have hg1 := (drop_get1 (xs := D m X) hdl).trans (D_getD' hXW (i + 1))
      repeat (first
        |(refine st_cmp (r := true) (by rfl) (by rfl) (cmpN_t (by first | (simp only [cmpP]; done) | (simp only [cmpP]; omega))) (by rfl) ?_)|refine Z01 ?_|refine Z02 ?_
        |refine Z03 ?_|refine Z04 ?_|refine Z05 ?_|refine Z06 ?_|refine Z07 ?_|refine Z08 ?_|refine Z09 ?_|refine Z10 ?_|refine Z11 ?_|refine Z12 ?_|refine Z13 ?_
        |refine Z14 ?_|refine Z15 ?_|refine Z16 ?_|refine Z17 ?_|refine Z18 ?_|refine Z19 ?_|refine Z20 ?_|refine Z21 ?_|refine Z22 ?_|refine Z23 ?_|refine Z24 ?_
        |refine Z25 ?_|refine Z26 ?_|refine Z27 ?_|refine Z28 ?_|refine Z29 ?_|refine Z30 ?_|refine Z31 ?_|refine Z32 ?_|refine Z33 ?_|refine Z38 ?_|refine Z42 ?_
        |refine Z43 ?_|refine Z44 ?_|refine Z45 ?_|refine Z49 ?_|refine Z50 ?_|refine Z51 ?_|refine Z52 ?_|refine Z53 ?_|refine Z58 ?_|refine Z59 ?_|refine Z67 ?_
        |refine Z70 ?_|refine Z71 ?_|refine Z72 ?_|refine Z73 ?_|refine Z74 ?_|refine Z80 ?_|refine Z84 fun _ => ?_|refine Z85 fun _ => ?_)
      refine st_draw1 (by rfl) ?_
      repeat (first
        |refine Zqf (by intro _ _ _;(first
          |(refine st_shr (by rfl) (by rfl) (show w % 18446744073709551616 ≤ 64 by omega) (by rfl) ?_)|refine Z01 ?_|refine Z02 ?_|refine Z15 ?_|refine Z16 ?_
          |refine Z17 ?_|refine Z18 ?_|refine Z19 ?_|refine Z20 ?_|refine Z21 ?_|refine Z22 ?_|refine Z23 ?_|refine Z33 ?_|refine Z38 ?_|refine Z42 ?_|refine Z43 ?_
          |refine Z44 ?_|refine Z45 ?_|refine Z49 ?_|refine Z50 ?_|refine Z58 ?_|refine Z59 ?_|refine Z70 ?_|refine Z71 ?_|refine Z72 ?_|refine Z73 ?_|refine Z74 ?_
          |refine Z80 ?_);exact Zq) ?_
        |refine Zqp (by intro _ _ _;(first
          |refine Z24 ?_|refine Z25 ?_|refine Z26 ?_|refine Z27 ?_|refine Z28 ?_|refine Z67 ?_|refine Z23 ?_|refine Z20 ?_|refine Z21 ?_);exact Zq) ?_
        |refine Zqe (by intro _ _ _;(first
          |refine Z29 ?_|refine Z30 ?_|refine Z31 ?_|refine Z32 ?_);exact Zqq) ?_
        |refine Zqp (by intro _ _ _;(refine st_callV (by rfl) (by rfl) (by rfl) (at3_spec a (D i (X / 2 ^ w) ++ (D m X).drop i) (i + 1) (by omega)) (RdW.own (by repeat (first | apply Find.here | apply Find.there))) (by rfl) ?_);exact Zq) ?_
        |refine Zqn ?_)
      refine Zq0 ?_ (by kernel_rfl)
      rw [hg0, hg1, hw2, hw3, shift_word (by omega), drop_set hdl (by omega), ← D_snoc]
      repeat (first
        |refine Z01 ?_|refine Z02 ?_|refine Z03 ?_|refine Z04 ?_|refine Z05 ?_|refine Z06 ?_|refine Z07 ?_|refine Z08 ?_|refine Z09 ?_|refine Z10 ?_|refine Z11 ?_
        |refine Z12 ?_|refine Z13 ?_|refine Z14 ?_|refine Z15 ?_|refine Z16 ?_|refine Z17 ?_|refine Z18 ?_|refine Z19 ?_|refine Z20 ?_|refine Z21 ?_|refine Z22 ?_
        |refine Z23 ?_|refine Z24 ?_|refine Z25 ?_|refine Z26 ?_|refine Z27 ?_|refine Z28 ?_|refine Z29 ?_|refine Z30 ?_|refine Z31 ?_|refine Z32 ?_|refine Z33 ?_
        |refine Z38 ?_|refine Z42 ?_|refine Z43 ?_|refine Z44 ?_|refine Z45 ?_|refine Z49 ?_|refine Z50 ?_|refine Z51 ?_|refine Z52 ?_|refine Z53 ?_|refine Z58 ?_
        |refine Z59 ?_|refine Z67 ?_|refine Z70 ?_|refine Z71 ?_|refine Z72 ?_|refine Z73 ?_|refine Z74 ?_|refine Z80 ?_|refine Z84 fun _ => ?_|refine Z85 fun _ => ?_)
      exact st_round (i + 1) (by omega) (by omega) (by repeat (first | apply subL.nil | refine subL.cons (by rfl) ?_)) (by repeat (first | apply SubW.nil | refine SubW.cons (by repeat (first | apply Find.here | apply Find.there)) ?_))
    · have hie : i = m := by omega
      subst hie
      rw [List.drop_eq_nil_of_le (by omega), List.append_nil, hXn]
      have hdl3 := D_len i (Lk w A (k + 1))
      repeat (first
        |(rw [hdl3])|(refine st_cmp (r := false) (by rfl) (by rfl) (cmpN_f (by first | (simp only [cmpQ]; done) | (simp only [cmpQ]; omega))) (by rfl) ?_)|refine Z01 ?_
        |refine Z02 ?_|refine Z03 ?_|refine Z04 ?_|refine Z05 ?_|refine Z06 ?_|refine Z07 ?_|refine Z08 ?_|refine Z09 ?_|refine Z10 ?_|refine Z11 ?_|refine Z12 ?_
        |refine Z13 ?_|refine Z14 ?_|refine Z15 ?_|refine Z16 ?_|refine Z17 ?_|refine Z18 ?_|refine Z19 ?_|refine Z20 ?_|refine Z21 ?_|refine Z22 ?_|refine Z23 ?_
        |refine Z24 ?_|refine Z25 ?_|refine Z26 ?_|refine Z27 ?_|refine Z28 ?_|refine Z29 ?_|refine Z30 ?_|refine Z31 ?_|refine Z32 ?_|refine Z33 ?_|refine Z38 ?_
        |refine Z42 ?_|refine Z43 ?_|refine Z44 ?_|refine Z45 ?_|refine Z49 ?_|refine Z50 ?_|refine Z51 ?_|refine Z52 ?_|refine Z53 ?_|refine Z58 ?_|refine Z59 ?_
        |refine Z67 ?_|refine Z70 ?_|refine Z71 ?_|refine Z72 ?_|refine Z73 ?_|refine Z74 ?_|refine Z80 ?_|refine Z84 fun _ => ?_|refine Z85 fun _ => ?_)
      have hlt2 : Lk w A (k + 1) < Lk w A k := by rw [Lk, ← hL]; exact wnext_lt hw (Nat.pos_of_ne_zero h0)
      exact st_round (k + 1, a, v2) (.inr (by show Lk w A k ≠ 0; rw [← hL]; exact h0)) (by show _ < L; rw [hL]; exact hlt2) (by repeat (first | apply subL.nil | refine subL.cons (by rfl) ?_)) (by repeat (first | apply SubW.nil | refine SubW.cons (by repeat (first | apply Find.here | apply Find.there)) ?_))
  · have hwd : wdig w L = Int.ofNat (L % 2 ^ w) := by unfold wdig; rw [if_neg hd]; rfl
    obtain ⟨X, hX0⟩ : ∃ X, X = L - L % 2 ^ w := ⟨_, rfl⟩
    have hX : X = 2 ^ w * wnext w L := by
      simp only [Int.ofNat_eq_natCast] at hwd; omega
    have hXW : X < W ^ m := by omega
    have he : ((wdig w L) % ((18446744073709551616 : Nat) : Int)).toNat = L % 2 ^ w := by
      simp only [Int.ofNat_eq_natCast] at hwd; omega
    have hadd : D (max (D m L).length [L % 2 ^ w].length) (sbn (max (D m L).length [L % 2 ^ w].length) (V (D m L)) (V [L % 2 ^ w])) = D m X := by
      rw [hdl, hv, V_one, show max m [L % 2 ^ w].length = m by simp; omega, D_sbn (Nat.mod_le _ _), ← hX0]
    have hlt1 : Lt 18446744073709551616 [L % 2 ^ w] := fun x hx => by simp at hx; omega
    rw [show N .i64 (L % 2 ^ w) = Value.int .i64 (wdig w L) from congrArg _ hwd.symm]
    repeat (first
      |(rw [he])|(refine st_buildSliceN (vs := [L % 2 ^ w]) (kk := .u64) (by rfl) (by rfl) (by rfl) (by rfl) (by rfl) (by rfl) (by rfl) (by rfl) fun _ => ?_)
      |(((refine st_call (by rfl) (by rfl) (by rfl) (sub3_spec u _ (D m L) [L % 2 ^ w] (D_lt _ _) hlt1 (by omega) (by simp)) .nil (fun w hw => ⟨RdW.own (by repeat (first | apply Find.here | apply Find.there)) w hw, RdW.own (by repeat (first | apply Find.here | apply Find.there)) w hw⟩) (by rfl) ?_; rintro _ _ ⟨a, rfl, rfl⟩); rw [hadd]))
      |(refine st_buildSliceI (vs := [wdig w L]) (by rfl) (by rfl) (by rfl) (by rfl) (by rfl) (by rfl) (by rfl) (by rfl) fun _ => ?_)
      |(refine st_appendI (ys := [wdig w L]) (by rfl) (by rfl) (by repeat (first | apply Find.here | apply Find.there)) (RdW.own (by repeat (first | apply Find.here | apply Find.there))) (by rfl) (by rfl) (by rfl) (by rfl) (by rw [hol]; simp; omega) (by rw [hol]; simp; omega) (by rfl) fun _ => ?_)
      |(rw [hout])|refine Z01 ?_|refine Z02 ?_|refine Z03 ?_|refine Z04 ?_|refine Z05 ?_|refine Z06 ?_|refine Z07 ?_|refine Z08 ?_|refine Z09 ?_|refine Z10 ?_
      |refine Z11 ?_|refine Z12 ?_|refine Z13 ?_|refine Z14 ?_|refine Z15 ?_|refine Z16 ?_|refine Z17 ?_|refine Z18 ?_|refine Z19 ?_|refine Z20 ?_|refine Z21 ?_
      |refine Z22 ?_|refine Z23 ?_|refine Z24 ?_|refine Z25 ?_|refine Z26 ?_|refine Z27 ?_|refine Z28 ?_|refine Z29 ?_|refine Z30 ?_|refine Z31 ?_|refine Z32 ?_
      |refine Z33 ?_|refine Z38 ?_|refine Z42 ?_|refine Z43 ?_|refine Z44 ?_|refine Z45 ?_|refine Z49 ?_|refine Z50 ?_|refine Z51 ?_|refine Z52 ?_|refine Z53 ?_
      |refine Z58 ?_|refine Z59 ?_|refine Z67 ?_|refine Z70 ?_|refine Z71 ?_|refine Z72 ?_|refine Z73 ?_|refine Z74 ?_|refine Z80 ?_|refine Z84 fun _ => ?_
      |refine Z85 fun _ => ?_)
    rename_i s68 v2
    have hXn : X / 2 ^ w = Lk w A (k + 1) := by
      show _ = wnext w (Lk w A k)
      rw [← hL, hX, Nat.mul_div_cancel_left _ (Nat.two_pow_pos w)]
    refine st_loop (ι := Nat) (fun i => i ≤ m) (fun i => [(1, N .i64 w), (6, a), (7, v2), (13, N .i64 i)]) (fun i => [.sl a ((D i (X / 2 ^ w) ++ (D m X).drop i).map (N .u64)) 30, .sl v2 (IV (outs w A (k + 1))) 3]) (fun i => m - i) 0 (Nat.zero_le _) (by repeat (first | apply subL.nil | refine subL.cons (by rfl) ?_)) (by rw [D_0, List.nil_append, List.drop_zero]; exact (by repeat (first | apply SubW.nil | refine SubW.cons (by repeat (first | apply Find.here | apply Find.there)) ?_))) ?_
    intro i hi
    have hdl := D_len i (X / 2 ^ w)
    have hdm := D_len m X
    have hpl : (D i (X / 2 ^ w) ++ (D m X).drop i).length = m := by rw [List.length_append, hdl, List.length_drop, hdm]; omega
    by_cases him : i < m
    · have hg0 := (drop_get (xs := D m X) hdl).trans (D_getD' hXW i)
      have hg1 := (drop_get1 (xs := D m X) hdl).trans (D_getD' hXW (i + 1))
      repeat (first
        |(refine st_cmp (r := true) (by rfl) (by rfl) (cmpN_t (by first | (simp only [cmpP]; done) | (simp only [cmpP]; omega))) (by rfl) ?_)|refine Z01 ?_|refine Z02 ?_
        |refine Z03 ?_|refine Z04 ?_|refine Z05 ?_|refine Z06 ?_|refine Z07 ?_|refine Z08 ?_|refine Z09 ?_|refine Z10 ?_|refine Z11 ?_|refine Z12 ?_|refine Z13 ?_
        |refine Z14 ?_|refine Z15 ?_|refine Z16 ?_|refine Z17 ?_|refine Z18 ?_|refine Z19 ?_|refine Z20 ?_|refine Z21 ?_|refine Z22 ?_|refine Z23 ?_|refine Z24 ?_
        |refine Z25 ?_|refine Z26 ?_|refine Z27 ?_|refine Z28 ?_|refine Z29 ?_|refine Z30 ?_|refine Z31 ?_|refine Z32 ?_|refine Z33 ?_|refine Z38 ?_|refine Z42 ?_
        |refine Z43 ?_|refine Z44 ?_|refine Z45 ?_|refine Z49 ?_|refine Z50 ?_|refine Z51 ?_|refine Z52 ?_|refine Z53 ?_|refine Z58 ?_|refine Z59 ?_|refine Z67 ?_
        |refine Z70 ?_|refine Z71 ?_|refine Z72 ?_|refine Z73 ?_|refine Z74 ?_|refine Z80 ?_|refine Z84 fun _ => ?_|refine Z85 fun _ => ?_)
      refine st_draw1 (by rfl) ?_
      repeat (first
        |refine Zqf (by intro _ _ _;(first
          |(refine st_shr (by rfl) (by rfl) (show w % 18446744073709551616 ≤ 64 by omega) (by rfl) ?_)|refine Z01 ?_|refine Z02 ?_|refine Z15 ?_|refine Z16 ?_
          |refine Z17 ?_|refine Z18 ?_|refine Z19 ?_|refine Z20 ?_|refine Z21 ?_|refine Z22 ?_|refine Z23 ?_|refine Z33 ?_|refine Z38 ?_|refine Z42 ?_|refine Z43 ?_
          |refine Z44 ?_|refine Z45 ?_|refine Z49 ?_|refine Z50 ?_|refine Z58 ?_|refine Z59 ?_|refine Z70 ?_|refine Z71 ?_|refine Z72 ?_|refine Z73 ?_|refine Z74 ?_
          |refine Z80 ?_);exact Zq) ?_
        |refine Zqp (by intro _ _ _;(first
          |refine Z24 ?_|refine Z25 ?_|refine Z26 ?_|refine Z27 ?_|refine Z28 ?_|refine Z67 ?_|refine Z23 ?_|refine Z20 ?_|refine Z21 ?_);exact Zq) ?_
        |refine Zqe (by intro _ _ _;(first
          |refine Z29 ?_|refine Z30 ?_|refine Z31 ?_|refine Z32 ?_);exact Zqq) ?_
        |refine Zqp (by intro _ _ _;(refine st_callV (by rfl) (by rfl) (by rfl) (at3_spec a (D i (X / 2 ^ w) ++ (D m X).drop i) (i + 1) (by omega)) (RdW.own (by repeat (first | apply Find.here | apply Find.there))) (by rfl) ?_);exact Zq) ?_
        |refine Zqn ?_)
      refine Zq0 ?_ (by kernel_rfl)
      rw [hg0, hg1, hw2, hw3, shift_word (by omega), drop_set hdl (by omega), ← D_snoc]
      repeat (first
        |refine Z01 ?_|refine Z02 ?_|refine Z03 ?_|refine Z04 ?_|refine Z05 ?_|refine Z06 ?_|refine Z07 ?_|refine Z08 ?_|refine Z09 ?_|refine Z10 ?_|refine Z11 ?_
        |refine Z12 ?_|refine Z13 ?_|refine Z14 ?_|refine Z15 ?_|refine Z16 ?_|refine Z17 ?_|refine Z18 ?_|refine Z19 ?_|refine Z20 ?_|refine Z21 ?_|refine Z22 ?_
        |refine Z23 ?_|refine Z24 ?_|refine Z25 ?_|refine Z26 ?_|refine Z27 ?_|refine Z28 ?_|refine Z29 ?_|refine Z30 ?_|refine Z31 ?_|refine Z32 ?_|refine Z33 ?_
        |refine Z38 ?_|refine Z42 ?_|refine Z43 ?_|refine Z44 ?_|refine Z45 ?_|refine Z49 ?_|refine Z50 ?_|refine Z51 ?_|refine Z52 ?_|refine Z53 ?_|refine Z58 ?_
        |refine Z59 ?_|refine Z67 ?_|refine Z70 ?_|refine Z71 ?_|refine Z72 ?_|refine Z73 ?_|refine Z74 ?_|refine Z80 ?_|refine Z84 fun _ => ?_|refine Z85 fun _ => ?_)
      exact st_round (i + 1) (by omega) (by omega) (by repeat (first | apply subL.nil | refine subL.cons (by rfl) ?_)) (by repeat (first | apply SubW.nil | refine SubW.cons (by repeat (first | apply Find.here | apply Find.there)) ?_))
    · have hie : i = m := by omega
      subst hie
      rw [List.drop_eq_nil_of_le (by omega), List.append_nil, hXn]
      have hdl3 := D_len i (Lk w A (k + 1))
      repeat (first
        |(rw [hdl3])|(refine st_cmp (r := false) (by rfl) (by rfl) (cmpN_f (by first | (simp only [cmpQ]; done) | (simp only [cmpQ]; omega))) (by rfl) ?_)|refine Z01 ?_
        |refine Z02 ?_|refine Z03 ?_|refine Z04 ?_|refine Z05 ?_|refine Z06 ?_|refine Z07 ?_|refine Z08 ?_|refine Z09 ?_|refine Z10 ?_|refine Z11 ?_|refine Z12 ?_
        |refine Z13 ?_|refine Z14 ?_|refine Z15 ?_|refine Z16 ?_|refine Z17 ?_|refine Z18 ?_|refine Z19 ?_|refine Z20 ?_|refine Z21 ?_|refine Z22 ?_|refine Z23 ?_
        |refine Z24 ?_|refine Z25 ?_|refine Z26 ?_|refine Z27 ?_|refine Z28 ?_|refine Z29 ?_|refine Z30 ?_|refine Z31 ?_|refine Z32 ?_|refine Z33 ?_|refine Z38 ?_
        |refine Z42 ?_|refine Z43 ?_|refine Z44 ?_|refine Z45 ?_|refine Z49 ?_|refine Z50 ?_|refine Z51 ?_|refine Z52 ?_|refine Z53 ?_|refine Z58 ?_|refine Z59 ?_
        |refine Z67 ?_|refine Z70 ?_|refine Z71 ?_|refine Z72 ?_|refine Z73 ?_|refine Z74 ?_|refine Z80 ?_|refine Z84 fun _ => ?_|refine Z85 fun _ => ?_)
      have hlt2 : Lk w A (k + 1) < Lk w A k := by rw [Lk, ← hL]; exact wnext_lt hw (Nat.pos_of_ne_zero h0)
      exact st_round (k + 1, a, v2) (.inr (by show Lk w A k ≠ 0; rw [← hL]; exact h0)) (by show _ < L; rw [hL]; exact hlt2) (by repeat (first | apply subL.nil | refine subL.cons (by rfl) ?_)) (by repeat (first | apply SubW.nil | refine SubW.cons (by repeat (first | apply Find.here | apply Find.there)) ?_))
end Go.Proofs.Ytbjfjkmidhfgcaa.L
