/- The walks of the laws of filling up, of the sum's steps, and of own memory. Conditions: as each statement says. -/
import Derived.Test.YtefhbmhanajfoaaAuto
import Derived.Test.YtefhbmhanajfoaaPerm
import Derived.Test.YtefhbmhanajfoaaMore
import Derived.Test.YtefhbmhanajfoaaProg
import Derived.Test.YtefhbmhanajfoaaShaW
import Derived.Test.YtefhbmhanajfoaaShaX
import Derived.Test.YtefhbmhanajfoaaShaY
import Derived.Test.YtefhbmhanajfoaaShaZ
import Derived.Test.YtefhbmhanajfoaaShaP
import Derived.Test.YtefhbmhanajfoaaShaS
import Derived.Test.YtefhbmhanajfoaaShaT
import Derived.Test.YtefhbmhanajfoaaShaU
namespace Go.Proofs.Ytefhbmhanajfoaa.L
open Go Go.Proofs
attribute [local irreducible] Code.wp wpList Af bodyPost L.Go
open Sha

theorem pad_take (b : List Nat) : (List.take b.length (Sha.pad b)).drop 0 = b := by
  rw [List.drop_zero, ← pad_eq]; unfold padA; rw [List.append_assoc, List.take_left' rfl]
theorem pad_128 (b : List Nat) : (Sha.pad b).getD b.length 0 = 128 := by
  rw [← pad_eq]; unfold padA
  simp [List.getD_eq_getElem?_getD]
theorem pad_zero (b : List Nat) (i : Nat) (h : b.length < i) (h' : i < padLen b.length - 8) : (Sha.pad b).getD i 0 = 0 := by
  have hA := padA_len b
  rw [← pad_eq, getD_append_left _ _ (by omega)]
  unfold padA at hA ⊢
  rw [List.getD_eq_getElem?_getD, List.getElem?_append_right (by omega), show i - b.length = (i - b.length - 1) + 1 by omega, List.getElem?_cons_succ, List.getElem?_replicate]
  split <;> rfl
theorem pad_be (b : List Nat) (j : Nat) (h : j < 8) : (Sha.pad b).getD (padLen b.length - 8 + j) 0 = ((8 * b.length) >>> (8 * (7 - j))) % 256 := by
  have hA := padA_len b
  rw [← rpad_all, List.getD_eq_getElem?_getD, List.getElem?_append_right (by omega), hA, show padLen b.length - 8 + j - (padLen b.length - 8) = j by omega]
  match j, h with
  | 0, _ => simp [be8]
  | 1, _ => simp [be8]
  | 2, _ => simp [be8]
  | 3, _ => simp [be8]
  | 4, _ => simp [be8]
  | 5, _ => simp [be8]
  | 6, _ => simp [be8]
  | 7, _ => simp [be8]
theorem be_next (K j : Nat) (h : j < 8) : (K >>> (8 * (8 - j))) * 256 + (K >>> (8 * (7 - j))) % 256 = K >>> (8 * (8 - (j + 1))) := by
  rw [show 8 * (8 - j) = 8 * (7 - j) + 8 by omega, Nat.shiftRight_add, show 8 - (j + 1) = 7 - j by omega, Nat.shiftRight_eq_div_pow (K >>> (8 * (7 - j))) 8]
  generalize K >>> (8 * (7 - j)) = q
  omega
theorem be_start (K : Nat) (h : K < 18446744073709551616) : K >>> (8 * (8 - 0)) = 0 := by
  rw [Nat.shiftRight_eq_div_pow]; omega
theorem be_small (K j : Nat) (h : K < 16777216) : K >>> j < 16777216 := Nat.lt_of_le_of_lt (Nat.shiftRight_le _ _) h

set_option maxHeartbeats 1000000 in
theorem lawPads_spec (s : Value) (b : List Nat) (hb : Lt 256 b) (h63 : b.length < 9223372036854775808) :
    Spec Try.prog 5 [s] (fun w => Rd w s (b.map (N .u8))) [] (IsV (.bool true)) := by
  refine mk_spec Try.func5 rfl rfl rfl fun w hr => ?_
  have hr := RdC.mk0 hr
  repeat (first
    |(refine st_callV (by rfl) (by rfl) (by rfl) awake_spec (fun _ _ => trivial) (by rfl) ?_)|refine Z01 ?_|refine Z02 ?_|refine Z03 ?_|refine Z04 ?_|refine Z05 ?_
    |refine Z06 ?_|refine Z07 ?_|refine Z08 ?_|refine Z09 ?_|refine Z10 ?_|refine Z11 ?_|refine Z12 ?_|refine Z13 ?_|refine Z14 ?_|refine Z15 ?_|refine Z16 ?_
    |refine Z17 ?_|refine Z18 ?_|refine Z20 ?_|refine Z21 ?_|refine Z22 ?_|refine Z23 ?_|refine Z24 ?_|refine Z25 ?_|refine Z26 ?_|refine Z27 ?_|refine Z28 ?_
    |refine Z36 ?_|refine Z38 ?_|refine Z44 ?_|refine Z45 ?_|refine Z49 ?_|refine Z50 ?_|refine Z51 ?_|refine Z52 ?_|refine Z53 ?_|refine Z54 ?_|refine Z58 ?_
    |refine Z59 ?_|refine Z62 ?_|refine Z63 ?_|refine Z64 ?_|refine Z67 ?_|refine Z70 ?_|refine Z71 ?_|refine Z74 ?_|refine Z80 ?_)
  refine st_cond (by rfl) (fun h => ?_) (fun h => ?_)
  · repeat (first
      |refine Z01 ?_|refine Z02 ?_|refine Z03 ?_|refine Z04 ?_|refine Z05 ?_|refine Z06 ?_|refine Z07 ?_|refine Z08 ?_|refine Z09 ?_|refine Z10 ?_|refine Z11 ?_
      |refine Z12 ?_|refine Z13 ?_|refine Z14 ?_|refine Z15 ?_|refine Z16 ?_|refine Z17 ?_|refine Z18 ?_|refine Z20 ?_|refine Z21 ?_|refine Z22 ?_|refine Z23 ?_
      |refine Z24 ?_|refine Z25 ?_|refine Z26 ?_|refine Z27 ?_|refine Z28 ?_|refine Z36 ?_|refine Z38 ?_|refine Z44 ?_|refine Z45 ?_|refine Z49 ?_|refine Z50 ?_
      |refine Z51 ?_|refine Z52 ?_|refine Z53 ?_|refine Z54 ?_|refine Z58 ?_|refine Z59 ?_|refine Z62 ?_|refine Z63 ?_|refine Z64 ?_|refine Z67 ?_|refine Z70 ?_
      |refine Z71 ?_|refine Z74 ?_|refine Z80 ?_)
    refine Ze1 fun _ hw => post_of hw SubW.nil ⟨?_, rfl⟩
    rfl
  · have hl : b.length < 4294967296 := by omega
    have hq1 := pad_len b
    have hp := padLen_le b.length
    have hpt := pad_take b
    repeat (first
      |(refine st_cmp (r := false) (by rfl) (by rfl) (cmpN_f (by first | (simp only [cmpQ]; done) | (simp only [cmpQ]; omega))) (by rfl) ?_)
      |((refine st_call (by rfl) (by rfl) (by rfl) (pad_spec s b hb hl) .nil (RdW.old hr) (by rfl) ?_; rintro v _ rfl))
      |(refine st_callV (by rfl) (by rfl) (by rfl) (same_spec _ _ b b (by omega)) (fun w hw => ⟨by have h := RdW.subN (lo := 0) (hi := b.length) (ys := Sha.pad b) (k := .u8) (RdW.own (by repeat (first | apply Find.here | apply Find.there))) (by omega) (by omega) w hw; rw [hpt] at h; exact h, RdW.old hr w hw⟩) (by rfl) ?_)
      |(rw [decide_eq_true rfl])|(rw [pad_128 b])|refine Z01 ?_|refine Z02 ?_|refine Z03 ?_|refine Z04 ?_|refine Z05 ?_|refine Z06 ?_|refine Z07 ?_|refine Z08 ?_
      |refine Z09 ?_|refine Z10 ?_|refine Z11 ?_|refine Z12 ?_|refine Z13 ?_|refine Z14 ?_|refine Z15 ?_|refine Z16 ?_|refine Z17 ?_|refine Z18 ?_|refine Z20 ?_
      |refine Z21 ?_|refine Z22 ?_|refine Z23 ?_|refine Z24 ?_|refine Z25 ?_|refine Z26 ?_|refine Z27 ?_|refine Z28 ?_|refine Z36 ?_|refine Z38 ?_|refine Z44 ?_
      |refine Z45 ?_|refine Z49 ?_|refine Z50 ?_|refine Z51 ?_|refine Z52 ?_|refine Z53 ?_|refine Z54 ?_|refine Z58 ?_|refine Z59 ?_|refine Z62 ?_|refine Z63 ?_
      |refine Z64 ?_|refine Z67 ?_|refine Z70 ?_|refine Z71 ?_|refine Z74 ?_|refine Z80 ?_)
    refine st_loop (ι := Nat) (fun i => b.length + 1 ≤ i ∧ i ≤ padLen b.length - 8) (fun i => [(0, s), (3, .bool true), (4, v), (5, N .i64 (Sha.pad b).length), (7, N .i64 i)]) (fun i => [.sl v ((Sha.pad b).map (N .u8)) 5]) (fun i => padLen b.length - i) (b.length + 1) (by omega) (by repeat (first | apply subL.nil | refine subL.cons (by rfl) ?_)) (by repeat (first | apply SubW.nil | refine SubW.cons (by repeat (first | apply Find.here | apply Find.there)) ?_)) ?_
    rintro i ⟨hi, hi'⟩
    repeat (first
      |refine Z01 ?_|refine Z02 ?_|refine Z03 ?_|refine Z04 ?_|refine Z05 ?_|refine Z06 ?_|refine Z07 ?_|refine Z08 ?_|refine Z09 ?_|refine Z10 ?_|refine Z11 ?_
      |refine Z12 ?_|refine Z13 ?_|refine Z14 ?_|refine Z15 ?_|refine Z16 ?_|refine Z17 ?_|refine Z18 ?_|refine Z20 ?_|refine Z21 ?_|refine Z22 ?_|refine Z23 ?_
      |refine Z24 ?_|refine Z25 ?_|refine Z26 ?_|refine Z27 ?_|refine Z28 ?_|refine Z36 ?_|refine Z38 ?_|refine Z44 ?_|refine Z45 ?_|refine Z49 ?_|refine Z50 ?_
      |refine Z51 ?_|refine Z52 ?_|refine Z53 ?_|refine Z54 ?_|refine Z58 ?_|refine Z59 ?_|refine Z62 ?_|refine Z63 ?_|refine Z64 ?_|refine Z67 ?_|refine Z70 ?_
      |refine Z71 ?_|refine Z74 ?_|refine Z80 ?_)
    refine st_cond (by rfl) (fun h => ?_) (fun h => ?_)
    · rw [hq1] at h
      repeat (first
        |(rw [pad_zero b i (by omega) (by omega)])
        |(refine st_cmp (r := false) (by rfl) (by rfl) (cmpN_f (by first | (simp only [cmpQ]; done) | (simp only [cmpQ]; omega))) (by rfl) ?_)|refine Z01 ?_|refine Z02 ?_
        |refine Z03 ?_|refine Z04 ?_|refine Z05 ?_|refine Z06 ?_|refine Z07 ?_|refine Z08 ?_|refine Z09 ?_|refine Z10 ?_|refine Z11 ?_|refine Z12 ?_|refine Z13 ?_
        |refine Z14 ?_|refine Z15 ?_|refine Z16 ?_|refine Z17 ?_|refine Z18 ?_|refine Z20 ?_|refine Z21 ?_|refine Z22 ?_|refine Z23 ?_|refine Z24 ?_|refine Z25 ?_
        |refine Z26 ?_|refine Z27 ?_|refine Z28 ?_|refine Z36 ?_|refine Z38 ?_|refine Z44 ?_|refine Z45 ?_|refine Z49 ?_|refine Z50 ?_|refine Z51 ?_|refine Z52 ?_
        |refine Z53 ?_|refine Z54 ?_|refine Z58 ?_|refine Z59 ?_|refine Z62 ?_|refine Z63 ?_|refine Z64 ?_|refine Z67 ?_|refine Z70 ?_|refine Z71 ?_|refine Z74 ?_
        |refine Z80 ?_)
      exact st_round (i + 1) (by omega) (by omega) (by repeat (first | apply subL.nil | refine subL.cons (by rfl) ?_)) (by repeat (first | apply SubW.nil | refine SubW.cons (by repeat (first | apply Find.here | apply Find.there)) ?_))
    · rw [hq1] at h
      repeat (first
        |refine Z01 ?_|refine Z02 ?_|refine Z03 ?_|refine Z04 ?_|refine Z05 ?_|refine Z06 ?_|refine Z07 ?_|refine Z08 ?_|refine Z09 ?_|refine Z10 ?_|refine Z11 ?_
        |refine Z12 ?_|refine Z13 ?_|refine Z14 ?_|refine Z15 ?_|refine Z16 ?_|refine Z17 ?_|refine Z18 ?_|refine Z20 ?_|refine Z21 ?_|refine Z22 ?_|refine Z23 ?_
        |refine Z24 ?_|refine Z25 ?_|refine Z26 ?_|refine Z27 ?_|refine Z28 ?_|refine Z36 ?_|refine Z38 ?_|refine Z44 ?_|refine Z45 ?_|refine Z49 ?_|refine Z50 ?_
        |refine Z51 ?_|refine Z52 ?_|refine Z53 ?_|refine Z54 ?_|refine Z58 ?_|refine Z59 ?_|refine Z62 ?_|refine Z63 ?_|refine Z64 ?_|refine Z67 ?_|refine Z70 ?_
        |refine Z71 ?_|refine Z74 ?_|refine Z80 ?_)
      refine st_loop (ι := Nat) (fun j => j ≤ 8) (fun j => [(0, s), (3, .bool true), (4, v), (5, N .i64 (Sha.pad b).length), (8, N .i64 ((8 * b.length) >>> (8 * (8 - j)))), (9, N .i64 ((Sha.pad b).length - 8 + j))]) (fun i => [.sl v ((Sha.pad b).map (N .u8)) 5]) (fun i => 8 - i) 0 (by omega) (by rw [be_start _ (by omega)]; exact (by repeat (first | apply subL.nil | refine subL.cons (by rfl) ?_))) (by repeat (first | apply SubW.nil | refine SubW.cons (by repeat (first | apply Find.here | apply Find.there)) ?_)) ?_
      intro j hj
      repeat (first
        |refine Z01 ?_|refine Z02 ?_|refine Z03 ?_|refine Z04 ?_|refine Z05 ?_|refine Z06 ?_|refine Z07 ?_|refine Z08 ?_|refine Z09 ?_|refine Z10 ?_|refine Z11 ?_
        |refine Z12 ?_|refine Z13 ?_|refine Z14 ?_|refine Z15 ?_|refine Z16 ?_|refine Z17 ?_|refine Z18 ?_|refine Z20 ?_|refine Z21 ?_|refine Z22 ?_|refine Z23 ?_
        |refine Z24 ?_|refine Z25 ?_|refine Z26 ?_|refine Z27 ?_|refine Z28 ?_|refine Z36 ?_|refine Z38 ?_|refine Z44 ?_|refine Z45 ?_|refine Z49 ?_|refine Z50 ?_
        |refine Z51 ?_|refine Z52 ?_|refine Z53 ?_|refine Z54 ?_|refine Z58 ?_|refine Z59 ?_|refine Z62 ?_|refine Z63 ?_|refine Z64 ?_|refine Z67 ?_|refine Z70 ?_
        |refine Z71 ?_|refine Z74 ?_|refine Z80 ?_)
      refine st_cond (by rfl) (fun h => ?_) (fun h => ?_)
      · have hj8 : j < 8 := by omega
        have hbn := be_next (8 * b.length) j hj8
        have hbs := be_small (8 * b.length) (8 * (8 - j)) (by omega)
        have hbs' := be_small (8 * b.length) (8 * (8 - (j + 1))) (by omega)
        have hpb := pad_be b j hj8
        rw [← hq1] at hpb
        repeat (first
          |(rw [hpb])|(rw [hbn])|refine Z01 ?_|refine Z02 ?_|refine Z03 ?_|refine Z04 ?_|refine Z05 ?_|refine Z06 ?_|refine Z07 ?_|refine Z08 ?_|refine Z09 ?_
          |refine Z10 ?_|refine Z11 ?_|refine Z12 ?_|refine Z13 ?_|refine Z14 ?_|refine Z15 ?_|refine Z16 ?_|refine Z17 ?_|refine Z18 ?_|refine Z20 ?_|refine Z21 ?_
          |refine Z22 ?_|refine Z23 ?_|refine Z24 ?_|refine Z25 ?_|refine Z26 ?_|refine Z27 ?_|refine Z28 ?_|refine Z36 ?_|refine Z38 ?_|refine Z44 ?_|refine Z45 ?_
          |refine Z49 ?_|refine Z50 ?_|refine Z51 ?_|refine Z52 ?_|refine Z53 ?_|refine Z54 ?_|refine Z58 ?_|refine Z59 ?_|refine Z62 ?_|refine Z63 ?_|refine Z64 ?_
          |refine Z67 ?_|refine Z70 ?_|refine Z71 ?_|refine Z74 ?_|refine Z80 ?_)
        exact st_round (j + 1) (by omega) (by omega) (by repeat (first | apply subL.nil | refine subL.cons (by rfl) ?_)) (by repeat (first | apply SubW.nil | refine SubW.cons (by repeat (first | apply Find.here | apply Find.there)) ?_))
      · have hj8 : j = 8 := by omega
        subst hj8
        rw [show (8 * b.length) >>> (8 * (8 - 8)) = 8 * b.length from rfl]
        repeat (first
          |(refine st_cmp (r := true) (by rfl) (by rfl) (cmpN_t (by first | (simp only [cmpP]; done) | (simp only [cmpP]; omega))) (by rfl) ?_)|refine Z01 ?_
          |refine Z02 ?_|refine Z03 ?_|refine Z04 ?_|refine Z05 ?_|refine Z06 ?_|refine Z07 ?_|refine Z08 ?_|refine Z09 ?_|refine Z10 ?_|refine Z11 ?_|refine Z12 ?_
          |refine Z13 ?_|refine Z14 ?_|refine Z15 ?_|refine Z16 ?_|refine Z17 ?_|refine Z18 ?_|refine Z20 ?_|refine Z21 ?_|refine Z22 ?_|refine Z23 ?_|refine Z24 ?_
          |refine Z25 ?_|refine Z26 ?_|refine Z27 ?_|refine Z28 ?_|refine Z36 ?_|refine Z38 ?_|refine Z44 ?_|refine Z45 ?_|refine Z49 ?_|refine Z50 ?_|refine Z51 ?_
          |refine Z52 ?_|refine Z53 ?_|refine Z54 ?_|refine Z58 ?_|refine Z59 ?_|refine Z62 ?_|refine Z63 ?_|refine Z64 ?_|refine Z67 ?_|refine Z70 ?_|refine Z71 ?_
          |refine Z74 ?_|refine Z80 ?_)
        refine Ze1 fun _ hw => post_of hw SubW.nil ⟨?_, rfl⟩
        rfl

theorem fold_block (b : List Nat) (k : Nat) (_ : 64 * k + 64 ≤ padLen b.length) : fold (Sha.pad b) (k + 1) = Sha.step (fold (Sha.pad b) k) (List.take 64 (List.drop (64 * k) (Sha.pad b))) := fold_succ _ _

set_option maxHeartbeats 1000000 in
theorem lawFolds_spec (s : Value) (b : List Nat) (hb : Lt 256 b) (h63 : b.length < 9223372036854775808) :
    Spec Try.prog 6 [s] (fun w => Rd w s (b.map (N .u8))) [] (IsV (.bool true)) := by
  refine mk_spec Try.func6 rfl rfl rfl fun w hr => ?_
  have hr := RdC.mk0 hr
  repeat (first
    |(refine st_callV (by rfl) (by rfl) (by rfl) awake_spec (fun _ _ => trivial) (by rfl) ?_)|refine Z01 ?_|refine Z02 ?_|refine Z03 ?_|refine Z04 ?_|refine Z05 ?_
    |refine Z06 ?_|refine Z07 ?_|refine Z08 ?_|refine Z09 ?_|refine Z10 ?_|refine Z11 ?_|refine Z12 ?_|refine Z13 ?_|refine Z14 ?_|refine Z15 ?_|refine Z16 ?_
    |refine Z17 ?_|refine Z18 ?_|refine Z20 ?_|refine Z21 ?_|refine Z22 ?_|refine Z23 ?_|refine Z24 ?_|refine Z25 ?_|refine Z26 ?_|refine Z27 ?_|refine Z28 ?_
    |refine Z29 ?_|refine Z30 ?_|refine Z31 ?_|refine Z32 ?_|refine Z36 ?_|refine Z42 ?_|refine Z44 ?_|refine Z45 ?_|refine Z49 ?_|refine Z50 ?_|refine Z51 ?_
    |refine Z52 ?_|refine Z53 ?_|refine Z58 ?_|refine Z59 ?_|refine Z67 ?_|refine Z70 ?_|refine Z71 ?_|refine Z74 ?_|refine Z77 ?_|refine Z78 ?_|refine Z79 ?_
    |refine Z80 ?_|refine Z82 fun _ => ?_)
  refine st_cond (by rfl) (fun h => ?_) (fun h => ?_)
  · repeat (first
      |refine Z01 ?_|refine Z02 ?_|refine Z03 ?_|refine Z04 ?_|refine Z05 ?_|refine Z06 ?_|refine Z07 ?_|refine Z08 ?_|refine Z09 ?_|refine Z10 ?_|refine Z11 ?_
      |refine Z12 ?_|refine Z13 ?_|refine Z14 ?_|refine Z15 ?_|refine Z16 ?_|refine Z17 ?_|refine Z18 ?_|refine Z20 ?_|refine Z21 ?_|refine Z22 ?_|refine Z23 ?_
      |refine Z24 ?_|refine Z25 ?_|refine Z26 ?_|refine Z27 ?_|refine Z28 ?_|refine Z29 ?_|refine Z30 ?_|refine Z31 ?_|refine Z32 ?_|refine Z36 ?_|refine Z42 ?_
      |refine Z44 ?_|refine Z45 ?_|refine Z49 ?_|refine Z50 ?_|refine Z51 ?_|refine Z52 ?_|refine Z53 ?_|refine Z58 ?_|refine Z59 ?_|refine Z67 ?_|refine Z70 ?_
      |refine Z71 ?_|refine Z74 ?_|refine Z77 ?_|refine Z78 ?_|refine Z79 ?_|refine Z80 ?_|refine Z82 fun _ => ?_)
    refine Ze1 fun _ hw => post_of hw SubW.nil ⟨?_, rfl⟩
    rfl
  · have hl : b.length < 4294967296 := by omega
    have hq1 := pad_len b
    have hp := padLen_le b.length
    repeat (first
      |((refine st_call (by rfl) (by rfl) (by rfl) (pad_spec s b hb hl) .nil (RdW.old hr) (by rfl) ?_; rintro v _ rfl))
      |(refine st_callV (by rfl) (by rfl) (by rfl) begin_spec (fun _ _ => trivial) (by rfl) ?_)
      |(refine st_alloc (v := LV .u32 (List.replicate 8 0)) (by rfl) (by rfl) fun _ => ?_)|refine Z01 ?_|refine Z02 ?_|refine Z03 ?_|refine Z04 ?_|refine Z05 ?_
      |refine Z06 ?_|refine Z07 ?_|refine Z08 ?_|refine Z09 ?_|refine Z10 ?_|refine Z11 ?_|refine Z12 ?_|refine Z13 ?_|refine Z14 ?_|refine Z15 ?_|refine Z16 ?_
      |refine Z17 ?_|refine Z18 ?_|refine Z20 ?_|refine Z21 ?_|refine Z22 ?_|refine Z23 ?_|refine Z24 ?_|refine Z25 ?_|refine Z26 ?_|refine Z27 ?_|refine Z28 ?_
      |refine Z29 ?_|refine Z30 ?_|refine Z31 ?_|refine Z32 ?_|refine Z36 ?_|refine Z42 ?_|refine Z44 ?_|refine Z45 ?_|refine Z49 ?_|refine Z50 ?_|refine Z51 ?_
      |refine Z52 ?_|refine Z53 ?_|refine Z58 ?_|refine Z59 ?_|refine Z67 ?_|refine Z70 ?_|refine Z71 ?_|refine Z74 ?_|refine Z77 ?_|refine Z78 ?_|refine Z79 ?_
      |refine Z80 ?_|refine Z82 fun _ => ?_)
    rename_i b2
    refine st_loop (ι := Nat) (fun k => 64 * k ≤ padLen b.length) (fun k => [(0, s), (3, .bool true), (4, v), (5, pt b2 0), (6, N .i64 (64 * k))])
      (fun k => [.sl v ((Sha.pad b).map (N .u8)) 5, .blk b2 (LV .u32 (fold (Sha.pad b) k)) 31]) (fun k => padLen b.length - k) 0 (by omega) (by repeat (first | apply subL.nil | refine subL.cons (by rfl) ?_)) (by rw [fold_0]; exact (by repeat (first | apply SubW.nil | refine SubW.cons (by repeat (first | apply Find.here | apply Find.there)) ?_))) ?_
    intro k hk
    have hfl := fold_len (Sha.pad b) k
    have hfb := fold_lt (Sha.pad b) k
    repeat (first
      |refine Z01 ?_|refine Z02 ?_|refine Z03 ?_|refine Z04 ?_|refine Z05 ?_|refine Z06 ?_|refine Z07 ?_|refine Z08 ?_|refine Z09 ?_|refine Z10 ?_|refine Z11 ?_
      |refine Z12 ?_|refine Z13 ?_|refine Z14 ?_|refine Z15 ?_|refine Z16 ?_|refine Z17 ?_|refine Z18 ?_|refine Z20 ?_|refine Z21 ?_|refine Z22 ?_|refine Z23 ?_
      |refine Z24 ?_|refine Z25 ?_|refine Z26 ?_|refine Z27 ?_|refine Z28 ?_|refine Z29 ?_|refine Z30 ?_|refine Z31 ?_|refine Z32 ?_|refine Z36 ?_|refine Z42 ?_
      |refine Z44 ?_|refine Z45 ?_|refine Z49 ?_|refine Z50 ?_|refine Z51 ?_|refine Z52 ?_|refine Z53 ?_|refine Z58 ?_|refine Z59 ?_|refine Z67 ?_|refine Z70 ?_
      |refine Z71 ?_|refine Z74 ?_|refine Z77 ?_|refine Z78 ?_|refine Z79 ?_|refine Z80 ?_|refine Z82 fun _ => ?_)
    refine st_cond (by rfl) (fun h => ?_) (fun h => ?_)
    · rw [hq1] at h
      have h64 : 64 * k + 64 ≤ (Sha.pad b).length := by omega
      have hcl := cut_len _ _ h64
      have hcb := cut_lt (pad_lt hb) k
      have hal : (List.take 64 (List.drop (64 * k) (Sha.pad b))).length = (List.replicate 64 0).length := by rw [hcl]; rfl
      repeat (first
        |(refine st_alloc (v := LV .u8 (List.replicate 64 0)) (by rfl) (by rfl) fun _ => ?_)|refine Z01 ?_|refine Z02 ?_|refine Z03 ?_|refine Z04 ?_|refine Z05 ?_
        |refine Z06 ?_|refine Z07 ?_|refine Z08 ?_|refine Z09 ?_|refine Z10 ?_|refine Z11 ?_|refine Z12 ?_|refine Z13 ?_|refine Z14 ?_|refine Z15 ?_|refine Z16 ?_
        |refine Z17 ?_|refine Z18 ?_|refine Z20 ?_|refine Z21 ?_|refine Z22 ?_|refine Z23 ?_|refine Z24 ?_|refine Z25 ?_|refine Z26 ?_|refine Z27 ?_|refine Z28 ?_
        |refine Z29 ?_|refine Z30 ?_|refine Z31 ?_|refine Z32 ?_|refine Z36 ?_|refine Z42 ?_|refine Z44 ?_|refine Z45 ?_|refine Z49 ?_|refine Z50 ?_|refine Z51 ?_
        |refine Z52 ?_|refine Z53 ?_|refine Z58 ?_|refine Z59 ?_|refine Z67 ?_|refine Z70 ?_|refine Z71 ?_|refine Z74 ?_|refine Z77 ?_|refine Z78 ?_|refine Z79 ?_
        |refine Z80 ?_|refine Z82 fun _ => ?_)
      rename_i b3
      refine st_loop (ι := Nat) (fun j => j ≤ 64) (fun j => [(0, s), (3, .bool true), (4, v), (5, pt b2 0), (6, N .i64 (64 * k)), (7, pt b3 0), (8, N .i64 j)])
        (fun j => [.blk b3 (LV .u8 (mixT (List.take 64 (List.drop (64 * k) (Sha.pad b))) (List.replicate 64 0) j)) 32, .sl v ((Sha.pad b).map (N .u8)) 5, .blk b2 (LV .u32 (fold (Sha.pad b) k)) 31]) (fun j => 64 - j) 0 (by omega) (by repeat (first | apply subL.nil | refine subL.cons (by rfl) ?_)) (by rw [mixT_0]; exact (by repeat (first | apply SubW.nil | refine SubW.cons (by repeat (first | apply Find.here | apply Find.there)) ?_))) ?_
      intro j hj
      have hml := mixT_len hal j
      rw [List.length_replicate] at hml
      repeat (first
        |refine Z01 ?_|refine Z02 ?_|refine Z03 ?_|refine Z04 ?_|refine Z05 ?_|refine Z06 ?_|refine Z07 ?_|refine Z08 ?_|refine Z09 ?_|refine Z10 ?_|refine Z11 ?_
        |refine Z12 ?_|refine Z13 ?_|refine Z14 ?_|refine Z15 ?_|refine Z16 ?_|refine Z17 ?_|refine Z18 ?_|refine Z20 ?_|refine Z21 ?_|refine Z22 ?_|refine Z23 ?_
        |refine Z24 ?_|refine Z25 ?_|refine Z26 ?_|refine Z27 ?_|refine Z28 ?_|refine Z29 ?_|refine Z30 ?_|refine Z31 ?_|refine Z32 ?_|refine Z36 ?_|refine Z42 ?_
        |refine Z44 ?_|refine Z45 ?_|refine Z49 ?_|refine Z50 ?_|refine Z51 ?_|refine Z52 ?_|refine Z53 ?_|refine Z58 ?_|refine Z59 ?_|refine Z67 ?_|refine Z70 ?_
        |refine Z71 ?_|refine Z74 ?_|refine Z77 ?_|refine Z78 ?_|refine Z79 ?_|refine Z80 ?_|refine Z82 fun _ => ?_)
      refine st_cond (by rfl) (fun hj' => ?_) (fun hj' => ?_)
      · repeat (first
          |refine Z01 ?_|refine Z02 ?_|refine Z03 ?_|refine Z04 ?_|refine Z05 ?_|refine Z06 ?_|refine Z07 ?_|refine Z08 ?_|refine Z09 ?_|refine Z10 ?_|refine Z11 ?_
          |refine Z12 ?_|refine Z13 ?_|refine Z14 ?_|refine Z15 ?_|refine Z16 ?_|refine Z17 ?_|refine Z18 ?_|refine Z20 ?_|refine Z21 ?_|refine Z22 ?_|refine Z23 ?_
          |refine Z24 ?_|refine Z25 ?_|refine Z26 ?_|refine Z27 ?_|refine Z28 ?_|refine Z29 ?_|refine Z30 ?_|refine Z31 ?_|refine Z32 ?_|refine Z36 ?_|refine Z42 ?_
          |refine Z44 ?_|refine Z45 ?_|refine Z49 ?_|refine Z50 ?_|refine Z51 ?_|refine Z52 ?_|refine Z53 ?_|refine Z58 ?_|refine Z59 ?_|refine Z67 ?_|refine Z70 ?_
          |refine Z71 ?_|refine Z74 ?_|refine Z77 ?_|refine Z78 ?_|refine Z79 ?_|refine Z80 ?_|refine Z82 fun _ => ?_)
        rw [← getD_blk _ _ _ hj', mix_take hal (by simp; omega)]
        exact st_round (j + 1) (by omega) (by omega) (by repeat (first | apply subL.nil | refine subL.cons (by rfl) ?_)) (by repeat (first | apply SubW.nil | refine SubW.cons (by repeat (first | apply Find.here | apply Find.there)) ?_))
      · have e64 : j = 64 := by omega
        subst e64
        have hm : mixT (List.take 64 (List.drop (64 * k) (Sha.pad b))) (List.replicate 64 0) 64 = List.take 64 (List.drop (64 * k) (Sha.pad b)) := mixT_all hal
        rw [hm] at hml ⊢
        have hsl := step_len (blk := List.take 64 (List.drop (64 * k) (Sha.pad b))) hfl
        repeat (first
          
          |(refine st_callV (by rfl) (by rfl) (by rfl) (step_spec (fold (Sha.pad b) k) (List.take 64 (List.drop (64 * k) (Sha.pad b))) hfl hfb hcl hcb) (fun _ _ => trivial) (by rfl) ?_)
          |refine Z01 ?_|refine Z02 ?_|refine Z03 ?_|refine Z04 ?_|refine Z05 ?_|refine Z06 ?_|refine Z07 ?_|refine Z08 ?_|refine Z09 ?_|refine Z10 ?_|refine Z11 ?_
          |refine Z12 ?_|refine Z13 ?_|refine Z14 ?_|refine Z15 ?_|refine Z16 ?_|refine Z17 ?_|refine Z18 ?_|refine Z20 ?_|refine Z21 ?_|refine Z22 ?_|refine Z23 ?_
          |refine Z24 ?_|refine Z25 ?_|refine Z26 ?_|refine Z27 ?_|refine Z28 ?_|refine Z29 ?_|refine Z30 ?_|refine Z31 ?_|refine Z32 ?_|refine Z36 ?_|refine Z42 ?_
          |refine Z44 ?_|refine Z45 ?_|refine Z49 ?_|refine Z50 ?_|refine Z51 ?_|refine Z52 ?_|refine Z53 ?_|refine Z58 ?_|refine Z59 ?_|refine Z67 ?_|refine Z70 ?_
          |refine Z71 ?_|refine Z74 ?_|refine Z77 ?_|refine Z78 ?_|refine Z79 ?_|refine Z80 ?_|refine Z82 fun _ => ?_)
        rw [← fold_succ]
        exact st_round (k + 1) (by omega) (by omega) (by repeat (first | apply subL.nil | refine subL.cons (by rfl) ?_)) (by repeat (first | apply SubW.nil | refine SubW.cons (by repeat (first | apply Find.here | apply Find.there)) ?_))
    · rw [hq1] at h
      have hk' : k = padLen b.length / 64 := by omega
      subst hk'
      have hbl := Sha.bytes_len (fold (Sha.pad b) (padLen b.length / 64))
      have hal : (Sha.bytes (fold (Sha.pad b) (padLen b.length / 64))).length = (List.replicate 32 0).length := by rw [hbl]; rfl
      repeat (first
        |(refine st_alloc (v := LV .u8 (List.replicate 32 0)) (by rfl) (by rfl) fun _ => ?_)|refine Z01 ?_|refine Z02 ?_|refine Z03 ?_|refine Z04 ?_|refine Z05 ?_
        |refine Z06 ?_|refine Z07 ?_|refine Z08 ?_|refine Z09 ?_|refine Z10 ?_|refine Z11 ?_|refine Z12 ?_|refine Z13 ?_|refine Z14 ?_|refine Z15 ?_|refine Z16 ?_
        |refine Z17 ?_|refine Z18 ?_|refine Z20 ?_|refine Z21 ?_|refine Z22 ?_|refine Z23 ?_|refine Z24 ?_|refine Z25 ?_|refine Z26 ?_|refine Z27 ?_|refine Z28 ?_
        |refine Z29 ?_|refine Z30 ?_|refine Z31 ?_|refine Z32 ?_|refine Z36 ?_|refine Z42 ?_|refine Z44 ?_|refine Z45 ?_|refine Z49 ?_|refine Z50 ?_|refine Z51 ?_
        |refine Z52 ?_|refine Z53 ?_|refine Z58 ?_|refine Z59 ?_|refine Z67 ?_|refine Z70 ?_|refine Z71 ?_|refine Z74 ?_|refine Z77 ?_|refine Z78 ?_|refine Z79 ?_
        |refine Z80 ?_|refine Z82 fun _ => ?_)
      rename_i b4
      refine st_loop (ι := Nat) (fun i => i ≤ 8) (fun i => [(0, s), (3, .bool true), (5, pt b2 0), (9, pt b4 0), (10, N .i64 i)])
        (fun i => [.blk b4 (LV .u8 (mixT (Sha.bytes (fold (Sha.pad b) (padLen b.length / 64))) (List.replicate 32 0) (4 * i))) 27, .blk b2 (LV .u32 (fold (Sha.pad b) (padLen b.length / 64))) 31]) (fun i => 8 - i) 0 (by omega) (by repeat (first | apply subL.nil | refine subL.cons (by rfl) ?_)) (by rw [mixT_0]; exact (by repeat (first | apply SubW.nil | refine SubW.cons (by repeat (first | apply Find.here | apply Find.there)) ?_))) ?_
      intro i hi
      repeat (first
        |refine Z01 ?_|refine Z02 ?_|refine Z03 ?_|refine Z04 ?_|refine Z05 ?_|refine Z06 ?_|refine Z07 ?_|refine Z08 ?_|refine Z09 ?_|refine Z10 ?_|refine Z11 ?_
        |refine Z12 ?_|refine Z13 ?_|refine Z14 ?_|refine Z15 ?_|refine Z16 ?_|refine Z17 ?_|refine Z18 ?_|refine Z20 ?_|refine Z21 ?_|refine Z22 ?_|refine Z23 ?_
        |refine Z24 ?_|refine Z25 ?_|refine Z26 ?_|refine Z27 ?_|refine Z28 ?_|refine Z29 ?_|refine Z30 ?_|refine Z31 ?_|refine Z32 ?_|refine Z36 ?_|refine Z42 ?_
        |refine Z44 ?_|refine Z45 ?_|refine Z49 ?_|refine Z50 ?_|refine Z51 ?_|refine Z52 ?_|refine Z53 ?_|refine Z58 ?_|refine Z59 ?_|refine Z67 ?_|refine Z70 ?_
        |refine Z71 ?_|refine Z74 ?_|refine Z77 ?_|refine Z78 ?_|refine Z79 ?_|refine Z80 ?_|refine Z82 fun _ => ?_)
      refine st_cond (by rfl) (fun hi' => ?_) (fun hi' => ?_)
      · repeat (first
          |refine Z01 ?_|refine Z02 ?_|refine Z03 ?_|refine Z04 ?_|refine Z05 ?_|refine Z06 ?_|refine Z07 ?_|refine Z08 ?_|refine Z09 ?_|refine Z10 ?_|refine Z11 ?_
          |refine Z12 ?_|refine Z13 ?_|refine Z14 ?_|refine Z15 ?_|refine Z16 ?_|refine Z17 ?_|refine Z18 ?_|refine Z20 ?_|refine Z21 ?_|refine Z22 ?_|refine Z23 ?_
          |refine Z24 ?_|refine Z25 ?_|refine Z26 ?_|refine Z27 ?_|refine Z28 ?_|refine Z29 ?_|refine Z30 ?_|refine Z31 ?_|refine Z32 ?_|refine Z36 ?_|refine Z42 ?_
          |refine Z44 ?_|refine Z45 ?_|refine Z49 ?_|refine Z50 ?_|refine Z51 ?_|refine Z52 ?_|refine Z53 ?_|refine Z58 ?_|refine Z59 ?_|refine Z67 ?_|refine Z70 ?_
          |refine Z71 ?_|refine Z74 ?_|refine Z77 ?_|refine Z78 ?_|refine Z79 ?_|refine Z80 ?_|refine Z82 fun _ => ?_)
        refine st_loop (ι := Nat) (fun j => j ≤ 4) (fun j => [(0, s), (3, .bool true), (5, pt b2 0), (9, pt b4 0), (10, N .i64 i), (11, N .i64 j)])
          (fun j => [.blk b4 (LV .u8 (mixT (Sha.bytes (fold (Sha.pad b) (padLen b.length / 64))) (List.replicate 32 0) (4 * i + j))) 27, .blk b2 (LV .u32 (fold (Sha.pad b) (padLen b.length / 64))) 31]) (fun j => 4 - j) 0 (by omega) (by repeat (first | apply subL.nil | refine subL.cons (by rfl) ?_)) (by repeat (first | apply SubW.nil | refine SubW.cons (by repeat (first | apply Find.here | apply Find.there)) ?_)) ?_
        intro j hj
        have hml := mixT_len hal (4 * i + j)
        rw [List.length_replicate] at hml
        repeat (first
          |refine Z01 ?_|refine Z02 ?_|refine Z03 ?_|refine Z04 ?_|refine Z05 ?_|refine Z06 ?_|refine Z07 ?_|refine Z08 ?_|refine Z09 ?_|refine Z10 ?_|refine Z11 ?_
          |refine Z12 ?_|refine Z13 ?_|refine Z14 ?_|refine Z15 ?_|refine Z16 ?_|refine Z17 ?_|refine Z18 ?_|refine Z20 ?_|refine Z21 ?_|refine Z22 ?_|refine Z23 ?_
          |refine Z24 ?_|refine Z25 ?_|refine Z26 ?_|refine Z27 ?_|refine Z28 ?_|refine Z29 ?_|refine Z30 ?_|refine Z31 ?_|refine Z32 ?_|refine Z36 ?_|refine Z42 ?_
          |refine Z44 ?_|refine Z45 ?_|refine Z49 ?_|refine Z50 ?_|refine Z51 ?_|refine Z52 ?_|refine Z53 ?_|refine Z58 ?_|refine Z59 ?_|refine Z67 ?_|refine Z70 ?_
          |refine Z71 ?_|refine Z74 ?_|refine Z77 ?_|refine Z78 ?_|refine Z79 ?_|refine Z80 ?_|refine Z82 fun _ => ?_)
        refine st_cond (by rfl) (fun hj' => ?_) (fun hj' => ?_)
        · have hm2 : (24 - 8 * j) % 18446744073709551616 = 24 - 8 * j := by omega
          repeat (first
            |(rw [hm2])|refine Z01 ?_|refine Z02 ?_|refine Z03 ?_|refine Z04 ?_|refine Z05 ?_|refine Z06 ?_|refine Z07 ?_|refine Z08 ?_|refine Z09 ?_|refine Z10 ?_
            |refine Z11 ?_|refine Z12 ?_|refine Z13 ?_|refine Z14 ?_|refine Z15 ?_|refine Z16 ?_|refine Z17 ?_|refine Z18 ?_|refine Z20 ?_|refine Z21 ?_|refine Z22 ?_
            |refine Z23 ?_|refine Z24 ?_|refine Z25 ?_|refine Z26 ?_|refine Z27 ?_|refine Z28 ?_|refine Z29 ?_|refine Z30 ?_|refine Z31 ?_|refine Z32 ?_|refine Z36 ?_
            |refine Z42 ?_|refine Z44 ?_|refine Z45 ?_|refine Z49 ?_|refine Z50 ?_|refine Z51 ?_|refine Z52 ?_|refine Z53 ?_|refine Z58 ?_|refine Z59 ?_|refine Z67 ?_
            |refine Z70 ?_|refine Z71 ?_|refine Z74 ?_|refine Z77 ?_|refine Z78 ?_|refine Z79 ?_|refine Z80 ?_|refine Z82 fun _ => ?_)
          have hbg := Sha.bytes_getD (fold (Sha.pad b) (padLen b.length / 64)) (i := 4 * i + j) (by omega)
          rw [show (4 * i + j) / 4 = i by omega, show (4 * i + j) % 4 = j by omega] at hbg
          rw [← hbg, mix_take hal (by simp; omega)]
          exact st_round (j + 1) (by omega) (by omega) (by repeat (first | apply subL.nil | refine subL.cons (by rfl) ?_)) (by repeat (first | apply SubW.nil | refine SubW.cons (by repeat (first | apply Find.here | apply Find.there)) ?_))
        · have h4 : j = 4 := by omega
          subst h4
          repeat (first
            |refine Z01 ?_|refine Z02 ?_|refine Z03 ?_|refine Z04 ?_|refine Z05 ?_|refine Z06 ?_|refine Z07 ?_|refine Z08 ?_|refine Z09 ?_|refine Z10 ?_|refine Z11 ?_
            |refine Z12 ?_|refine Z13 ?_|refine Z14 ?_|refine Z15 ?_|refine Z16 ?_|refine Z17 ?_|refine Z18 ?_|refine Z20 ?_|refine Z21 ?_|refine Z22 ?_|refine Z23 ?_
            |refine Z24 ?_|refine Z25 ?_|refine Z26 ?_|refine Z27 ?_|refine Z28 ?_|refine Z29 ?_|refine Z30 ?_|refine Z31 ?_|refine Z32 ?_|refine Z36 ?_|refine Z42 ?_
            |refine Z44 ?_|refine Z45 ?_|refine Z49 ?_|refine Z50 ?_|refine Z51 ?_|refine Z52 ?_|refine Z53 ?_|refine Z58 ?_|refine Z59 ?_|refine Z67 ?_|refine Z70 ?_
            |refine Z71 ?_|refine Z74 ?_|refine Z77 ?_|refine Z78 ?_|refine Z79 ?_|refine Z80 ?_|refine Z82 fun _ => ?_)
          exact st_round (i + 1) (by omega) (by omega) (by repeat (first | apply subL.nil | refine subL.cons (by rfl) ?_)) (by repeat (first | apply SubW.nil | refine SubW.cons (by repeat (first | apply Find.here | apply Find.there)) ?_))
      · have h8 : i = 8 := by omega
        subst h8
        have hm : mixT (Sha.bytes (fold (Sha.pad b) (padLen b.length / 64))) (List.replicate 32 0) (4 * 8) = Sha.sum b := by
          rw [sum_def]; exact mixT_all hal
        rw [hm]
        have hsl := sum_len b
        repeat (first
          |refine Z01 ?_|refine Z02 ?_|refine Z03 ?_|refine Z04 ?_|refine Z05 ?_|refine Z06 ?_|refine Z07 ?_|refine Z08 ?_|refine Z09 ?_|refine Z10 ?_|refine Z11 ?_
          |refine Z12 ?_|refine Z13 ?_|refine Z14 ?_|refine Z15 ?_|refine Z16 ?_|refine Z17 ?_|refine Z18 ?_|refine Z20 ?_|refine Z21 ?_|refine Z22 ?_|refine Z23 ?_
          |refine Z24 ?_|refine Z25 ?_|refine Z26 ?_|refine Z27 ?_|refine Z28 ?_|refine Z29 ?_|refine Z30 ?_|refine Z31 ?_|refine Z32 ?_|refine Z36 ?_|refine Z42 ?_
          |refine Z44 ?_|refine Z45 ?_|refine Z49 ?_|refine Z50 ?_|refine Z51 ?_|refine Z52 ?_|refine Z53 ?_|refine Z58 ?_|refine Z59 ?_|refine Z67 ?_|refine Z70 ?_
          |refine Z71 ?_|refine Z74 ?_|refine Z77 ?_|refine Z78 ?_|refine Z79 ?_|refine Z80 ?_|refine Z82 fun _ => ?_)
        refine st_draw1 (by rfl) ?_
        repeat (first
          |refine Zqf (by intro _ _ _;(first
            |refine Z01 ?_|refine Z02 ?_|refine Z15 ?_|refine Z16 ?_|refine Z17 ?_|refine Z18 ?_|refine Z20 ?_|refine Z21 ?_|refine Z22 ?_|refine Z23 ?_|refine Z36 ?_
            |refine Z42 ?_|refine Z44 ?_|refine Z45 ?_|refine Z49 ?_|refine Z50 ?_|refine Z58 ?_|refine Z59 ?_|refine Z70 ?_|refine Z71 ?_|refine Z74 ?_|refine Z77 ?_
            |refine Z78 ?_|refine Z79 ?_|refine Z80 ?_
            |(refine st_callV (by rfl) (by rfl) (by rfl) (sum_spec s b hb hl) (by first | exact RdW.old hr | exact RdW.old (RdC.shift hr (by assumption))) (by rfl) ?_));exact Zq) ?_
          |refine Zqp (by intro _ _ _;(first
            |refine Z24 ?_|refine Z25 ?_|refine Z26 ?_|refine Z27 ?_|refine Z28 ?_|refine Z67 ?_|refine Z23 ?_|refine Z20 ?_|refine Z21 ?_);exact Zq) ?_
          |refine Zqe (by intro _ _ _;(first
            |refine Z29 ?_|refine Z30 ?_|refine Z31 ?_|refine Z32 ?_);exact Zqq) ?_
          |refine Zqn ?_)
        refine Zq0 ?_ (by kernel_rfl)
        repeat (first
          |(rw [decide_eq_true rfl])|refine Z01 ?_|refine Z02 ?_|refine Z03 ?_|refine Z04 ?_|refine Z05 ?_|refine Z06 ?_|refine Z07 ?_|refine Z08 ?_|refine Z09 ?_
          |refine Z10 ?_|refine Z11 ?_|refine Z12 ?_|refine Z13 ?_|refine Z14 ?_|refine Z15 ?_|refine Z16 ?_|refine Z17 ?_|refine Z18 ?_|refine Z20 ?_|refine Z21 ?_
          |refine Z22 ?_|refine Z23 ?_|refine Z24 ?_|refine Z25 ?_|refine Z26 ?_|refine Z27 ?_|refine Z28 ?_|refine Z29 ?_|refine Z30 ?_|refine Z31 ?_|refine Z32 ?_
          |refine Z36 ?_|refine Z42 ?_|refine Z44 ?_|refine Z45 ?_|refine Z49 ?_|refine Z50 ?_|refine Z51 ?_|refine Z52 ?_|refine Z53 ?_|refine Z58 ?_|refine Z59 ?_
          |refine Z67 ?_|refine Z70 ?_|refine Z71 ?_|refine Z74 ?_|refine Z77 ?_|refine Z78 ?_|refine Z79 ?_|refine Z80 ?_|refine Z82 fun _ => ?_)
        refine Ze1 fun _ hw => post_of hw SubW.nil ⟨?_, rfl⟩
        rfl

def nines (b : List Nat) (i : Nat) : List Nat := List.replicate i 99 ++ (Sha.pad b).drop i
theorem nines_len (b : List Nat) (i : Nat) (h : i ≤ padLen b.length) : (nines b i).length = padLen b.length := by
  have := pad_len b
  simp [nines]; omega
theorem nines_set (b : List Nat) (i : Nat) (h : i < padLen b.length) : (nines b i).set i 99 = nines b (i + 1) := by
  have := pad_len b
  unfold nines
  rw [List.drop_eq_getElem_cons (by omega), set_at' _ _ _ _ _ (by simp), List.replicate_succ', List.append_assoc]; rfl
theorem nines_0 (b : List Nat) : nines b 0 = Sha.pad b := by simp [nines]
attribute [irreducible] nines

set_option maxHeartbeats 1000000 in
theorem lawOwn_spec (s : Value) (b : List Nat) (hb : Lt 256 b) (h63 : b.length < 9223372036854775808) :
    Spec Try.prog 7 [s] (fun w => Rd w s (b.map (N .u8))) [] (IsV (.bool true)) := by
  refine mk_spec Try.func7 rfl rfl rfl fun w hr => ?_
  have hr := RdC.mk0 hr
  repeat (first
    |(refine st_callV (by rfl) (by rfl) (by rfl) awake_spec (fun _ _ => trivial) (by rfl) ?_)|refine Z01 ?_|refine Z02 ?_|refine Z03 ?_|refine Z04 ?_|refine Z05 ?_
    |refine Z06 ?_|refine Z07 ?_|refine Z08 ?_|refine Z09 ?_|refine Z10 ?_|refine Z11 ?_|refine Z12 ?_|refine Z13 ?_|refine Z14 ?_|refine Z15 ?_|refine Z17 ?_
    |refine Z18 ?_|refine Z20 ?_|refine Z21 ?_|refine Z22 ?_|refine Z23 ?_|refine Z29 ?_|refine Z30 ?_|refine Z31 ?_|refine Z32 ?_|refine Z49 ?_|refine Z50 ?_
    |refine Z51 ?_|refine Z52 ?_|refine Z53 ?_|refine Z54 ?_|refine Z58 ?_|refine Z59 ?_|refine Z62 ?_|refine Z63 ?_|refine Z64 ?_|refine Z70 ?_|refine Z84 fun _ => ?_
    |refine Z85 fun _ => ?_)
  refine st_cond (by rfl) (fun h => ?_) (fun h => ?_)
  · repeat (first
      |refine Z01 ?_|refine Z02 ?_|refine Z03 ?_|refine Z04 ?_|refine Z05 ?_|refine Z06 ?_|refine Z07 ?_|refine Z08 ?_|refine Z09 ?_|refine Z10 ?_|refine Z11 ?_
      |refine Z12 ?_|refine Z13 ?_|refine Z14 ?_|refine Z15 ?_|refine Z17 ?_|refine Z18 ?_|refine Z20 ?_|refine Z21 ?_|refine Z22 ?_|refine Z23 ?_|refine Z29 ?_
      |refine Z30 ?_|refine Z31 ?_|refine Z32 ?_|refine Z49 ?_|refine Z50 ?_|refine Z51 ?_|refine Z52 ?_|refine Z53 ?_|refine Z54 ?_|refine Z58 ?_|refine Z59 ?_
      |refine Z62 ?_|refine Z63 ?_|refine Z64 ?_|refine Z70 ?_|refine Z84 fun _ => ?_|refine Z85 fun _ => ?_)
    refine Ze1 fun _ hw => post_of hw SubW.nil ⟨?_, rfl⟩
    rfl
  · have hl : b.length < 4294967296 := by omega
    have hq1 := pad_len b
    have hp := padLen_le b.length
    have hpt := pad_take b
    repeat (first
      |(rw [List.nil_append])
      |((refine st_call (by rfl) (by rfl) (by rfl) (pad_spec _ b hb hl) .nil (RdW.own (by repeat (first | apply Find.here | apply Find.there))) (by rfl) ?_; rintro v _ rfl))
      |(refine st_callV (by rfl) (by rfl) (by rfl) (sum_spec _ b hb hl) (RdW.own (by repeat (first | apply Find.here | apply Find.there))) (by rfl) ?_)|refine Z01 ?_
      |refine Z02 ?_|refine Z03 ?_|refine Z04 ?_|refine Z05 ?_|refine Z06 ?_|refine Z07 ?_|refine Z08 ?_|refine Z09 ?_|refine Z10 ?_|refine Z11 ?_|refine Z12 ?_
      |refine Z13 ?_|refine Z14 ?_|refine Z15 ?_|refine Z17 ?_|refine Z18 ?_|refine Z20 ?_|refine Z21 ?_|refine Z22 ?_|refine Z23 ?_|refine Z29 ?_|refine Z30 ?_
      |refine Z31 ?_|refine Z32 ?_|refine Z49 ?_|refine Z50 ?_|refine Z51 ?_|refine Z52 ?_|refine Z53 ?_|refine Z54 ?_|refine Z58 ?_|refine Z59 ?_|refine Z62 ?_
      |refine Z63 ?_|refine Z64 ?_|refine Z70 ?_|refine Z84 fun _ => ?_|refine Z85 fun _ => ?_)
    rename_i m
    refine st_loop (ι := Nat) (fun i => i ≤ padLen b.length) (fun i => [(0, s), (3, .bool true), (4, m), (5, v), (6, N .i64 i)]) (fun i => [.sl v ((nines b i).map (N .u8)) 5, .sl m (b.map (N .u8)) 5]) (fun i => padLen b.length - i) 0 (by omega) (by repeat (first | apply subL.nil | refine subL.cons (by rfl) ?_)) (by rw [nines_0]; exact (by repeat (first | apply SubW.nil | refine SubW.cons (by repeat (first | apply Find.here | apply Find.there)) ?_))) ?_
    intro i hi
    have hnl := nines_len b i hi
    repeat (first
      |refine Z01 ?_|refine Z02 ?_|refine Z03 ?_|refine Z04 ?_|refine Z05 ?_|refine Z06 ?_|refine Z07 ?_|refine Z08 ?_|refine Z09 ?_|refine Z10 ?_|refine Z11 ?_
      |refine Z12 ?_|refine Z13 ?_|refine Z14 ?_|refine Z15 ?_|refine Z17 ?_|refine Z18 ?_|refine Z20 ?_|refine Z21 ?_|refine Z22 ?_|refine Z23 ?_|refine Z29 ?_
      |refine Z30 ?_|refine Z31 ?_|refine Z32 ?_|refine Z49 ?_|refine Z50 ?_|refine Z51 ?_|refine Z52 ?_|refine Z53 ?_|refine Z54 ?_|refine Z58 ?_|refine Z59 ?_
      |refine Z62 ?_|refine Z63 ?_|refine Z64 ?_|refine Z70 ?_|refine Z84 fun _ => ?_|refine Z85 fun _ => ?_)
    refine st_cond (by rfl) (fun h => ?_) (fun h => ?_)
    · repeat (first
        |refine Z01 ?_|refine Z02 ?_|refine Z03 ?_|refine Z04 ?_|refine Z05 ?_|refine Z06 ?_|refine Z07 ?_|refine Z08 ?_|refine Z09 ?_|refine Z10 ?_|refine Z11 ?_
        |refine Z12 ?_|refine Z13 ?_|refine Z14 ?_|refine Z15 ?_|refine Z17 ?_|refine Z18 ?_|refine Z20 ?_|refine Z21 ?_|refine Z22 ?_|refine Z23 ?_|refine Z29 ?_
        |refine Z30 ?_|refine Z31 ?_|refine Z32 ?_|refine Z49 ?_|refine Z50 ?_|refine Z51 ?_|refine Z52 ?_|refine Z53 ?_|refine Z54 ?_|refine Z58 ?_|refine Z59 ?_
        |refine Z62 ?_|refine Z63 ?_|refine Z64 ?_|refine Z70 ?_|refine Z84 fun _ => ?_|refine Z85 fun _ => ?_)
      rw [nines_set b i (by omega)]
      exact st_round (i + 1) (by omega) (by omega) (by repeat (first | apply subL.nil | refine subL.cons (by rfl) ?_)) (by repeat (first | apply SubW.nil | refine SubW.cons (by repeat (first | apply Find.here | apply Find.there)) ?_))
    · repeat (first
        |(refine st_cmp (r := false) (by rfl) (by rfl) (cmpN_f (by first | (simp only [cmpQ]; done) | (simp only [cmpQ]; omega))) (by rfl) ?_)|(rw [decide_eq_true rfl])
        |((refine st_call (by rfl) (by rfl) (by rfl) (pad_spec _ b hb hl) .nil (RdW.own (by repeat (first | apply Find.here | apply Find.there))) (by rfl) ?_; rintro u _ rfl))
        |(refine st_callV (by rfl) (by rfl) (by rfl) (same_spec m s b b (by omega)) (fun w hw => ⟨RdW.own (by repeat (first | apply Find.here | apply Find.there)) w hw, RdW.old hr w hw⟩) (by rfl) ?_)
        |(refine st_callV (by rfl) (by rfl) (by rfl) (same_spec _ _ b b (by omega)) (fun w hw => ⟨by have h := RdW.subN (lo := 0) (hi := b.length) (ys := Sha.pad b) (k := .u8) (RdW.own (by repeat (first | apply Find.here | apply Find.there))) (by omega) (by omega) w hw; rw [hpt] at h; exact h, RdW.old hr w hw⟩) (by rfl) ?_)
        |refine Z01 ?_|refine Z02 ?_|refine Z03 ?_|refine Z04 ?_|refine Z05 ?_|refine Z06 ?_|refine Z07 ?_|refine Z08 ?_|refine Z09 ?_|refine Z10 ?_|refine Z11 ?_
        |refine Z12 ?_|refine Z13 ?_|refine Z14 ?_|refine Z15 ?_|refine Z17 ?_|refine Z18 ?_|refine Z20 ?_|refine Z21 ?_|refine Z22 ?_|refine Z23 ?_|refine Z29 ?_
        |refine Z30 ?_|refine Z31 ?_|refine Z32 ?_|refine Z49 ?_|refine Z50 ?_|refine Z51 ?_|refine Z52 ?_|refine Z53 ?_|refine Z54 ?_|refine Z58 ?_|refine Z59 ?_
        |refine Z62 ?_|refine Z63 ?_|refine Z64 ?_|refine Z70 ?_|refine Z84 fun _ => ?_|refine Z85 fun _ => ?_)
      refine Ze1 fun _ hw => post_of hw SubW.nil ⟨?_, rfl⟩
      rfl
end Go.Proofs.Ytefhbmhanajfoaa.L
