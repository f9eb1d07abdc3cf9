/- The walks of the sum and of the reference's filling up. Conditions: as each statement says. -/
import Derived.Test.YtbjfjkmidhfgcaaAuto
import Derived.Test.YtbjfjkmidhfgcaaPerm
import Derived.Test.YtbjfjkmidhfgcaaMore
import Derived.Test.YtbjfjkmidhfgcaaProg
import Derived.Test.YtbjfjkmidhfgcaaSha
import Derived.Test.YtbjfjkmidhfgcaaShaW
import Derived.Test.YtbjfjkmidhfgcaaShaX
import Derived.Test.YtbjfjkmidhfgcaaShaY
import Derived.Test.YtbjfjkmidhfgcaaShaZ
import Derived.Test.YtbjfjkmidhfgcaaShaP
namespace Go.Proofs.Ytbjfjkmidhfgcaa.L
open Go Go.Proofs
set_option maxRecDepth 100000
attribute [local irreducible] Code.wp wpList Af bodyPost L.Go
open Sha

theorem seven {i : Nat} (h : i < 8) : (7 - (i : Int)) = Int.ofNat (7 - i) := by
  show _ = ((7 - i : Nat) : Int)
  omega
theorem seven' {i : Nat} (h : i < 8) : (Int.ofNat (7 - i) - Int.ofNat 1) = 7 - ((i + 1 : Nat) : Int) := by
  show ((7 - i : Nat) : Int) - 1 = _
  omega
set_option maxHeartbeats 1000000 in
theorem rpad_spec (s : Value) (b : List Nat) (hl : b.length < 4294967296) :
    Spec Try.prog 96 [s] (fun w => Rd w s (b.map (N .u8))) [] (fun v W => W = [.sl v ((Sha.pad b).map (N .u8)) 5]) := by
  refine mk_spec Try.func96 rfl rfl rfl fun w hr => ?_
  have hr := RdC.mk0 hr
  have hp := padLen_le b.length
  have hA := padA_len b
  have hK : (8 * (b.length % 18446744073709551616)) % 18446744073709551616 = 8 * b.length := by omega
  repeat (first
    |refine Z01 ?_|refine Z02 ?_|refine Z03 ?_|refine Z04 ?_|refine Z05 ?_|refine Z06 ?_|refine Z07 ?_|refine Z08 ?_|refine Z09 ?_|refine Z10 ?_|refine Z11 ?_
    |refine Z12 ?_|refine Z13 ?_|refine Z14 ?_|refine Z16 ?_|refine Z17 ?_|refine Z18 ?_|refine Z20 ?_|refine Z21 ?_|refine Z35 ?_|refine Z36 ?_|refine Z38 ?_
    |refine Z42 ?_|refine Z44 ?_|refine Z45 ?_|refine Z58 ?_|refine Z59 ?_|refine Z71 ?_|refine Z74 ?_|refine Z80 ?_|refine Z84 fun _ => ?_|refine Z85 fun _ => ?_)
  rename_i v1 v2 v3 v4
  rw [show [] ++ b ++ [128] = b ++ 128 :: List.replicate 0 0 from rfl]
  refine st_loop (ι := Nat × Value) (fun q => q.1 ≤ padLen b.length - b.length - 9) (fun q => [(0, s), (3, q.2)])
    (fun q => [.sl q.2 ((b ++ 128 :: List.replicate q.1 0).map (N .u8)) 5]) (fun q => padLen b.length - q.1) (0, v4) (by simp) (by repeat (first | apply subL.nil | refine subL.cons (by rfl) ?_)) (by repeat (first | apply SubW.nil | refine SubW.cons (by repeat (first | apply Find.here | apply Find.there)) ?_)) ?_
  rintro ⟨j, v⟩ hj
  simp only at hj ⊢
  have hjl : (b ++ 128 :: List.replicate j 0).length = b.length + 1 + j := by simp; omega
  repeat (first
    |refine Z01 ?_|refine Z02 ?_|refine Z03 ?_|refine Z04 ?_|refine Z05 ?_|refine Z06 ?_|refine Z07 ?_|refine Z08 ?_|refine Z09 ?_|refine Z10 ?_|refine Z11 ?_
    |refine Z12 ?_|refine Z13 ?_|refine Z14 ?_|refine Z16 ?_|refine Z17 ?_|refine Z18 ?_|refine Z20 ?_|refine Z21 ?_|refine Z35 ?_|refine Z36 ?_|refine Z38 ?_
    |refine Z42 ?_|refine Z44 ?_|refine Z45 ?_|refine Z58 ?_|refine Z59 ?_|refine Z71 ?_|refine Z74 ?_|refine Z80 ?_|refine Z84 fun _ => ?_|refine Z85 fun _ => ?_)
  refine st_cond (by rfl) (fun h => ?_) (fun h => ?_)
  · rw [hjl] at h
    repeat (first
      |refine Z01 ?_|refine Z02 ?_|refine Z03 ?_|refine Z04 ?_|refine Z05 ?_|refine Z06 ?_|refine Z07 ?_|refine Z08 ?_|refine Z09 ?_|refine Z10 ?_|refine Z11 ?_
      |refine Z12 ?_|refine Z13 ?_|refine Z14 ?_|refine Z16 ?_|refine Z17 ?_|refine Z18 ?_|refine Z20 ?_|refine Z21 ?_|refine Z35 ?_|refine Z36 ?_|refine Z38 ?_
      |refine Z42 ?_|refine Z44 ?_|refine Z45 ?_|refine Z58 ?_|refine Z59 ?_|refine Z71 ?_|refine Z74 ?_|refine Z80 ?_|refine Z84 fun _ => ?_|refine Z85 fun _ => ?_)
    rw [rpad_succ]
    rename_i v5 v6
    exact st_round (j + 1, v6) (by simp only; omega) (by simp only; omega) (by repeat (first | apply subL.nil | refine subL.cons (by rfl) ?_)) (by repeat (first | apply SubW.nil | refine SubW.cons (by repeat (first | apply Find.here | apply Find.there)) ?_))
  · rw [hjl] at h
    rw [rpad_end b (by omega)]
    repeat (first
      |refine Z01 ?_|refine Z02 ?_|refine Z03 ?_|refine Z04 ?_|refine Z05 ?_|refine Z06 ?_|refine Z07 ?_|refine Z08 ?_|refine Z09 ?_|refine Z10 ?_|refine Z11 ?_
      |refine Z12 ?_|refine Z13 ?_|refine Z14 ?_|refine Z16 ?_|refine Z17 ?_|refine Z18 ?_|refine Z20 ?_|refine Z21 ?_|refine Z35 ?_|refine Z36 ?_|refine Z38 ?_
      |refine Z42 ?_|refine Z44 ?_|refine Z45 ?_|refine Z58 ?_|refine Z59 ?_|refine Z71 ?_|refine Z74 ?_|refine Z80 ?_|refine Z84 fun _ => ?_|refine Z85 fun _ => ?_)
    rw [hK]
    repeat (first
      |refine Z01 ?_|refine Z02 ?_|refine Z03 ?_|refine Z04 ?_|refine Z05 ?_|refine Z06 ?_|refine Z07 ?_|refine Z08 ?_|refine Z09 ?_|refine Z10 ?_|refine Z11 ?_
      |refine Z12 ?_|refine Z13 ?_|refine Z14 ?_|refine Z16 ?_|refine Z17 ?_|refine Z18 ?_|refine Z20 ?_|refine Z21 ?_|refine Z35 ?_|refine Z36 ?_|refine Z38 ?_
      |refine Z42 ?_|refine Z44 ?_|refine Z45 ?_|refine Z58 ?_|refine Z59 ?_|refine Z71 ?_|refine Z74 ?_|refine Z80 ?_|refine Z84 fun _ => ?_|refine Z85 fun _ => ?_)
    refine st_loop (ι := Nat × Value) (fun q => q.1 ≤ 8) (fun q => [(3, q.2), (4, N .u64 (8 * b.length)), (5, .int .i64 (7 - (q.1 : Int)))])
      (fun q => [.sl q.2 ((padA b ++ (be8 (8 * b.length)).take q.1).map (N .u8)) 5]) (fun q => 8 - q.1) (0, v) (by simp) (by repeat (first | apply subL.nil | refine subL.cons (by rfl) ?_)) (by repeat (first | apply SubW.nil | refine SubW.cons (by repeat (first | apply Find.here | apply Find.there)) ?_)) ?_
    rintro ⟨i, u⟩ hi
    simp only at hi ⊢
    have hil : (padA b ++ (be8 (8 * b.length)).take i).length = padLen b.length - 8 + i := by rw [List.length_append, be8_take_len _ _ hi, hA]
    repeat (first
      |refine Z01 ?_|refine Z02 ?_|refine Z03 ?_|refine Z04 ?_|refine Z05 ?_|refine Z06 ?_|refine Z07 ?_|refine Z08 ?_|refine Z09 ?_|refine Z10 ?_|refine Z11 ?_
      |refine Z12 ?_|refine Z13 ?_|refine Z14 ?_|refine Z16 ?_|refine Z17 ?_|refine Z18 ?_|refine Z20 ?_|refine Z21 ?_|refine Z35 ?_|refine Z36 ?_|refine Z38 ?_
      |refine Z42 ?_|refine Z44 ?_|refine Z45 ?_|refine Z58 ?_|refine Z59 ?_|refine Z71 ?_|refine Z74 ?_|refine Z80 ?_|refine Z84 fun _ => ?_|refine Z85 fun _ => ?_)
    refine st_cond (by rfl) (fun h => ?_) (fun h => ?_)
    · have h0 : (0 : Int) ≤ 7 - (i : Int) := h
      have hi8 : i < 8 := by omega
      rw [seven hi8]
      repeat (first
        |refine Z01 ?_|refine Z02 ?_|refine Z03 ?_|refine Z04 ?_|refine Z05 ?_|refine Z06 ?_|refine Z07 ?_|refine Z08 ?_|refine Z09 ?_|refine Z10 ?_|refine Z11 ?_
        |refine Z12 ?_|refine Z13 ?_|refine Z14 ?_|refine Z16 ?_|refine Z17 ?_|refine Z18 ?_|refine Z20 ?_|refine Z21 ?_|refine Z35 ?_|refine Z36 ?_|refine Z38 ?_
        |refine Z42 ?_|refine Z44 ?_|refine Z45 ?_|refine Z58 ?_|refine Z59 ?_|refine Z71 ?_|refine Z74 ?_|refine Z80 ?_|refine Z84 fun _ => ?_|refine Z85 fun _ => ?_)
      rw [Nat.mod_eq_of_lt (show 8 * (7 - i) < 18446744073709551616 by omega), rpad_be _ _ _ hi8]
      rw [seven' hi8]
      rename_i v8 v9
      exact st_round (i + 1, v9) (by simp only; omega) (by simp only; omega) (by repeat (first | apply subL.nil | refine subL.cons (by rfl) ?_)) (by repeat (first | apply SubW.nil | refine SubW.cons (by repeat (first | apply Find.here | apply Find.there)) ?_))
    · have h0 : ¬ (0 : Int) ≤ 7 - (i : Int) := h
      have h8 : i = 8 := by omega
      subst h8
      rw [rpad_all]
      repeat (first
        |refine Z01 ?_|refine Z02 ?_|refine Z03 ?_|refine Z04 ?_|refine Z05 ?_|refine Z06 ?_|refine Z07 ?_|refine Z08 ?_|refine Z09 ?_|refine Z10 ?_|refine Z11 ?_
        |refine Z12 ?_|refine Z13 ?_|refine Z14 ?_|refine Z16 ?_|refine Z17 ?_|refine Z18 ?_|refine Z20 ?_|refine Z21 ?_|refine Z35 ?_|refine Z36 ?_|refine Z38 ?_
        |refine Z42 ?_|refine Z44 ?_|refine Z45 ?_|refine Z58 ?_|refine Z59 ?_|refine Z71 ?_|refine Z74 ?_|refine Z80 ?_|refine Z84 fun _ => ?_|refine Z85 fun _ => ?_)
      exact Ze1 fun _ hw => post_of hw (Wout := [.sl u ((Sha.pad b).map (N .u8)) 5]) (by repeat (first | apply SubW.nil | refine SubW.cons (by repeat (first | apply Find.here | apply Find.there)) ?_)) rfl

set_option maxHeartbeats 1000000 in
theorem sum_spec (s : Value) (b : List Nat) (hb : Lt 256 b) (hl : b.length < 4294967296) :
    Spec Try.prog 66 [s] (fun w => Rd w s (b.map (N .u8))) [] (IsV (LV .u8 (Sha.sum b))) := by
  refine mk_spec Try.func66 rfl rfl rfl fun w hr => ?_
  have hr := RdC.mk0 hr
  have hp := padLen_le b.length
  have hpl := pad_len b
  repeat (first
    |(refine st_alloc (v := LV .u8 (List.replicate 32 0)) (by rfl) (by rfl) fun _ => ?_)
    |(refine st_alloc (v := LV .u32 (List.replicate 8 0)) (by rfl) (by rfl) fun _ => ?_)
    |((refine st_call (by rfl) (by rfl) (by rfl) (pad_spec s b hb hl) .nil (RdW.old hr) (by rfl) ?_; rintro v _ rfl))
    |(refine st_callV (by rfl) (by rfl) (by rfl) begin_spec (fun _ _ => trivial) (by rfl) ?_)|refine Z01 ?_|refine Z02 ?_|refine Z03 ?_|refine Z04 ?_|refine Z05 ?_
    |refine Z06 ?_|refine Z07 ?_|refine Z08 ?_|refine Z09 ?_|refine Z10 ?_|refine Z11 ?_|refine Z12 ?_|refine Z13 ?_|refine Z14 ?_|refine Z15 ?_|refine Z16 ?_
    |refine Z17 ?_|refine Z18 ?_|refine Z20 ?_|refine Z21 ?_|refine Z22 ?_|refine Z23 ?_|refine Z24 ?_|refine Z25 ?_|refine Z26 ?_|refine Z27 ?_|refine Z28 ?_
    |refine Z29 ?_|refine Z30 ?_|refine Z31 ?_|refine Z32 ?_|refine Z36 ?_|refine Z37 ?_|refine Z38 ?_|refine Z42 ?_|refine Z44 ?_|refine Z45 ?_|refine Z58 ?_
    |refine Z59 ?_|refine Z62 ?_|refine Z63 ?_|refine Z64 ?_|refine Z66 ?_|refine Z67 ?_|refine Z70 ?_|refine Z71 ?_|refine Z74 ?_|refine Z80 ?_|refine Z82 fun _ => ?_)
  rename_i b1 b2
  have hpd := padLen_le b.length
  refine st_loop (ι := Nat × Value) (fun q => 64 * q.1 ≤ padLen b.length) (fun q => [(2, pt b1 0), (3, q.2), (4, pt b2 0)])
    (fun q => [.sl q.2 (((Sha.pad b).drop (64 * q.1)).map (N .u8)) 5, .blk b2 (LV .u32 (fold (Sha.pad b) q.1)) 88, .blk b1 (LV .u8 (List.replicate 32 0)) 65]) (fun q => padLen b.length - q.1) (0, v) (by simp) (by repeat (first | apply subL.nil | refine subL.cons (by rfl) ?_)) ?_ ?_
  · rw [fold_0]
    exact (by repeat (first | apply SubW.nil | refine SubW.cons (by repeat (first | apply Find.here | apply Find.there)) ?_))
  rintro ⟨k, u⟩ hk
  simp only at hk ⊢
  have hfl := fold_len (Sha.pad b) k
  have hfb := fold_lt (Sha.pad b) k
  have hdl : ((Sha.pad b).drop (64 * k)).length = padLen b.length - 64 * k := by rw [List.length_drop, hpl]
  repeat (first
    |refine Z01 ?_|refine Z02 ?_|refine Z03 ?_|refine Z04 ?_|refine Z05 ?_|refine Z06 ?_|refine Z07 ?_|refine Z08 ?_|refine Z09 ?_|refine Z10 ?_|refine Z11 ?_
    |refine Z12 ?_|refine Z13 ?_|refine Z14 ?_|refine Z15 ?_|refine Z16 ?_|refine Z17 ?_|refine Z18 ?_|refine Z20 ?_|refine Z21 ?_|refine Z22 ?_|refine Z23 ?_
    |refine Z24 ?_|refine Z25 ?_|refine Z26 ?_|refine Z27 ?_|refine Z28 ?_|refine Z29 ?_|refine Z30 ?_|refine Z31 ?_|refine Z32 ?_|refine Z36 ?_|refine Z37 ?_
    |refine Z38 ?_|refine Z42 ?_|refine Z44 ?_|refine Z45 ?_|refine Z58 ?_|refine Z59 ?_|refine Z62 ?_|refine Z63 ?_|refine Z64 ?_|refine Z66 ?_|refine Z67 ?_
    |refine Z70 ?_|refine Z71 ?_|refine Z74 ?_|refine Z80 ?_|refine Z82 fun _ => ?_)
  refine st_cond (by rfl) (fun h => ?_) (fun h => ?_)
  · rw [hdl] at h
    have h64 : 64 * k + 64 ≤ (Sha.pad b).length := by omega
    have hcl := cut_len _ _ h64
    have hcb := cut_lt (pad_lt hb) k
    repeat (first
      |refine Z01 ?_|refine Z02 ?_|refine Z03 ?_|refine Z04 ?_|refine Z05 ?_|refine Z06 ?_|refine Z07 ?_|refine Z08 ?_|refine Z09 ?_|refine Z10 ?_|refine Z11 ?_
      |refine Z12 ?_|refine Z13 ?_|refine Z14 ?_|refine Z15 ?_|refine Z16 ?_|refine Z17 ?_|refine Z18 ?_|refine Z20 ?_|refine Z21 ?_|refine Z22 ?_|refine Z23 ?_
      |refine Z24 ?_|refine Z25 ?_|refine Z26 ?_|refine Z27 ?_|refine Z28 ?_|refine Z29 ?_|refine Z30 ?_|refine Z31 ?_|refine Z32 ?_|refine Z36 ?_|refine Z37 ?_
      |refine Z38 ?_|refine Z42 ?_|refine Z44 ?_|refine Z45 ?_|refine Z58 ?_|refine Z59 ?_|refine Z62 ?_|refine Z63 ?_|refine Z64 ?_|refine Z66 ?_|refine Z67 ?_
      |refine Z70 ?_|refine Z71 ?_|refine Z74 ?_|refine Z80 ?_|refine Z82 fun _ => ?_)
    have hX : List.take 64 (List.drop 0 (List.take 64 (List.drop (64 * k) (Sha.pad b)))) = List.take 64 (List.drop (64 * k) (Sha.pad b)) := by rw [List.drop_zero, List.take_take, Nat.min_self]
    have hsl := step_len (blk := List.take 64 (List.drop 0 (List.take 64 (List.drop (64 * k) (Sha.pad b))))) hfl
    refine st_draw1 (by rfl) ?_
    repeat (first
      |refine Zqf (by intro _ _ _;(first
        |refine Z01 ?_|refine Z02 ?_|refine Z15 ?_|refine Z16 ?_|refine Z17 ?_|refine Z18 ?_|refine Z20 ?_|refine Z21 ?_|refine Z22 ?_|refine Z23 ?_|refine Z36 ?_
        |refine Z37 ?_|refine Z38 ?_|refine Z42 ?_|refine Z44 ?_|refine Z45 ?_|refine Z58 ?_|refine Z59 ?_|refine Z62 ?_|refine Z63 ?_|refine Z64 ?_|refine Z66 ?_
        |refine Z70 ?_|refine Z71 ?_|refine Z74 ?_|refine Z80 ?_
        |(refine st_callV (by rfl) (by rfl) (by rfl) (step_spec (fold (Sha.pad b) k) (List.take 64 (List.drop 0 (List.take 64 (List.drop (64 * k) (Sha.pad b))))) hfl hfb (by rw [hX]; exact hcl) (by rw [hX]; exact hcb)) (fun _ _ => trivial) (by rfl) ?_));exact Zq) ?_
      |refine Zqp (by intro _ _ _;(first
        |refine Z24 ?_|refine Z25 ?_|refine Z26 ?_|refine Z27 ?_|refine Z28 ?_|refine Z67 ?_|refine Z23 ?_|refine Z20 ?_|refine Z21 ?_|refine Z62 ?_|refine Z66 ?_);exact Zq) ?_
      |refine Zqe (by intro _ _ _;(first
        |refine Z29 ?_|refine Z30 ?_|refine Z31 ?_|refine Z32 ?_);exact Zqq) ?_
      |refine Zqn ?_)
    refine Zq0 ?_ (by kernel_rfl)
    rw [hX, ← fold_succ]
    have hfl' := fold_len (Sha.pad b) (k + 1)
    repeat (first
      |refine Z01 ?_|refine Z02 ?_|refine Z03 ?_|refine Z04 ?_|refine Z05 ?_|refine Z06 ?_|refine Z07 ?_|refine Z08 ?_|refine Z09 ?_|refine Z10 ?_|refine Z11 ?_
      |refine Z12 ?_|refine Z13 ?_|refine Z14 ?_|refine Z15 ?_|refine Z16 ?_|refine Z17 ?_|refine Z18 ?_|refine Z20 ?_|refine Z21 ?_|refine Z22 ?_|refine Z23 ?_
      |refine Z24 ?_|refine Z25 ?_|refine Z26 ?_|refine Z27 ?_|refine Z28 ?_|refine Z29 ?_|refine Z30 ?_|refine Z31 ?_|refine Z32 ?_|refine Z36 ?_|refine Z37 ?_
      |refine Z38 ?_|refine Z42 ?_|refine Z44 ?_|refine Z45 ?_|refine Z58 ?_|refine Z59 ?_|refine Z62 ?_|refine Z63 ?_|refine Z64 ?_|refine Z66 ?_|refine Z67 ?_
      |refine Z70 ?_|refine Z71 ?_|refine Z74 ?_|refine Z80 ?_|refine Z82 fun _ => ?_)
    have hlen : (List.map (N .u8) (List.drop (64 * k) (Sha.pad b))).length = padLen b.length - 64 * k := by rw [List.length_map, hdl]
    refine st_resl 64 (List.map (N .u8) (List.drop (64 * k) (Sha.pad b))).length (by repeat (first | apply Find.here | apply Find.there)) (by omega) (Nat.le_refl _) ?_
    have hY : List.drop 64 (List.take (List.map (N .u8) (List.drop (64 * k) (Sha.pad b))).length (List.map (N .u8) (List.drop (64 * k) (Sha.pad b)))) = List.map (N .u8) (List.drop (64 * (k + 1)) (Sha.pad b)) := by
      rw [List.take_length, ← List.map_drop, List.drop_drop]; rfl
    rw [hY]
    exact st_round (k + 1, sub u 64 (List.map (N .u8) (List.drop (64 * k) (Sha.pad b))).length) (by simp only; omega) (by simp only; omega) (by repeat (first | apply subL.nil | refine subL.cons (by rfl) ?_)) (by repeat (first | apply SubW.nil | refine SubW.cons (by repeat (first | apply Find.here | apply Find.there)) ?_))
  · rw [hdl] at h
    have hk' : k = padLen b.length / 64 := by omega
    subst hk'
    have hbl := Sha.bytes_len (fold (Sha.pad b) (padLen b.length / 64))
    have hal : (Sha.bytes (fold (Sha.pad b) (padLen b.length / 64))).length = (List.replicate 32 0).length := by rw [hbl]; rfl
    repeat (first
      |refine Z01 ?_|refine Z02 ?_|refine Z03 ?_|refine Z04 ?_|refine Z05 ?_|refine Z06 ?_|refine Z07 ?_|refine Z08 ?_|refine Z09 ?_|refine Z10 ?_|refine Z11 ?_
      |refine Z12 ?_|refine Z13 ?_|refine Z14 ?_|refine Z15 ?_|refine Z16 ?_|refine Z17 ?_|refine Z18 ?_|refine Z20 ?_|refine Z21 ?_|refine Z22 ?_|refine Z23 ?_
      |refine Z24 ?_|refine Z25 ?_|refine Z26 ?_|refine Z27 ?_|refine Z28 ?_|refine Z29 ?_|refine Z30 ?_|refine Z31 ?_|refine Z32 ?_|refine Z36 ?_|refine Z37 ?_
      |refine Z38 ?_|refine Z42 ?_|refine Z44 ?_|refine Z45 ?_|refine Z58 ?_|refine Z59 ?_|refine Z62 ?_|refine Z63 ?_|refine Z64 ?_|refine Z66 ?_|refine Z67 ?_
      |refine Z70 ?_|refine Z71 ?_|refine Z74 ?_|refine Z80 ?_|refine Z82 fun _ => ?_)
    refine st_loop (ι := Nat) (fun i => i ≤ 32) (fun i => [(20, N .i64 i), (2, pt b1 0), (4, pt b2 0)])
      (fun i => [.blk b1 (LV .u8 (mixT (Sha.bytes (fold (Sha.pad b) (padLen b.length / 64))) (List.replicate 32 0) i)) 65, .blk b2 (LV .u32 (fold (Sha.pad b) (padLen b.length / 64))) 88]) (fun i => 32 - i) 0 (by omega) (by repeat (first | apply subL.nil | refine subL.cons (by rfl) ?_)) (by rw [mixT_0]; exact (by repeat (first | apply SubW.nil | refine SubW.cons (by repeat (first | apply Find.here | apply Find.there)) ?_))) ?_
    intro i hi
    have hml := mixT_len hal i
    rw [List.length_replicate] at hml
    repeat (first
      |refine Z01 ?_|refine Z02 ?_|refine Z03 ?_|refine Z04 ?_|refine Z05 ?_|refine Z06 ?_|refine Z07 ?_|refine Z08 ?_|refine Z09 ?_|refine Z10 ?_|refine Z11 ?_
      |refine Z12 ?_|refine Z13 ?_|refine Z14 ?_|refine Z15 ?_|refine Z16 ?_|refine Z17 ?_|refine Z18 ?_|refine Z20 ?_|refine Z21 ?_|refine Z22 ?_|refine Z23 ?_
      |refine Z24 ?_|refine Z25 ?_|refine Z26 ?_|refine Z27 ?_|refine Z28 ?_|refine Z29 ?_|refine Z30 ?_|refine Z31 ?_|refine Z32 ?_|refine Z36 ?_|refine Z37 ?_
      |refine Z38 ?_|refine Z42 ?_|refine Z44 ?_|refine Z45 ?_|refine Z58 ?_|refine Z59 ?_|refine Z62 ?_|refine Z63 ?_|refine Z64 ?_|refine Z66 ?_|refine Z67 ?_
      |refine Z70 ?_|refine Z71 ?_|refine Z74 ?_|refine Z80 ?_|refine Z82 fun _ => ?_)
    refine st_cond (by rfl) (fun hi' => ?_) (fun hi' => ?_)
    · repeat (first
        |refine Z01 ?_|refine Z02 ?_|refine Z03 ?_|refine Z04 ?_|refine Z05 ?_|refine Z06 ?_|refine Z07 ?_|refine Z08 ?_|refine Z09 ?_|refine Z10 ?_|refine Z11 ?_
        |refine Z12 ?_|refine Z13 ?_|refine Z14 ?_|refine Z15 ?_|refine Z16 ?_|refine Z17 ?_|refine Z18 ?_|refine Z20 ?_|refine Z21 ?_|refine Z22 ?_|refine Z23 ?_
        |refine Z24 ?_|refine Z25 ?_|refine Z26 ?_|refine Z27 ?_|refine Z28 ?_|refine Z29 ?_|refine Z30 ?_|refine Z31 ?_|refine Z32 ?_|refine Z36 ?_|refine Z37 ?_
        |refine Z38 ?_|refine Z42 ?_|refine Z44 ?_|refine Z45 ?_|refine Z58 ?_|refine Z59 ?_|refine Z62 ?_|refine Z63 ?_|refine Z64 ?_|refine Z66 ?_|refine Z67 ?_
        |refine Z70 ?_|refine Z71 ?_|refine Z74 ?_|refine Z80 ?_|refine Z82 fun _ => ?_)
      rw [← Sha.bytes_getD _ hi', mix_take hal (by simp; omega)]
      exact st_round (i + 1) (by omega) (by omega) (by repeat (first | apply subL.nil | refine subL.cons (by rfl) ?_)) (by repeat (first | apply SubW.nil | refine SubW.cons (by repeat (first | apply Find.here | apply Find.there)) ?_))
    · have h32 : i = 32 := by omega
      subst h32
      have hm : mixT (Sha.bytes (fold (Sha.pad b) (padLen b.length / 64))) (List.replicate 32 0) 32 = Sha.sum b := by
        rw [sum_def]; exact mixT_all hal
      rw [hm] at hml ⊢
      repeat (first
        |refine Z01 ?_|refine Z02 ?_|refine Z03 ?_|refine Z04 ?_|refine Z05 ?_|refine Z06 ?_|refine Z07 ?_|refine Z08 ?_|refine Z09 ?_|refine Z10 ?_|refine Z11 ?_
        |refine Z12 ?_|refine Z13 ?_|refine Z14 ?_|refine Z15 ?_|refine Z16 ?_|refine Z17 ?_|refine Z18 ?_|refine Z20 ?_|refine Z21 ?_|refine Z22 ?_|refine Z23 ?_
        |refine Z24 ?_|refine Z25 ?_|refine Z26 ?_|refine Z27 ?_|refine Z28 ?_|refine Z29 ?_|refine Z30 ?_|refine Z31 ?_|refine Z32 ?_|refine Z36 ?_|refine Z37 ?_
        |refine Z38 ?_|refine Z42 ?_|refine Z44 ?_|refine Z45 ?_|refine Z58 ?_|refine Z59 ?_|refine Z62 ?_|refine Z63 ?_|refine Z64 ?_|refine Z66 ?_|refine Z67 ?_
        |refine Z70 ?_|refine Z71 ?_|refine Z74 ?_|refine Z80 ?_|refine Z82 fun _ => ?_)
      refine Zec fun _ hw => post_of hw SubW.nil ⟨?_, rfl⟩
      rfl
end Go.Proofs.Ytbjfjkmidhfgcaa.L
