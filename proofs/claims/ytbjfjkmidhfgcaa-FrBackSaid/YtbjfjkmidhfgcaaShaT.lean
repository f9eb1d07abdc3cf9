/- The walks of the reference's sum and of its comparison. Conditions: as each statement says. -/
import Derived.Test.YtbjfjkmidhfgcaaAuto
import Derived.Test.YtbjfjkmidhfgcaaPerm
import Derived.Test.YtbjfjkmidhfgcaaMore
import Derived.Test.YtbjfjkmidhfgcaaProg
import Derived.Test.YtbjfjkmidhfgcaaSha
import Derived.Test.YtbjfjkmidhfgcaaShaW
import Derived.Test.YtbjfjkmidhfgcaaShaX
import Derived.Test.YtbjfjkmidhfgcaaShaY
import Derived.Test.YtbjfjkmidhfgcaaShaZ
import Derived.Test.YtbjfjkmidhfgcaaShaP
import Derived.Test.YtbjfjkmidhfgcaaShaS
namespace Go.Proofs.Ytbjfjkmidhfgcaa.L
open Go Go.Proofs
set_option maxRecDepth 100000
attribute [local irreducible] Code.wp wpList Af bodyPost L.Go
open Sha

theorem take_next {xs ys : List Nat} {i : Nat} (h : i < xs.length) (h' : i < ys.length) (he : xs.take i = ys.take i) (hd : xs.getD i 0 = ys.getD i 0) : xs.take (i + 1) = ys.take (i + 1) := by
  rw [List.take_succ_eq_append_getElem h, List.take_succ_eq_append_getElem h', he]
  simp only [List.getD_eq_getElem?_getD, List.getElem?_eq_getElem h, List.getElem?_eq_getElem h', Option.getD_some] at hd
  rw [hd]
theorem getD_blk (p : List Nat) (k j : Nat) (h : j < 64) : ((p.drop (64 * k)).take 64).getD j 0 = p.getD (64 * k + j) 0 := by
  simp only [List.getD_eq_getElem?_getD, List.getElem?_take, List.getElem?_drop, if_pos h]

set_option maxHeartbeats 1000000 in
theorem rsum_spec (s : Value) (b : List Nat) (hb : Lt 256 b) (hl : b.length < 4294967296) :
    Spec Try.prog 87 [s] (fun w => Rd w s (b.map (N .u8))) [] (IsV (LV .u8 (Sha.sum b))) := by
  refine mk_spec Try.func87 rfl rfl rfl fun w hr => ?_
  have hr := RdC.mk0 hr
  have hp := padLen_le b.length
  have hpl := pad_len b
  repeat (first
    |(refine st_alloc (v := LV .u8 (List.replicate 32 0)) (by rfl) (by rfl) fun _ => ?_)
    |(refine st_alloc (v := LV .u32 (List.replicate 8 0)) (by rfl) (by rfl) fun _ => ?_)
    |((refine st_call (by rfl) (by rfl) (by rfl) (rpad_spec s b hl) .nil (RdW.old hr) (by rfl) ?_; rintro v _ rfl))
    |(refine st_callV (by rfl) (by rfl) (by rfl) rbegin_spec (fun _ _ => trivial) (by rfl) ?_)|refine Z01 ?_|refine Z02 ?_|refine Z03 ?_|refine Z04 ?_|refine Z05 ?_
    |refine Z06 ?_|refine Z07 ?_|refine Z08 ?_|refine Z09 ?_|refine Z10 ?_|refine Z11 ?_|refine Z12 ?_|refine Z13 ?_|refine Z14 ?_|refine Z15 ?_|refine Z16 ?_
    |refine Z17 ?_|refine Z18 ?_|refine Z20 ?_|refine Z21 ?_|refine Z22 ?_|refine Z23 ?_|refine Z24 ?_|refine Z25 ?_|refine Z26 ?_|refine Z27 ?_|refine Z28 ?_
    |refine Z29 ?_|refine Z30 ?_|refine Z31 ?_|refine Z32 ?_|refine Z36 ?_|refine Z37 ?_|refine Z38 ?_|refine Z42 ?_|refine Z44 ?_|refine Z45 ?_|refine Z58 ?_
    |refine Z59 ?_|refine Z67 ?_|refine Z70 ?_|refine Z71 ?_|refine Z74 ?_|refine Z80 ?_|refine Z82 fun _ => ?_)
  rename_i b1 b2
  refine st_loop (ι := Nat) (fun k => 64 * k ≤ padLen b.length) (fun k => [(2, pt b1 0), (3, v), (4, pt b2 0), (5, N .i64 (64 * k))])
    (fun k => [.sl v ((Sha.pad b).map (N .u8)) 5, .blk b2 (LV .u32 (fold (Sha.pad b) k)) 88, .blk b1 (LV .u8 (List.replicate 32 0)) 65]) (fun k => padLen b.length - k) 0 (by omega) (by repeat (first | apply subL.nil | refine subL.cons (by rfl) ?_)) (by rw [fold_0]; exact (by repeat (first | apply SubW.nil | refine SubW.cons (by repeat (first | apply Find.here | apply Find.there)) ?_))) ?_
  intro k hk
  have hfl := fold_len (Sha.pad b) k
  have hfb := fold_lt (Sha.pad b) k
  repeat (first
    |refine Z01 ?_|refine Z02 ?_|refine Z03 ?_|refine Z04 ?_|refine Z05 ?_|refine Z06 ?_|refine Z07 ?_|refine Z08 ?_|refine Z09 ?_|refine Z10 ?_|refine Z11 ?_
    |refine Z12 ?_|refine Z13 ?_|refine Z14 ?_|refine Z15 ?_|refine Z16 ?_|refine Z17 ?_|refine Z18 ?_|refine Z20 ?_|refine Z21 ?_|refine Z22 ?_|refine Z23 ?_
    |refine Z24 ?_|refine Z25 ?_|refine Z26 ?_|refine Z27 ?_|refine Z28 ?_|refine Z29 ?_|refine Z30 ?_|refine Z31 ?_|refine Z32 ?_|refine Z36 ?_|refine Z37 ?_
    |refine Z38 ?_|refine Z42 ?_|refine Z44 ?_|refine Z45 ?_|refine Z58 ?_|refine Z59 ?_|refine Z67 ?_|refine Z70 ?_|refine Z71 ?_|refine Z74 ?_|refine Z80 ?_
    |refine Z82 fun _ => ?_)
  refine st_cond (by rfl) (fun h => ?_) (fun h => ?_)
  · rw [hpl] at h
    have h64 : 64 * k + 64 ≤ (Sha.pad b).length := by omega
    have hcl := cut_len _ _ h64
    have hcb := cut_lt (pad_lt hb) k
    have hal : (List.take 64 (List.drop (64 * k) (Sha.pad b))).length = (List.replicate 64 0).length := by rw [hcl]; rfl
    repeat (first
      |(refine st_alloc (v := LV .u8 (List.replicate 64 0)) (by rfl) (by rfl) fun _ => ?_)|refine Z01 ?_|refine Z02 ?_|refine Z03 ?_|refine Z04 ?_|refine Z05 ?_
      |refine Z06 ?_|refine Z07 ?_|refine Z08 ?_|refine Z09 ?_|refine Z10 ?_|refine Z11 ?_|refine Z12 ?_|refine Z13 ?_|refine Z14 ?_|refine Z15 ?_|refine Z16 ?_
      |refine Z17 ?_|refine Z18 ?_|refine Z20 ?_|refine Z21 ?_|refine Z22 ?_|refine Z23 ?_|refine Z24 ?_|refine Z25 ?_|refine Z26 ?_|refine Z27 ?_|refine Z28 ?_
      |refine Z29 ?_|refine Z30 ?_|refine Z31 ?_|refine Z32 ?_|refine Z36 ?_|refine Z37 ?_|refine Z38 ?_|refine Z42 ?_|refine Z44 ?_|refine Z45 ?_|refine Z58 ?_
      |refine Z59 ?_|refine Z67 ?_|refine Z70 ?_|refine Z71 ?_|refine Z74 ?_|refine Z80 ?_|refine Z82 fun _ => ?_)
    rename_i b3
    refine st_loop (ι := Nat) (fun j => j ≤ 64) (fun j => [(2, pt b1 0), (3, v), (4, pt b2 0), (5, N .i64 (64 * k)), (6, pt b3 0), (7, N .i64 j)])
      (fun j => [.blk b3 (LV .u8 (mixT (List.take 64 (List.drop (64 * k) (Sha.pad b))) (List.replicate 64 0) j)) 91, .sl v ((Sha.pad b).map (N .u8)) 5, .blk b2 (LV .u32 (fold (Sha.pad b) k)) 88, .blk b1 (LV .u8 (List.replicate 32 0)) 65]) (fun j => 64 - j) 0 (by omega) (by repeat (first | apply subL.nil | refine subL.cons (by rfl) ?_)) (by rw [mixT_0]; exact (by repeat (first | apply SubW.nil | refine SubW.cons (by repeat (first | apply Find.here | apply Find.there)) ?_))) ?_
    intro j hj
    have hml := mixT_len hal j
    rw [List.length_replicate] at hml
    repeat (first
      |refine Z01 ?_|refine Z02 ?_|refine Z03 ?_|refine Z04 ?_|refine Z05 ?_|refine Z06 ?_|refine Z07 ?_|refine Z08 ?_|refine Z09 ?_|refine Z10 ?_|refine Z11 ?_
      |refine Z12 ?_|refine Z13 ?_|refine Z14 ?_|refine Z15 ?_|refine Z16 ?_|refine Z17 ?_|refine Z18 ?_|refine Z20 ?_|refine Z21 ?_|refine Z22 ?_|refine Z23 ?_
      |refine Z24 ?_|refine Z25 ?_|refine Z26 ?_|refine Z27 ?_|refine Z28 ?_|refine Z29 ?_|refine Z30 ?_|refine Z31 ?_|refine Z32 ?_|refine Z36 ?_|refine Z37 ?_
      |refine Z38 ?_|refine Z42 ?_|refine Z44 ?_|refine Z45 ?_|refine Z58 ?_|refine Z59 ?_|refine Z67 ?_|refine Z70 ?_|refine Z71 ?_|refine Z74 ?_|refine Z80 ?_
      |refine Z82 fun _ => ?_)
    refine st_cond (by rfl) (fun hj' => ?_) (fun hj' => ?_)
    · repeat (first
        |refine Z01 ?_|refine Z02 ?_|refine Z03 ?_|refine Z04 ?_|refine Z05 ?_|refine Z06 ?_|refine Z07 ?_|refine Z08 ?_|refine Z09 ?_|refine Z10 ?_|refine Z11 ?_
        |refine Z12 ?_|refine Z13 ?_|refine Z14 ?_|refine Z15 ?_|refine Z16 ?_|refine Z17 ?_|refine Z18 ?_|refine Z20 ?_|refine Z21 ?_|refine Z22 ?_|refine Z23 ?_
        |refine Z24 ?_|refine Z25 ?_|refine Z26 ?_|refine Z27 ?_|refine Z28 ?_|refine Z29 ?_|refine Z30 ?_|refine Z31 ?_|refine Z32 ?_|refine Z36 ?_|refine Z37 ?_
        |refine Z38 ?_|refine Z42 ?_|refine Z44 ?_|refine Z45 ?_|refine Z58 ?_|refine Z59 ?_|refine Z67 ?_|refine Z70 ?_|refine Z71 ?_|refine Z74 ?_|refine Z80 ?_
        |refine Z82 fun _ => ?_)
      rw [← getD_blk _ _ _ hj', mix_take hal (by simp; omega)]
      exact st_round (j + 1) (by omega) (by omega) (by repeat (first | apply subL.nil | refine subL.cons (by rfl) ?_)) (by repeat (first | apply SubW.nil | refine SubW.cons (by repeat (first | apply Find.here | apply Find.there)) ?_))
    · have e64 : j = 64 := by omega
      subst e64
      have hm : mixT (List.take 64 (List.drop (64 * k) (Sha.pad b))) (List.replicate 64 0) 64 = List.take 64 (List.drop (64 * k) (Sha.pad b)) := mixT_all hal
      rw [hm] at hml ⊢
      have hsl := step_len (blk := List.take 64 (List.drop (64 * k) (Sha.pad b))) hfl
      repeat (first
        
        |(refine st_callV (by rfl) (by rfl) (by rfl) (rstep_spec (fold (Sha.pad b) k) (List.take 64 (List.drop (64 * k) (Sha.pad b))) hfl hfb hcl hcb) (fun _ _ => trivial) (by rfl) ?_)
        |refine Z01 ?_|refine Z02 ?_|refine Z03 ?_|refine Z04 ?_|refine Z05 ?_|refine Z06 ?_|refine Z07 ?_|refine Z08 ?_|refine Z09 ?_|refine Z10 ?_|refine Z11 ?_
        |refine Z12 ?_|refine Z13 ?_|refine Z14 ?_|refine Z15 ?_|refine Z16 ?_|refine Z17 ?_|refine Z18 ?_|refine Z20 ?_|refine Z21 ?_|refine Z22 ?_|refine Z23 ?_
        |refine Z24 ?_|refine Z25 ?_|refine Z26 ?_|refine Z27 ?_|refine Z28 ?_|refine Z29 ?_|refine Z30 ?_|refine Z31 ?_|refine Z32 ?_|refine Z36 ?_|refine Z37 ?_
        |refine Z38 ?_|refine Z42 ?_|refine Z44 ?_|refine Z45 ?_|refine Z58 ?_|refine Z59 ?_|refine Z67 ?_|refine Z70 ?_|refine Z71 ?_|refine Z74 ?_|refine Z80 ?_
        |refine Z82 fun _ => ?_)
      rw [← fold_succ]
      exact st_round (k + 1) (by omega) (by omega) (by repeat (first | apply subL.nil | refine subL.cons (by rfl) ?_)) (by repeat (first | apply SubW.nil | refine SubW.cons (by repeat (first | apply Find.here | apply Find.there)) ?_))
  · rw [hpl] at h
    have hk' : k = padLen b.length / 64 := by omega
    subst hk'
    have hbl := Sha.bytes_len (fold (Sha.pad b) (padLen b.length / 64))
    have hal : (Sha.bytes (fold (Sha.pad b) (padLen b.length / 64))).length = (List.replicate 32 0).length := by rw [hbl]; rfl
    repeat (first
      |(refine st_alloc (v := LV .u8 (List.replicate 32 0)) (by rfl) (by rfl) fun _ => ?_)|refine Z01 ?_|refine Z02 ?_|refine Z03 ?_|refine Z04 ?_|refine Z05 ?_
      |refine Z06 ?_|refine Z07 ?_|refine Z08 ?_|refine Z09 ?_|refine Z10 ?_|refine Z11 ?_|refine Z12 ?_|refine Z13 ?_|refine Z14 ?_|refine Z15 ?_|refine Z16 ?_
      |refine Z17 ?_|refine Z18 ?_|refine Z20 ?_|refine Z21 ?_|refine Z22 ?_|refine Z23 ?_|refine Z24 ?_|refine Z25 ?_|refine Z26 ?_|refine Z27 ?_|refine Z28 ?_
      |refine Z29 ?_|refine Z30 ?_|refine Z31 ?_|refine Z32 ?_|refine Z36 ?_|refine Z37 ?_|refine Z38 ?_|refine Z42 ?_|refine Z44 ?_|refine Z45 ?_|refine Z58 ?_
      |refine Z59 ?_|refine Z67 ?_|refine Z70 ?_|refine Z71 ?_|refine Z74 ?_|refine Z80 ?_|refine Z82 fun _ => ?_)
    rename_i b4
    refine st_loop (ι := Nat) (fun i => i ≤ 32) (fun i => [(9, N .i64 i), (8, pt b4 0), (4, pt b2 0), (2, pt b1 0)])
      (fun i => [.blk b4 (LV .u8 (mixT (Sha.bytes (fold (Sha.pad b) (padLen b.length / 64))) (List.replicate 32 0) i)) 65, .blk b2 (LV .u32 (fold (Sha.pad b) (padLen b.length / 64))) 88, .blk b1 (LV .u8 (List.replicate 32 0)) 65]) (fun i => 32 - i) 0 (by omega) (by repeat (first | apply subL.nil | refine subL.cons (by rfl) ?_)) (by rw [mixT_0]; exact (by repeat (first | apply SubW.nil | refine SubW.cons (by repeat (first | apply Find.here | apply Find.there)) ?_))) ?_
    intro i hi
    have hml := mixT_len hal i
    rw [List.length_replicate] at hml
    repeat (first
      |refine Z01 ?_|refine Z02 ?_|refine Z03 ?_|refine Z04 ?_|refine Z05 ?_|refine Z06 ?_|refine Z07 ?_|refine Z08 ?_|refine Z09 ?_|refine Z10 ?_|refine Z11 ?_
      |refine Z12 ?_|refine Z13 ?_|refine Z14 ?_|refine Z15 ?_|refine Z16 ?_|refine Z17 ?_|refine Z18 ?_|refine Z20 ?_|refine Z21 ?_|refine Z22 ?_|refine Z23 ?_
      |refine Z24 ?_|refine Z25 ?_|refine Z26 ?_|refine Z27 ?_|refine Z28 ?_|refine Z29 ?_|refine Z30 ?_|refine Z31 ?_|refine Z32 ?_|refine Z36 ?_|refine Z37 ?_
      |refine Z38 ?_|refine Z42 ?_|refine Z44 ?_|refine Z45 ?_|refine Z58 ?_|refine Z59 ?_|refine Z67 ?_|refine Z70 ?_|refine Z71 ?_|refine Z74 ?_|refine Z80 ?_
      |refine Z82 fun _ => ?_)
    refine st_cond (by rfl) (fun hi' => ?_) (fun hi' => ?_)
    · have hm2 : (24 - 8 * (i % 4)) % 18446744073709551616 = 24 - 8 * (i % 4) := by omega
      repeat (first
        |refine Z01 ?_|refine Z02 ?_|refine Z03 ?_|refine Z04 ?_|refine Z05 ?_|refine Z06 ?_|refine Z07 ?_|refine Z08 ?_|refine Z09 ?_|refine Z10 ?_|refine Z11 ?_
        |refine Z12 ?_|refine Z13 ?_|refine Z14 ?_|refine Z15 ?_|refine Z16 ?_|refine Z17 ?_|refine Z18 ?_|refine Z20 ?_|refine Z21 ?_|refine Z22 ?_|refine Z23 ?_
        |refine Z24 ?_|refine Z25 ?_|refine Z26 ?_|refine Z27 ?_|refine Z28 ?_|refine Z29 ?_|refine Z30 ?_|refine Z31 ?_|refine Z32 ?_|refine Z36 ?_|refine Z37 ?_
        |refine Z38 ?_|refine Z42 ?_|refine Z44 ?_|refine Z45 ?_|refine Z58 ?_|refine Z59 ?_|refine Z67 ?_|refine Z70 ?_|refine Z71 ?_|refine Z74 ?_|refine Z80 ?_
        |refine Z82 fun _ => ?_)
      rw [hm2]
      repeat (first
        |refine Z01 ?_|refine Z02 ?_|refine Z03 ?_|refine Z04 ?_|refine Z05 ?_|refine Z06 ?_|refine Z07 ?_|refine Z08 ?_|refine Z09 ?_|refine Z10 ?_|refine Z11 ?_
        |refine Z12 ?_|refine Z13 ?_|refine Z14 ?_|refine Z15 ?_|refine Z16 ?_|refine Z17 ?_|refine Z18 ?_|refine Z20 ?_|refine Z21 ?_|refine Z22 ?_|refine Z23 ?_
        |refine Z24 ?_|refine Z25 ?_|refine Z26 ?_|refine Z27 ?_|refine Z28 ?_|refine Z29 ?_|refine Z30 ?_|refine Z31 ?_|refine Z32 ?_|refine Z36 ?_|refine Z37 ?_
        |refine Z38 ?_|refine Z42 ?_|refine Z44 ?_|refine Z45 ?_|refine Z58 ?_|refine Z59 ?_|refine Z67 ?_|refine Z70 ?_|refine Z71 ?_|refine Z74 ?_|refine Z80 ?_
        |refine Z82 fun _ => ?_)
      rw [← Sha.bytes_getD _ hi', mix_take hal (by simp; omega)]
      exact st_round (i + 1) (by omega) (by omega) (by repeat (first | apply subL.nil | refine subL.cons (by rfl) ?_)) (by repeat (first | apply SubW.nil | refine SubW.cons (by repeat (first | apply Find.here | apply Find.there)) ?_))
    · have h32 : i = 32 := by omega
      subst h32
      have hm : mixT (Sha.bytes (fold (Sha.pad b) (padLen b.length / 64))) (List.replicate 32 0) 32 = Sha.sum b := by
        rw [sum_def]; exact mixT_all hal
      rw [hm] at hml ⊢
      repeat (first
        |refine Z01 ?_|refine Z02 ?_|refine Z03 ?_|refine Z04 ?_|refine Z05 ?_|refine Z06 ?_|refine Z07 ?_|refine Z08 ?_|refine Z09 ?_|refine Z10 ?_|refine Z11 ?_
        |refine Z12 ?_|refine Z13 ?_|refine Z14 ?_|refine Z15 ?_|refine Z16 ?_|refine Z17 ?_|refine Z18 ?_|refine Z20 ?_|refine Z21 ?_|refine Z22 ?_|refine Z23 ?_
        |refine Z24 ?_|refine Z25 ?_|refine Z26 ?_|refine Z27 ?_|refine Z28 ?_|refine Z29 ?_|refine Z30 ?_|refine Z31 ?_|refine Z32 ?_|refine Z36 ?_|refine Z37 ?_
        |refine Z38 ?_|refine Z42 ?_|refine Z44 ?_|refine Z45 ?_|refine Z58 ?_|refine Z59 ?_|refine Z67 ?_|refine Z70 ?_|refine Z71 ?_|refine Z74 ?_|refine Z80 ?_
        |refine Z82 fun _ => ?_)
      refine Zec fun _ hw => post_of hw SubW.nil ⟨?_, rfl⟩
      rfl

set_option maxHeartbeats 1000000 in
theorem same_spec (s t : Value) (xs ys : List Nat) (hl : xs.length < 4294967296) :
    Spec Try.prog 20 [s, t] (fun w => Rd w s (xs.map (N .u8)) ∧ Rd w t (ys.map (N .u8))) [] (IsV (.bool (decide (xs = ys)))) := by
  refine mk_spec Try.func20 rfl rfl rfl fun w hr => ?_
  have hr1 := RdC.mk0 hr.1
  have hr2 := RdC.mk0 hr.2
  repeat (first
    |refine Z01 ?_|refine Z02 ?_|refine Z03 ?_|refine Z04 ?_|refine Z05 ?_|refine Z06 ?_|refine Z07 ?_|refine Z08 ?_|refine Z09 ?_|refine Z10 ?_|refine Z11 ?_
    |refine Z12 ?_|refine Z13 ?_|refine Z14 ?_|refine Z15 ?_|refine Z17 ?_|refine Z18 ?_|refine Z20 ?_|refine Z21 ?_|refine Z22 ?_|refine Z23 ?_|refine Z24 ?_
    |refine Z25 ?_|refine Z26 ?_|refine Z27 ?_|refine Z28 ?_|refine Z58 ?_|refine Z59 ?_|refine Z67 ?_|refine Z70 ?_)
  refine st_cond (by rfl) (fun h => ?_) (fun h => ?_)
  · repeat (first
      |refine Z01 ?_|refine Z02 ?_|refine Z03 ?_|refine Z04 ?_|refine Z05 ?_|refine Z06 ?_|refine Z07 ?_|refine Z08 ?_|refine Z09 ?_|refine Z10 ?_|refine Z11 ?_
      |refine Z12 ?_|refine Z13 ?_|refine Z14 ?_|refine Z15 ?_|refine Z17 ?_|refine Z18 ?_|refine Z20 ?_|refine Z21 ?_|refine Z22 ?_|refine Z23 ?_|refine Z24 ?_
      |refine Z25 ?_|refine Z26 ?_|refine Z27 ?_|refine Z28 ?_|refine Z58 ?_|refine Z59 ?_|refine Z67 ?_|refine Z70 ?_)
    refine Ze1 fun _ hw => post_of hw SubW.nil ⟨?_, rfl⟩
    have : xs ≠ ys := fun e => h (by rw [e])
    simp [this]
  · have h : xs.length = ys.length := by omega
    repeat (first
      |refine Z01 ?_|refine Z02 ?_|refine Z03 ?_|refine Z04 ?_|refine Z05 ?_|refine Z06 ?_|refine Z07 ?_|refine Z08 ?_|refine Z09 ?_|refine Z10 ?_|refine Z11 ?_
      |refine Z12 ?_|refine Z13 ?_|refine Z14 ?_|refine Z15 ?_|refine Z17 ?_|refine Z18 ?_|refine Z20 ?_|refine Z21 ?_|refine Z22 ?_|refine Z23 ?_|refine Z24 ?_
      |refine Z25 ?_|refine Z26 ?_|refine Z27 ?_|refine Z28 ?_|refine Z58 ?_|refine Z59 ?_|refine Z67 ?_|refine Z70 ?_)
    refine st_loop (ι := Nat) (fun i => i ≤ xs.length ∧ xs.take i = ys.take i) (fun i => [(0, s), (1, t), (5, N .i64 i)]) (fun i => []) (fun i => xs.length - i) 0 (by simp) (by repeat (first | apply subL.nil | refine subL.cons (by rfl) ?_)) (by repeat (first | apply SubW.nil | refine SubW.cons (by repeat (first | apply Find.here | apply Find.there)) ?_)) ?_
    rintro i ⟨hi, he⟩
    repeat (first
      |refine Z01 ?_|refine Z02 ?_|refine Z03 ?_|refine Z04 ?_|refine Z05 ?_|refine Z06 ?_|refine Z07 ?_|refine Z08 ?_|refine Z09 ?_|refine Z10 ?_|refine Z11 ?_
      |refine Z12 ?_|refine Z13 ?_|refine Z14 ?_|refine Z15 ?_|refine Z17 ?_|refine Z18 ?_|refine Z20 ?_|refine Z21 ?_|refine Z22 ?_|refine Z23 ?_|refine Z24 ?_
      |refine Z25 ?_|refine Z26 ?_|refine Z27 ?_|refine Z28 ?_|refine Z58 ?_|refine Z59 ?_|refine Z67 ?_|refine Z70 ?_)
    refine st_cond (by rfl) (fun hi' => ?_) (fun hi' => ?_)
    · repeat (first
        |refine Z01 ?_|refine Z02 ?_|refine Z03 ?_|refine Z04 ?_|refine Z05 ?_|refine Z06 ?_|refine Z07 ?_|refine Z08 ?_|refine Z09 ?_|refine Z10 ?_|refine Z11 ?_
        |refine Z12 ?_|refine Z13 ?_|refine Z14 ?_|refine Z15 ?_|refine Z17 ?_|refine Z18 ?_|refine Z20 ?_|refine Z21 ?_|refine Z22 ?_|refine Z23 ?_|refine Z24 ?_
        |refine Z25 ?_|refine Z26 ?_|refine Z27 ?_|refine Z28 ?_|refine Z58 ?_|refine Z59 ?_|refine Z67 ?_|refine Z70 ?_)
      refine st_draw1 (by rfl) ?_
      repeat (first
        |refine Zqf (by intro _ _ _;(first
          |refine Z01 ?_|refine Z02 ?_|refine Z15 ?_|refine Z17 ?_|refine Z18 ?_|refine Z20 ?_|refine Z21 ?_|refine Z22 ?_|refine Z23 ?_|refine Z58 ?_|refine Z59 ?_
          |refine Z70 ?_);exact Zq) ?_
        |refine Zqp (by intro _ _ _;(first
          |refine Z24 ?_|refine Z25 ?_|refine Z26 ?_|refine Z27 ?_|refine Z28 ?_|refine Z67 ?_|refine Z23 ?_|refine Z20 ?_|refine Z21 ?_);exact Zq) ?_
        |refine Zqn ?_)
      refine Zq0 ?_ (by kernel_rfl)
      repeat (first
        |refine Z01 ?_|refine Z02 ?_|refine Z03 ?_|refine Z04 ?_|refine Z05 ?_|refine Z06 ?_|refine Z07 ?_|refine Z08 ?_|refine Z09 ?_|refine Z10 ?_|refine Z11 ?_
        |refine Z12 ?_|refine Z13 ?_|refine Z14 ?_|refine Z15 ?_|refine Z17 ?_|refine Z18 ?_|refine Z20 ?_|refine Z21 ?_|refine Z22 ?_|refine Z23 ?_|refine Z24 ?_
        |refine Z25 ?_|refine Z26 ?_|refine Z27 ?_|refine Z28 ?_|refine Z58 ?_|refine Z59 ?_|refine Z67 ?_|refine Z70 ?_)
      refine st_cond (by rfl) (fun hd => ?_) (fun hd => ?_)
      · repeat (first
          |refine Z01 ?_|refine Z02 ?_|refine Z03 ?_|refine Z04 ?_|refine Z05 ?_|refine Z06 ?_|refine Z07 ?_|refine Z08 ?_|refine Z09 ?_|refine Z10 ?_|refine Z11 ?_
          |refine Z12 ?_|refine Z13 ?_|refine Z14 ?_|refine Z15 ?_|refine Z17 ?_|refine Z18 ?_|refine Z20 ?_|refine Z21 ?_|refine Z22 ?_|refine Z23 ?_|refine Z24 ?_
          |refine Z25 ?_|refine Z26 ?_|refine Z27 ?_|refine Z28 ?_|refine Z58 ?_|refine Z59 ?_|refine Z67 ?_|refine Z70 ?_)
        refine Ze1 fun _ hw => post_of hw SubW.nil ⟨?_, rfl⟩
        have : xs ≠ ys := fun e => hd (by rw [e])
        simp [this]
      · repeat (first
          |refine Z01 ?_|refine Z02 ?_|refine Z03 ?_|refine Z04 ?_|refine Z05 ?_|refine Z06 ?_|refine Z07 ?_|refine Z08 ?_|refine Z09 ?_|refine Z10 ?_|refine Z11 ?_
          |refine Z12 ?_|refine Z13 ?_|refine Z14 ?_|refine Z15 ?_|refine Z17 ?_|refine Z18 ?_|refine Z20 ?_|refine Z21 ?_|refine Z22 ?_|refine Z23 ?_|refine Z24 ?_
          |refine Z25 ?_|refine Z26 ?_|refine Z27 ?_|refine Z28 ?_|refine Z58 ?_|refine Z59 ?_|refine Z67 ?_|refine Z70 ?_)
        exact st_round (i + 1) ⟨by omega, take_next hi' (by omega) he (Decidable.not_not.mp hd)⟩ (by omega) (by repeat (first | apply subL.nil | refine subL.cons (by rfl) ?_)) (by repeat (first | apply SubW.nil | refine SubW.cons (by repeat (first | apply Find.here | apply Find.there)) ?_))
    · have : i = xs.length := by omega
      subst this
      repeat (first
        |refine Z01 ?_|refine Z02 ?_|refine Z03 ?_|refine Z04 ?_|refine Z05 ?_|refine Z06 ?_|refine Z07 ?_|refine Z08 ?_|refine Z09 ?_|refine Z10 ?_|refine Z11 ?_
        |refine Z12 ?_|refine Z13 ?_|refine Z14 ?_|refine Z15 ?_|refine Z17 ?_|refine Z18 ?_|refine Z20 ?_|refine Z21 ?_|refine Z22 ?_|refine Z23 ?_|refine Z24 ?_
        |refine Z25 ?_|refine Z26 ?_|refine Z27 ?_|refine Z28 ?_|refine Z58 ?_|refine Z59 ?_|refine Z67 ?_|refine Z70 ?_)
      refine Ze1 fun _ hw => post_of hw SubW.nil ⟨?_, rfl⟩
      rw [List.take_length, h, List.take_length] at he
      simp [he]
end Go.Proofs.Ytbjfjkmidhfgcaa.L
