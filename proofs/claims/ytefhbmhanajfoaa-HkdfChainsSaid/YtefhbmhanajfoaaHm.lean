/- The walks of the laws of keyed sums. Conditions: as each statement says. -/
import Derived.Test.YtefhbmhanajfoaaAuto
import Derived.Test.YtefhbmhanajfoaaPerm
import Derived.Test.YtefhbmhanajfoaaMore
import Derived.Test.YtefhbmhanajfoaaProg
import Derived.Test.YtefhbmhanajfoaaShaW
import Derived.Test.YtefhbmhanajfoaaShaX
import Derived.Test.YtefhbmhanajfoaaShaY
import Derived.Test.YtefhbmhanajfoaaShaZ
import Derived.Test.YtefhbmhanajfoaaShaP
import Derived.Test.YtefhbmhanajfoaaShaS
import Derived.Test.YtefhbmhanajfoaaShaT
import Derived.Test.YtefhbmhanajfoaaShaU
import Derived.Test.YtefhbmhanajfoaaHk
import Derived.Test.YtefhbmhanajfoaaHl
import Derived.Test.YtefhbmhanajfoaaHkE
namespace Go.Proofs.Ytefhbmhanajfoaa.L
open Go Go.Proofs
attribute [local irreducible] Code.wp wpList Af bodyPost L.Go
open Sha
attribute [local simp] sum_len mac_len

def kKey : List Nat := [107, 101, 121]
def kFox : List Nat := [84, 104, 101, 32, 113, 117, 105, 99, 107, 32, 98, 114, 111, 119, 110, 32, 102, 111, 120, 32, 106, 117, 109, 112, 115, 32, 111, 118, 101, 114, 32, 116, 104, 101, 32, 108, 97, 122, 121, 32, 100, 111, 103]
theorem kKey_lt : Lt 256 kKey := by unfold Lt kKey; decide
theorem kFox_lt : Lt 256 kFox := by unfold Lt kFox; decide
theorem nil_lt (m : Nat) : Lt m [] := by intro x hx; cases hx

set_option maxHeartbeats 2000000 in
theorem awake2_spec : Spec Try.prog 30 [] NoPre [] (IsV (.bool true)) := by
  refine mk_spec Try.func30 rfl rfl rfl fun w hr => ?_
  have e0 : decide ((mac [] []).getD 0 0 = 182) = true := decide_eq_true mac_n0
  have e1 : decide ((mac [] []).getD 1 0 = 19) = true := decide_eq_true mac_n1
  have e2 : decide ((mac kKey kFox).getD 0 0 = 247) = true := decide_eq_true mac_k0
  have e3 : decide ((mac kKey kFox).getD 1 0 = 188) = true := decide_eq_true mac_k1
  have hxl := expand_len [] [] 3
  repeat (first
    |(rw [e0])|(rw [e1])|(rw [e2])|(rw [e3])|(rw [hxl])
    |(refine st_callV (by rfl) (by rfl) (by rfl) (mac_spec (.slice none 0 0) (.slice none 0 0) [] [] (nil_lt _) (nil_lt _) (by simp) (by simp)) (fun w hw => ⟨RdW.nil w hw, RdW.nil w hw⟩) (by rfl) ?_)
    |(refine st_callV (by rfl) (by rfl) (by rfl) (mac_spec _ _ kKey kFox kKey_lt kFox_lt (by simp [kKey]) (by simp [kFox])) (fun w hw => ⟨RdW.own (by repeat (first | apply Find.here | apply Find.there)) w hw, RdW.own (by repeat (first | apply Find.here | apply Find.there)) w hw⟩) (by rfl) ?_)
    |(refine st_buildSliceN (vs := kKey) (kk := .u8) (by rfl) (by rfl) (by rfl) (by rfl) (by rfl) (by rfl) (by rfl) (by rfl) fun _ => ?_)
    |(refine st_buildSliceN (vs := kFox) (kk := .u8) (by rfl) (by rfl) (by rfl) (by rfl) (by rfl) (by rfl) (by rfl) (by rfl) fun _ => ?_)
    |(refine st_conv_sl (xs := kKey.map (N .u8)) (by rfl) (by repeat (first | apply Find.here | apply Find.there)) (by simp [kKey]) (by rfl) (by rfl) (by rfl) ?_)
    |(refine st_conv_sl (xs := kFox.map (N .u8)) (by rfl) (by repeat (first | apply Find.here | apply Find.there)) (by simp [kFox]) (by rfl) (by rfl) (by rfl) ?_)
    |(refine st_alloc (v := LV .u8 (List.replicate 32 0)) (by rfl) (by rfl) fun _ => ?_)
    |((refine st_call (by rfl) (by rfl) (by rfl) (expand_ok (.slice none 0 0) (.slice none 0 0) [] [] 3 (nil_lt _) (nil_lt _) (by simp) (by simp) (by decide)) .nil (fun w hw => ⟨RdW.nil w hw, RdW.nil w hw⟩) (by rfl) ?_; rintro _ _ ⟨x, rfl, rfl⟩))
    |(refine st_callV (by rfl) (by rfl) (by rfl) (expand_bad (.slice none 0 0) (.slice none 0 0) (Int.ofNat 8161) (by decide)) (fun _ _ => trivial) (by rfl) ?_)
    |refine Z01 ?_|refine Z02 ?_|refine Z03 ?_|refine Z04 ?_|refine Z05 ?_|refine Z06 ?_|refine Z07 ?_|refine Z08 ?_|refine Z09 ?_|refine Z10 ?_|refine Z11 ?_
    |refine Z12 ?_|refine Z13 ?_|refine Z14 ?_|refine Z17 ?_|refine Z18 ?_|refine Z19 ?_|refine Z20 ?_|refine Z21 ?_|refine Z22 ?_|refine Z23 ?_|refine Z24 ?_
    |refine Z25 ?_|refine Z26 ?_|refine Z27 ?_|refine Z28 ?_|refine Z29 ?_|refine Z30 ?_|refine Z31 ?_|refine Z32 ?_|refine Z44 ?_|refine Z45 ?_|refine Z49 ?_
    |refine Z50 ?_|refine Z51 ?_|refine Z52 ?_|refine Z53 ?_|refine Z58 ?_|refine Z59 ?_|refine Z67 ?_|refine Z74 ?_|refine Z80 ?_|refine Z82 fun _ => ?_
    |refine Z85 fun _ => ?_)
  refine Ze1 fun _ hw => post_of hw SubW.nil ⟨?_, rfl⟩
  rfl

theorem lawNames2_spec : Spec Try.prog 8 [] NoPre [] (IsV (.bool true)) := by
  refine mk_spec Try.func8 rfl rfl rfl fun w hr => ?_
  repeat (first
    |(refine st_callV (by rfl) (by rfl) (by rfl) awake2_spec (fun _ _ => trivial) (by rfl) ?_)|refine Z01 ?_|refine Z02 ?_|refine Z03 ?_|refine Z04 ?_|refine Z05 ?_
    |refine Z06 ?_|refine Z07 ?_|refine Z08 ?_|refine Z09 ?_|refine Z10 ?_|refine Z11 ?_|refine Z12 ?_|refine Z13 ?_|refine Z14 ?_|refine Z49 ?_|refine Z50 ?_
    |refine Z51 ?_|refine Z52 ?_|refine Z53 ?_)
  refine Ze1 fun _ hw => post_of hw SubW.nil ⟨?_, rfl⟩
  rfl

theorem few2_spec (s t : Value) (a b : List Nat) (h1 : a.length < 9223372036854775808) (h2 : b.length < 9223372036854775808) :
    Spec Try.prog 31 [s, t] (fun w => Rd w s (a.map (N .u8)) ∧ Rd w t (b.map (N .u8))) [] (IsV (.bool (decide (a.length ≤ 500 ∧ b.length ≤ 500)))) := by
  refine mk_spec Try.func31 rfl rfl rfl fun w hr => ?_
  have hr1 := RdC.mk0 hr.1
  have hr2 := RdC.mk0 hr.2
  by_cases ha : a.length ≤ 500
  · by_cases hb : b.length ≤ 500
    · repeat (first
        |(refine st_cmp (r := true) (by rfl) (by rfl) (cmpN_t (by first | (simp only [cmpP]; done) | (simp only [cmpP]; omega))) (by rfl) ?_)|refine Z01 ?_|refine Z02 ?_
        |refine Z03 ?_|refine Z04 ?_|refine Z05 ?_|refine Z06 ?_|refine Z07 ?_|refine Z08 ?_|refine Z09 ?_|refine Z10 ?_|refine Z11 ?_|refine Z12 ?_|refine Z13 ?_
        |refine Z14 ?_|refine Z17 ?_|refine Z18 ?_|refine Z20 ?_|refine Z21 ?_|refine Z49 ?_|refine Z50 ?_|refine Z51 ?_|refine Z52 ?_|refine Z53 ?_|refine Z58 ?_
        |refine Z59 ?_)
      refine Ze1 fun _ hw => post_of hw SubW.nil ⟨?_, rfl⟩
      rw [decide_eq_true ⟨ha, hb⟩]
    · repeat (first
        |(refine st_cmp (r := true) (by rfl) (by rfl) (cmpN_t (by first | (simp only [cmpP]; done) | (simp only [cmpP]; omega))) (by rfl) ?_)
        |(refine st_cmp (r := false) (by rfl) (by rfl) (cmpN_f (by first | (simp only [cmpQ]; done) | (simp only [cmpQ]; omega))) (by rfl) ?_)|refine Z01 ?_|refine Z02 ?_
        |refine Z03 ?_|refine Z04 ?_|refine Z05 ?_|refine Z06 ?_|refine Z07 ?_|refine Z08 ?_|refine Z09 ?_|refine Z10 ?_|refine Z11 ?_|refine Z12 ?_|refine Z13 ?_
        |refine Z14 ?_|refine Z17 ?_|refine Z18 ?_|refine Z20 ?_|refine Z21 ?_|refine Z49 ?_|refine Z50 ?_|refine Z51 ?_|refine Z52 ?_|refine Z53 ?_|refine Z58 ?_
        |refine Z59 ?_)
      refine Ze1 fun _ hw => post_of hw SubW.nil ⟨?_, rfl⟩
      rw [decide_eq_false (fun h => hb h.2)]
  · repeat (first
      |(refine st_cmp (r := false) (by rfl) (by rfl) (cmpN_f (by first | (simp only [cmpQ]; done) | (simp only [cmpQ]; omega))) (by rfl) ?_)|refine Z01 ?_|refine Z02 ?_
      |refine Z03 ?_|refine Z04 ?_|refine Z05 ?_|refine Z06 ?_|refine Z07 ?_|refine Z08 ?_|refine Z09 ?_|refine Z10 ?_|refine Z11 ?_|refine Z12 ?_|refine Z13 ?_
      |refine Z14 ?_|refine Z17 ?_|refine Z18 ?_|refine Z20 ?_|refine Z21 ?_|refine Z49 ?_|refine Z50 ?_|refine Z51 ?_|refine Z52 ?_|refine Z53 ?_|refine Z58 ?_
      |refine Z59 ?_)
    refine Ze1 fun _ hw => post_of hw SubW.nil ⟨?_, rfl⟩
    rw [decide_eq_false (fun h => ha h.1)]

theorem mod_m_pos (m : Int) : 0 ≤ m ∨ ∃ k : Nat, -(m + 1) = Int.ofNat k := by
  by_cases h : 0 ≤ m
  · exact .inl h
  · exact .inr ⟨(-(m + 1)).toNat, by show -(m + 1) = (((-(m + 1)).toNat : Nat) : Int); omega⟩

set_option maxHeartbeats 2000000 in
theorem lawTells2_spec (s1 : Value) (key : List Nat) (hkey : Lt 256 key) (k63 : key.length < 9223372036854775808) (s2 : Value) (b : List Nat) (hb : Lt 256 b) (b63 : b.length < 9223372036854775808) (n : Int) (_ : -9223372036854775808 ≤ n ∧ n < 9223372036854775808) :
    Spec Try.prog 12 [s1, s2, .int .i64 n] (fun w => Rd w s1 (key.map (N .u8)) ∧ Rd w s2 (b.map (N .u8))) [] (IsV (.bool true)) := by
  refine mk_spec Try.func12 rfl rfl rfl fun w hr => ?_
  have hr1 := RdC.mk0 hr.1
  have hr2 := RdC.mk0 hr.2
  repeat (first
    |(refine st_callV (by rfl) (by rfl) (by rfl) awake2_spec (fun _ _ => trivial) (by rfl) ?_)
    |(refine st_callV (by rfl) (by rfl) (by rfl) (few2_spec s1 s2 key b k63 b63) (fun w hw => ⟨RdW.old hr1 w hw, RdW.old hr2 w hw⟩) (by rfl) ?_)|refine Z01 ?_
    |refine Z02 ?_|refine Z03 ?_|refine Z04 ?_|refine Z05 ?_|refine Z06 ?_|refine Z07 ?_|refine Z08 ?_|refine Z09 ?_|refine Z10 ?_|refine Z11 ?_|refine Z12 ?_
    |refine Z13 ?_|refine Z14 ?_|refine Z17 ?_|refine Z18 ?_|refine Z19 ?_|refine Z49 ?_|refine Z50 ?_|refine Z51 ?_|refine Z52 ?_|refine Z53 ?_|refine Z54 ?_
    |refine Z77 ?_|refine Z78 ?_|refine Z79 ?_)
  by_cases hfew : key.length ≤ 500 ∧ b.length ≤ 500
  case neg =>
    rw [decide_eq_false hfew]
    repeat (first
      |refine Z01 ?_|refine Z02 ?_|refine Z03 ?_|refine Z04 ?_|refine Z05 ?_|refine Z06 ?_|refine Z07 ?_|refine Z08 ?_|refine Z09 ?_|refine Z10 ?_|refine Z11 ?_
      |refine Z12 ?_|refine Z13 ?_|refine Z14 ?_|refine Z17 ?_|refine Z18 ?_|refine Z19 ?_|refine Z49 ?_|refine Z50 ?_|refine Z51 ?_|refine Z52 ?_|refine Z53 ?_
      |refine Z54 ?_|refine Z77 ?_|refine Z78 ?_|refine Z79 ?_)
    refine Ze1 fun _ hw => post_of hw SubW.nil ⟨?_, rfl⟩
    rfl
  rw [decide_eq_true hfew]
  have hk5 := hfew.1
  have hb5 := hfew.2
  by_cases hn : n < 0 ∨ 8160 < n
  · repeat (first
      |(rw [decide_eq_true rfl])|(refine st_callV (by rfl) (by rfl) (by rfl) (expand_bad s1 s2 n hn) (fun _ _ => trivial) (by rfl) ?_)
      |(refine st_callV (by rfl) (by rfl) (by rfl) (rexpand_bad s1 s2 n hn) (fun _ _ => trivial) (by rfl) ?_)
      |(refine st_callV (by rfl) (by rfl) (by rfl) (same_spec (.slice none 0 0) (.slice none 0 0) [] [] (by decide)) (fun w hw => ⟨RdW.nil w hw, RdW.nil w hw⟩) (by rfl) ?_)
      |(refine st_callV (by rfl) (by rfl) (by rfl) (mac_spec s1 s2 key b hkey hb (by omega) (by omega)) (fun w hw => ⟨RdW.old hr1 w hw, RdW.old hr2 w hw⟩) (by rfl) ?_)
      |(refine st_callV (by rfl) (by rfl) (by rfl) (rmac_spec s1 s2 key b hkey hb (by omega) (by omega)) (fun w hw => ⟨RdW.old hr1 w hw, RdW.old hr2 w hw⟩) (by rfl) ?_)
      |(refine st_callV (by rfl) (by rfl) (by rfl) (extract_spec s1 s2 key b hkey hb (by omega) (by omega)) (fun w hw => ⟨RdW.old hr1 w hw, RdW.old hr2 w hw⟩) (by rfl) ?_)
      |refine Z01 ?_|refine Z02 ?_|refine Z03 ?_|refine Z04 ?_|refine Z05 ?_|refine Z06 ?_|refine Z07 ?_|refine Z08 ?_|refine Z09 ?_|refine Z10 ?_|refine Z11 ?_
      |refine Z12 ?_|refine Z13 ?_|refine Z14 ?_|refine Z17 ?_|refine Z18 ?_|refine Z19 ?_|refine Z49 ?_|refine Z50 ?_|refine Z51 ?_|refine Z52 ?_|refine Z53 ?_
      |refine Z54 ?_|refine Z77 ?_|refine Z78 ?_|refine Z79 ?_)
    refine Ze1 fun _ hw => post_of hw SubW.nil ⟨?_, rfl⟩
    rfl
  · obtain ⟨m, rfl⟩ : ∃ m : Nat, n = Int.ofNat m := ⟨n.toNat, by show n = ((n.toNat : Nat) : Int); omega⟩
    have hm : m ≤ 8160 := by simp only [Int.ofNat_eq_natCast] at hn; omega
    have hxl := expand_len key b m
    repeat (first
      |(rw [decide_eq_true rfl])
      |((refine st_call (by rfl) (by rfl) (by rfl) (expand_ok s1 s2 key b m hkey hb (by omega) (by omega) hm) .nil (fun w hw => ⟨RdW.old hr1 w hw, RdW.old hr2 w hw⟩) (by rfl) ?_; rintro _ _ ⟨x, rfl, rfl⟩))
      |((refine st_call (by rfl) (by rfl) (by rfl) (rexpand_ok s1 s2 key b m hkey hb (by omega) (by omega) hm) .nil (fun w hw => ⟨RdW.old hr1 w hw, RdW.old hr2 w hw⟩) (by rfl) ?_; rintro _ _ ⟨y, rfl, rfl⟩))
      |(refine st_callV (by rfl) (by rfl) (by rfl) (same_spec x y (expand key b m) (expand key b m) (by omega)) (fun w hw => ⟨RdW.own (by repeat (first | apply Find.here | apply Find.there)) w hw, RdW.own (by repeat (first | apply Find.here | apply Find.there)) w hw⟩) (by rfl) ?_)
      |(refine st_callV (by rfl) (by rfl) (by rfl) (mac_spec s1 s2 key b hkey hb (by omega) (by omega)) (fun w hw => ⟨RdW.old hr1 w hw, RdW.old hr2 w hw⟩) (by rfl) ?_)
      |(refine st_callV (by rfl) (by rfl) (by rfl) (rmac_spec s1 s2 key b hkey hb (by omega) (by omega)) (fun w hw => ⟨RdW.old hr1 w hw, RdW.old hr2 w hw⟩) (by rfl) ?_)
      |(refine st_callV (by rfl) (by rfl) (by rfl) (extract_spec s1 s2 key b hkey hb (by omega) (by omega)) (fun w hw => ⟨RdW.old hr1 w hw, RdW.old hr2 w hw⟩) (by rfl) ?_)
      |refine Z01 ?_|refine Z02 ?_|refine Z03 ?_|refine Z04 ?_|refine Z05 ?_|refine Z06 ?_|refine Z07 ?_|refine Z08 ?_|refine Z09 ?_|refine Z10 ?_|refine Z11 ?_
      |refine Z12 ?_|refine Z13 ?_|refine Z14 ?_|refine Z17 ?_|refine Z18 ?_|refine Z19 ?_|refine Z49 ?_|refine Z50 ?_|refine Z51 ?_|refine Z52 ?_|refine Z53 ?_
      |refine Z54 ?_|refine Z77 ?_|refine Z78 ?_|refine Z79 ?_)
    refine Ze1 fun _ hw => post_of hw SubW.nil ⟨?_, rfl⟩
    rfl

theorem hblk_sum {key : List Nat} (h : 64 < key.length) : hblk (Sha.sum key) = hblk key := by
  rw [hblk_def, hblk_def, bkey_big h, bkey_small (by rw [sum_len]; decide)]
theorem hblk_zeros {key : List Nat} (h : ¬ 64 < key.length) (z : Nat) (hz : key.length + z ≤ 64) : hblk (key ++ List.replicate z 0) = hblk key := by
  rw [hblk_def, hblk_def, bkey_small h, bkey_small (by simp; omega), List.append_assoc, List.replicate_append_replicate]
  congr 2
  simp; omega
theorem mac_key {k k' : List Nat} (b : List Nat) (h : hblk k = hblk k') : mac k b = mac k' b := by rw [mac_def, mac_def, h]

set_option maxHeartbeats 2000000 in
theorem lawKeys2_spec (s1 : Value) (key : List Nat) (hkey : Lt 256 key) (k63 : key.length < 9223372036854775808) (s2 : Value) (b : List Nat) (hb : Lt 256 b) (b63 : b.length < 9223372036854775808) (n : Int) (hn : -9223372036854775808 ≤ n ∧ n < 9223372036854775808) :
    Spec Try.prog 9 [s1, s2, .int .i64 n] (fun w => Rd w s1 (key.map (N .u8)) ∧ Rd w s2 (b.map (N .u8))) [] (IsV (.bool true)) := by
  refine mk_spec Try.func9 rfl rfl rfl fun w hr => ?_
  have hr1 := RdC.mk0 hr.1
  have hr2 := RdC.mk0 hr.2
  repeat (first
    |(refine st_callV (by rfl) (by rfl) (by rfl) awake2_spec (fun _ _ => trivial) (by rfl) ?_)
    |(refine st_callV (by rfl) (by rfl) (by rfl) (few2_spec s1 s2 key b k63 b63) (fun w hw => ⟨RdW.old hr1 w hw, RdW.old hr2 w hw⟩) (by rfl) ?_)|refine Z01 ?_
    |refine Z02 ?_|refine Z03 ?_|refine Z04 ?_|refine Z05 ?_|refine Z06 ?_|refine Z07 ?_|refine Z08 ?_|refine Z09 ?_|refine Z10 ?_|refine Z11 ?_|refine Z12 ?_
    |refine Z13 ?_|refine Z14 ?_|refine Z15 ?_|refine Z16 ?_|refine Z17 ?_|refine Z18 ?_|refine Z20 ?_|refine Z21 ?_|refine Z24 ?_|refine Z25 ?_|refine Z26 ?_
    |refine Z27 ?_|refine Z28 ?_|refine Z29 ?_|refine Z30 ?_|refine Z31 ?_|refine Z32 ?_|refine Z38 ?_|refine Z49 ?_|refine Z50 ?_|refine Z51 ?_|refine Z52 ?_
    |refine Z53 ?_|refine Z54 ?_|refine Z58 ?_|refine Z59 ?_|refine Z62 ?_|refine Z63 ?_|refine Z64 ?_|refine Z67 ?_|refine Z70 ?_|refine Z71 ?_|refine Z72 ?_
    |refine Z73 ?_|refine Z77 ?_|refine Z78 ?_|refine Z79 ?_|refine Z82 fun _ => ?_|refine Z84 fun _ => ?_|refine Z85 fun _ => ?_)
  by_cases hfew : key.length ≤ 500 ∧ b.length ≤ 500
  case neg =>
    rw [decide_eq_false hfew]
    repeat (first
      |refine Z01 ?_|refine Z02 ?_|refine Z03 ?_|refine Z04 ?_|refine Z05 ?_|refine Z06 ?_|refine Z07 ?_|refine Z08 ?_|refine Z09 ?_|refine Z10 ?_|refine Z11 ?_
      |refine Z12 ?_|refine Z13 ?_|refine Z14 ?_|refine Z15 ?_|refine Z16 ?_|refine Z17 ?_|refine Z18 ?_|refine Z20 ?_|refine Z21 ?_|refine Z24 ?_|refine Z25 ?_
      |refine Z26 ?_|refine Z27 ?_|refine Z28 ?_|refine Z29 ?_|refine Z30 ?_|refine Z31 ?_|refine Z32 ?_|refine Z38 ?_|refine Z49 ?_|refine Z50 ?_|refine Z51 ?_
      |refine Z52 ?_|refine Z53 ?_|refine Z54 ?_|refine Z58 ?_|refine Z59 ?_|refine Z62 ?_|refine Z63 ?_|refine Z64 ?_|refine Z67 ?_|refine Z70 ?_|refine Z71 ?_
      |refine Z72 ?_|refine Z73 ?_|refine Z77 ?_|refine Z78 ?_|refine Z79 ?_|refine Z82 fun _ => ?_|refine Z84 fun _ => ?_|refine Z85 fun _ => ?_)
    refine Ze1 fun _ hw => post_of hw SubW.nil ⟨?_, rfl⟩
    rfl
  rw [decide_eq_true hfew]
  have hk5 := hfew.1
  have hb5 := hfew.2
  repeat (first
    |(refine st_callV (by rfl) (by rfl) (by rfl) (mac_spec s1 s2 key b hkey hb (by omega) (by omega)) (fun w hw => ⟨RdW.old hr1 w hw, RdW.old hr2 w hw⟩) (by rfl) ?_)
    |(refine st_alloc (v := LV .u8 (List.replicate 32 0)) (by rfl) (by rfl) fun _ => ?_)|refine Z01 ?_|refine Z02 ?_|refine Z03 ?_|refine Z04 ?_|refine Z05 ?_
    |refine Z06 ?_|refine Z07 ?_|refine Z08 ?_|refine Z09 ?_|refine Z10 ?_|refine Z11 ?_|refine Z12 ?_|refine Z13 ?_|refine Z14 ?_|refine Z15 ?_|refine Z16 ?_
    |refine Z17 ?_|refine Z18 ?_|refine Z20 ?_|refine Z21 ?_|refine Z24 ?_|refine Z25 ?_|refine Z26 ?_|refine Z27 ?_|refine Z28 ?_|refine Z29 ?_|refine Z30 ?_
    |refine Z31 ?_|refine Z32 ?_|refine Z38 ?_|refine Z49 ?_|refine Z50 ?_|refine Z51 ?_|refine Z52 ?_|refine Z53 ?_|refine Z54 ?_|refine Z58 ?_|refine Z59 ?_
    |refine Z62 ?_|refine Z63 ?_|refine Z64 ?_|refine Z67 ?_|refine Z70 ?_|refine Z71 ?_|refine Z72 ?_|refine Z73 ?_|refine Z77 ?_|refine Z78 ?_|refine Z79 ?_
    |refine Z82 fun _ => ?_|refine Z84 fun _ => ?_|refine Z85 fun _ => ?_)
  refine st_cond (by rfl) (fun h => ?_) (fun h => ?_)
  · have hsl := sum_len key
    have hs := mac_key b (hblk_sum h)
    repeat (first
      |(refine st_callV (by rfl) (by rfl) (by rfl) (sum_spec s1 key hkey (by omega)) (RdW.old hr1) (by rfl) ?_)
      |(refine st_alloc (v := LV .u8 (List.replicate 32 0)) (by rfl) (by rfl) fun _ => ?_)|refine Z01 ?_|refine Z02 ?_|refine Z03 ?_|refine Z04 ?_|refine Z05 ?_
      |refine Z06 ?_|refine Z07 ?_|refine Z08 ?_|refine Z09 ?_|refine Z10 ?_|refine Z11 ?_|refine Z12 ?_|refine Z13 ?_|refine Z14 ?_|refine Z15 ?_|refine Z16 ?_
      |refine Z17 ?_|refine Z18 ?_|refine Z20 ?_|refine Z21 ?_|refine Z24 ?_|refine Z25 ?_|refine Z26 ?_|refine Z27 ?_|refine Z28 ?_|refine Z29 ?_|refine Z30 ?_
      |refine Z31 ?_|refine Z32 ?_|refine Z38 ?_|refine Z49 ?_|refine Z50 ?_|refine Z51 ?_|refine Z52 ?_|refine Z53 ?_|refine Z54 ?_|refine Z58 ?_|refine Z59 ?_
      |refine Z62 ?_|refine Z63 ?_|refine Z64 ?_|refine Z67 ?_|refine Z70 ?_|refine Z71 ?_|refine Z72 ?_|refine Z73 ?_|refine Z77 ?_|refine Z78 ?_|refine Z79 ?_
      |refine Z82 fun _ => ?_|refine Z84 fun _ => ?_|refine Z85 fun _ => ?_)
    refine st_draw1 (by rfl) ?_
    repeat (first
      |refine Zqf (by intro _ _ _;(first
        |refine Z01 ?_|refine Z02 ?_|refine Z15 ?_|refine Z16 ?_|refine Z17 ?_|refine Z18 ?_|refine Z20 ?_|refine Z21 ?_|refine Z38 ?_|refine Z49 ?_|refine Z50 ?_
        |refine Z54 ?_|refine Z58 ?_|refine Z59 ?_|refine Z62 ?_|refine Z63 ?_|refine Z64 ?_|refine Z70 ?_|refine Z71 ?_|refine Z72 ?_|refine Z73 ?_|refine Z77 ?_
        |refine Z78 ?_|refine Z79 ?_);exact Zq) ?_
      |refine Zqp (by intro _ _ _;(first
        |refine Z24 ?_|refine Z25 ?_|refine Z26 ?_|refine Z27 ?_|refine Z28 ?_|refine Z67 ?_|refine Z20 ?_|refine Z21 ?_|refine Z62 ?_);exact Zq) ?_
      |refine Zqe (by intro _ _ _;(first
        |refine Z29 ?_|refine Z30 ?_|refine Z31 ?_|refine Z32 ?_);exact Zqq) ?_
      |refine Zqp (by intro _ _ _;refine st_callV (by rfl) (by rfl) (by rfl) (mac_spec _ s2 (Sha.sum key) b (sum_lt _) hb (by omega) (by omega)) (fun w hw => ⟨RdW.arrAll (m := 32) (by repeat (first | apply Find.here | apply Find.there)) hsl w hw, RdW.old (RdC.shift hr2 (by assumption)) w hw⟩) (by rfl) ?_;exact Zq) ?_
      |refine Zqn ?_)
    refine Zq0 ?_ (by kernel_rfl)
    repeat (first
      |refine Z01 ?_|refine Z02 ?_|refine Z03 ?_|refine Z04 ?_|refine Z05 ?_|refine Z06 ?_|refine Z07 ?_|refine Z08 ?_|refine Z09 ?_|refine Z10 ?_|refine Z11 ?_
      |refine Z12 ?_|refine Z13 ?_|refine Z14 ?_|refine Z15 ?_|refine Z16 ?_|refine Z17 ?_|refine Z18 ?_|refine Z20 ?_|refine Z21 ?_|refine Z24 ?_|refine Z25 ?_
      |refine Z26 ?_|refine Z27 ?_|refine Z28 ?_|refine Z29 ?_|refine Z30 ?_|refine Z31 ?_|refine Z32 ?_|refine Z38 ?_|refine Z49 ?_|refine Z50 ?_|refine Z51 ?_
      |refine Z52 ?_|refine Z53 ?_|refine Z54 ?_|refine Z58 ?_|refine Z59 ?_|refine Z62 ?_|refine Z63 ?_|refine Z64 ?_|refine Z67 ?_|refine Z70 ?_|refine Z71 ?_
      |refine Z72 ?_|refine Z73 ?_|refine Z77 ?_|refine Z78 ?_|refine Z79 ?_|refine Z82 fun _ => ?_|refine Z84 fun _ => ?_|refine Z85 fun _ => ?_)
    refine Ze1 fun _ hw => post_of hw SubW.nil ⟨?_, rfl⟩
    rw [decide_eq_true hs]
  · rcases mod_m_pos n with h0 | ⟨m, hm⟩
    · obtain ⟨m, rfl⟩ : ∃ m : Nat, n = Int.ofNat m := ⟨n.toNat, by show n = ((n.toNat : Nat) : Int); omega⟩
      repeat (first
        |(refine st_cmp (r := false) (by rfl) (by rfl) (cmpN_f (by first | (simp only [cmpQ]; done) | (simp only [cmpQ]; omega))) (by rfl) ?_)|refine Z01 ?_|refine Z02 ?_
        |refine Z03 ?_|refine Z04 ?_|refine Z05 ?_|refine Z06 ?_|refine Z07 ?_|refine Z08 ?_|refine Z09 ?_|refine Z10 ?_|refine Z11 ?_|refine Z12 ?_|refine Z13 ?_
        |refine Z14 ?_|refine Z15 ?_|refine Z16 ?_|refine Z17 ?_|refine Z18 ?_|refine Z20 ?_|refine Z21 ?_|refine Z24 ?_|refine Z25 ?_|refine Z26 ?_|refine Z27 ?_
        |refine Z28 ?_|refine Z29 ?_|refine Z30 ?_|refine Z31 ?_|refine Z32 ?_|refine Z38 ?_|refine Z49 ?_|refine Z50 ?_|refine Z51 ?_|refine Z52 ?_|refine Z53 ?_
        |refine Z54 ?_|refine Z58 ?_|refine Z59 ?_|refine Z62 ?_|refine Z63 ?_|refine Z64 ?_|refine Z67 ?_|refine Z70 ?_|refine Z71 ?_|refine Z72 ?_|refine Z73 ?_
        |refine Z77 ?_|refine Z78 ?_|refine Z79 ?_|refine Z82 fun _ => ?_|refine Z84 fun _ => ?_|refine Z85 fun _ => ?_)
      have hmod : m % (65 - key.length) < 65 - key.length := Nat.mod_lt _ (by omega)
      have hz := hblk_zeros h (m % (65 - key.length)) (by omega)
      have hlt : Lt 256 (key ++ List.replicate (m % (65 - key.length)) 0) := Lt.app hkey (fun x hx => by rw [List.eq_of_mem_replicate hx]; decide)
      have hll : (key ++ List.replicate (m % (65 - key.length)) 0).length < 1073741824 := by simp; omega
      refine st_perm [3, 4, 5, 6, 7, 1, 0, 2, 8, 9] (by rfl) ?_
      repeat (first
        |refine Zpf (by rfl)
          (by intro _ _ _;(first
          |refine Z01 ?_|refine Z02 ?_|refine Z15 ?_|refine Z16 ?_|refine Z17 ?_|refine Z18 ?_|refine Z20 ?_|refine Z21 ?_|refine Z38 ?_|refine Z49 ?_|refine Z50 ?_
          |refine Z54 ?_|refine Z58 ?_|refine Z59 ?_|refine Z62 ?_|refine Z63 ?_|refine Z64 ?_|refine Z70 ?_|refine Z71 ?_|refine Z72 ?_|refine Z73 ?_|refine Z77 ?_
          |refine Z78 ?_|refine Z79 ?_|(refine st_imod (b0 := 65 - key.length) (by rfl) (by rfl) (by omega) (by rfl) ?_));exact Zq) ?_
        |refine Zpp (by rfl)
          (by intro _ _ _;(first
          |refine Z24 ?_|refine Z25 ?_|refine Z26 ?_|refine Z27 ?_|refine Z28 ?_|refine Z67 ?_|refine Z20 ?_|refine Z21 ?_|refine Z62 ?_);exact Zq) ?_
        |refine Zpp (by rfl)
          (by intro _ _ _;(refine st_lenN (by rfl) (by rfl) (RdW.old (RdC.shift hr1 (by assumption))) (by rfl) ?_);exact Zq) ?_
        |refine Zps (by rfl)
          (by intro _ _ _;(first
          |refine Z29 ?_|refine Z30 ?_|refine Z31 ?_|refine Z32 ?_);exact Zqq) ?_
        |refine Zpn (by rfl)
          (by intro _ _ _;(first
          |refine Z82 fun _ => ?_|refine Z84 fun _ => ?_|refine Z85 fun _ => ?_);exact Zpx) fun _ => ?_
        |refine Zpn (by rfl)
          (by intro _ _ _;(refine st_appendN (xs := []) (ys := key) (kk := .u8) (by rfl) (by rfl) (by repeat (first | apply Find.here | apply Find.there)) (RdW.old (RdC.shift hr1 (by assumption))) (by rfl) (by rfl) (by rfl) (by rfl) (by simp; omega) (by simp; omega) (by rfl) fun _ => ?_);exact Zpx) fun _ => ?_
        |refine Zpn (by rfl)
          (by intro _ _ _;(refine st_append_madeN (xs := [] ++ key) (k := m % (65 - key.length)) (kk := .u8) (by rfl) (by rfl) (by repeat (first | apply Find.here | apply Find.there)) (by rfl) (by rfl) (by rfl) (by rfl) (by rfl) (by simp; omega) (by simp; omega) (by rfl) fun _ => ?_);exact Zpx) fun _ => ?_
        |refine Zpo (by rfl) ?_)
      refine Zp0 ?_
      rw [List.nil_append]
      repeat (first
        |refine Z01 ?_|refine Z02 ?_|refine Z03 ?_|refine Z04 ?_|refine Z05 ?_|refine Z06 ?_|refine Z07 ?_|refine Z08 ?_|refine Z09 ?_|refine Z10 ?_|refine Z11 ?_
        |refine Z12 ?_|refine Z13 ?_|refine Z14 ?_|refine Z15 ?_|refine Z16 ?_|refine Z17 ?_|refine Z18 ?_|refine Z20 ?_|refine Z21 ?_|refine Z24 ?_|refine Z25 ?_
        |refine Z26 ?_|refine Z27 ?_|refine Z28 ?_|refine Z29 ?_|refine Z30 ?_|refine Z31 ?_|refine Z32 ?_|refine Z38 ?_|refine Z49 ?_|refine Z50 ?_|refine Z51 ?_
        |refine Z52 ?_|refine Z53 ?_|refine Z54 ?_|refine Z58 ?_|refine Z59 ?_|refine Z62 ?_|refine Z63 ?_|refine Z64 ?_|refine Z67 ?_|refine Z70 ?_|refine Z71 ?_
        |refine Z72 ?_|refine Z73 ?_|refine Z77 ?_|refine Z78 ?_|refine Z79 ?_|refine Z82 fun _ => ?_|refine Z84 fun _ => ?_|refine Z85 fun _ => ?_)
      refine st_draw1 (by rfl) ?_
      repeat (first
        |refine Zqf (by intro _ _ _;(first
          |refine Z01 ?_|refine Z02 ?_|refine Z15 ?_|refine Z16 ?_|refine Z17 ?_|refine Z18 ?_|refine Z20 ?_|refine Z21 ?_|refine Z38 ?_|refine Z49 ?_|refine Z50 ?_
          |refine Z54 ?_|refine Z58 ?_|refine Z59 ?_|refine Z62 ?_|refine Z63 ?_|refine Z64 ?_|refine Z70 ?_|refine Z71 ?_|refine Z72 ?_|refine Z73 ?_|refine Z77 ?_
          |refine Z78 ?_|refine Z79 ?_
          |(refine st_callV (by rfl) (by rfl) (by rfl) (mac_spec _ s2 (key ++ List.replicate (m % (65 - key.length)) 0) b hlt hb hll (by omega)) (fun w hw => ⟨RdW.own (by repeat (first | apply Find.here | apply Find.there)) w hw, by first | exact RdW.old hr2 w hw | exact RdW.old (RdC.shift hr2 (by assumption)) w hw⟩) (by rfl) ?_));exact Zq) ?_
        |refine Zqp (by intro _ _ _;(first
          |refine Z24 ?_|refine Z25 ?_|refine Z26 ?_|refine Z27 ?_|refine Z28 ?_|refine Z67 ?_|refine Z20 ?_|refine Z21 ?_|refine Z62 ?_);exact Zq) ?_
        |refine Zqe (by intro _ _ _;(first
          |refine Z29 ?_|refine Z30 ?_|refine Z31 ?_|refine Z32 ?_);exact Zqq) ?_
        |refine Zqp (by intro _ _ _;refine st_callV (by rfl) (by rfl) (by rfl) (mac_spec _ s2 (key ++ List.replicate (m % (65 - key.length)) 0) b hlt hb hll (by omega)) (fun w hw => ⟨RdW.own (by repeat (first | apply Find.here | apply Find.there)) w hw, RdW.old (RdC.shift hr2 (by assumption)) w hw⟩) (by rfl) ?_;exact Zq) ?_
        |refine Zqn ?_)
      refine Zq0 ?_ (by kernel_rfl)
      repeat (first
        |refine Z01 ?_|refine Z02 ?_|refine Z03 ?_|refine Z04 ?_|refine Z05 ?_|refine Z06 ?_|refine Z07 ?_|refine Z08 ?_|refine Z09 ?_|refine Z10 ?_|refine Z11 ?_
        |refine Z12 ?_|refine Z13 ?_|refine Z14 ?_|refine Z15 ?_|refine Z16 ?_|refine Z17 ?_|refine Z18 ?_|refine Z20 ?_|refine Z21 ?_|refine Z24 ?_|refine Z25 ?_
        |refine Z26 ?_|refine Z27 ?_|refine Z28 ?_|refine Z29 ?_|refine Z30 ?_|refine Z31 ?_|refine Z32 ?_|refine Z38 ?_|refine Z49 ?_|refine Z50 ?_|refine Z51 ?_
        |refine Z52 ?_|refine Z53 ?_|refine Z54 ?_|refine Z58 ?_|refine Z59 ?_|refine Z62 ?_|refine Z63 ?_|refine Z64 ?_|refine Z67 ?_|refine Z70 ?_|refine Z71 ?_
        |refine Z72 ?_|refine Z73 ?_|refine Z77 ?_|refine Z78 ?_|refine Z79 ?_|refine Z82 fun _ => ?_|refine Z84 fun _ => ?_|refine Z85 fun _ => ?_)
      refine Ze1 fun _ hw => post_of hw SubW.nil ⟨?_, rfl⟩
      rw [decide_eq_true (mac_key b hz)]
    · have hneg : n < 0 := by
        have : (0 : Int) ≤ -(n + 1) := by rw [hm]; exact Int.natCast_nonneg m
        omega
      repeat (first
        |(rw [decide_eq_true (p := n < Int.ofNat 0) hneg])|(rw [show -(n + Int.ofNat 1) = Int.ofNat m from hm])|refine Z01 ?_|refine Z02 ?_|refine Z03 ?_|refine Z04 ?_
        |refine Z05 ?_|refine Z06 ?_|refine Z07 ?_|refine Z08 ?_|refine Z09 ?_|refine Z10 ?_|refine Z11 ?_|refine Z12 ?_|refine Z13 ?_|refine Z14 ?_|refine Z15 ?_
        |refine Z16 ?_|refine Z17 ?_|refine Z18 ?_|refine Z20 ?_|refine Z21 ?_|refine Z24 ?_|refine Z25 ?_|refine Z26 ?_|refine Z27 ?_|refine Z28 ?_|refine Z29 ?_
        |refine Z30 ?_|refine Z31 ?_|refine Z32 ?_|refine Z38 ?_|refine Z49 ?_|refine Z50 ?_|refine Z51 ?_|refine Z52 ?_|refine Z53 ?_|refine Z54 ?_|refine Z58 ?_
        |refine Z59 ?_|refine Z62 ?_|refine Z63 ?_|refine Z64 ?_|refine Z67 ?_|refine Z70 ?_|refine Z71 ?_|refine Z72 ?_|refine Z73 ?_|refine Z77 ?_|refine Z78 ?_
        |refine Z79 ?_|refine Z82 fun _ => ?_|refine Z84 fun _ => ?_|refine Z85 fun _ => ?_)
      have hmod : m % (65 - key.length) < 65 - key.length := Nat.mod_lt _ (by omega)
      have hz := hblk_zeros h (m % (65 - key.length)) (by omega)
      have hlt : Lt 256 (key ++ List.replicate (m % (65 - key.length)) 0) := Lt.app hkey (fun x hx => by rw [List.eq_of_mem_replicate hx]; decide)
      have hll : (key ++ List.replicate (m % (65 - key.length)) 0).length < 1073741824 := by simp; omega
      refine st_perm [3, 4, 5, 6, 7, 1, 0, 2, 8, 9] (by rfl) ?_
      repeat (first
        |refine Zpf (by rfl)
          (by intro _ _ _;(first
          |refine Z01 ?_|refine Z02 ?_|refine Z15 ?_|refine Z16 ?_|refine Z17 ?_|refine Z18 ?_|refine Z20 ?_|refine Z21 ?_|refine Z38 ?_|refine Z49 ?_|refine Z50 ?_
          |refine Z54 ?_|refine Z58 ?_|refine Z59 ?_|refine Z62 ?_|refine Z63 ?_|refine Z64 ?_|refine Z70 ?_|refine Z71 ?_|refine Z72 ?_|refine Z73 ?_|refine Z77 ?_
          |refine Z78 ?_|refine Z79 ?_|(refine st_imod (b0 := 65 - key.length) (by rfl) (by rfl) (by omega) (by rfl) ?_));exact Zq) ?_
        |refine Zpp (by rfl)
          (by intro _ _ _;(first
          |refine Z24 ?_|refine Z25 ?_|refine Z26 ?_|refine Z27 ?_|refine Z28 ?_|refine Z67 ?_|refine Z20 ?_|refine Z21 ?_|refine Z62 ?_);exact Zq) ?_
        |refine Zpp (by rfl)
          (by intro _ _ _;(refine st_lenN (by rfl) (by rfl) (RdW.old (RdC.shift hr1 (by assumption))) (by rfl) ?_);exact Zq) ?_
        |refine Zps (by rfl)
          (by intro _ _ _;(first
          |refine Z29 ?_|refine Z30 ?_|refine Z31 ?_|refine Z32 ?_);exact Zqq) ?_
        |refine Zpn (by rfl)
          (by intro _ _ _;(first
          |refine Z82 fun _ => ?_|refine Z84 fun _ => ?_|refine Z85 fun _ => ?_);exact Zpx) fun _ => ?_
        |refine Zpn (by rfl)
          (by intro _ _ _;(refine st_appendN (xs := []) (ys := key) (kk := .u8) (by rfl) (by rfl) (by repeat (first | apply Find.here | apply Find.there)) (RdW.old (RdC.shift hr1 (by assumption))) (by rfl) (by rfl) (by rfl) (by rfl) (by simp; omega) (by simp; omega) (by rfl) fun _ => ?_);exact Zpx) fun _ => ?_
        |refine Zpn (by rfl)
          (by intro _ _ _;(refine st_append_madeN (xs := [] ++ key) (k := m % (65 - key.length)) (kk := .u8) (by rfl) (by rfl) (by repeat (first | apply Find.here | apply Find.there)) (by rfl) (by rfl) (by rfl) (by rfl) (by rfl) (by simp; omega) (by simp; omega) (by rfl) fun _ => ?_);exact Zpx) fun _ => ?_
        |refine Zpo (by rfl) ?_)
      refine Zp0 ?_
      rw [List.nil_append]
      repeat (first
        |refine Z01 ?_|refine Z02 ?_|refine Z03 ?_|refine Z04 ?_|refine Z05 ?_|refine Z06 ?_|refine Z07 ?_|refine Z08 ?_|refine Z09 ?_|refine Z10 ?_|refine Z11 ?_
        |refine Z12 ?_|refine Z13 ?_|refine Z14 ?_|refine Z15 ?_|refine Z16 ?_|refine Z17 ?_|refine Z18 ?_|refine Z20 ?_|refine Z21 ?_|refine Z24 ?_|refine Z25 ?_
        |refine Z26 ?_|refine Z27 ?_|refine Z28 ?_|refine Z29 ?_|refine Z30 ?_|refine Z31 ?_|refine Z32 ?_|refine Z38 ?_|refine Z49 ?_|refine Z50 ?_|refine Z51 ?_
        |refine Z52 ?_|refine Z53 ?_|refine Z54 ?_|refine Z58 ?_|refine Z59 ?_|refine Z62 ?_|refine Z63 ?_|refine Z64 ?_|refine Z67 ?_|refine Z70 ?_|refine Z71 ?_
        |refine Z72 ?_|refine Z73 ?_|refine Z77 ?_|refine Z78 ?_|refine Z79 ?_|refine Z82 fun _ => ?_|refine Z84 fun _ => ?_|refine Z85 fun _ => ?_)
      refine st_draw1 (by rfl) ?_
      repeat (first
        |refine Zqf (by intro _ _ _;(first
          |refine Z01 ?_|refine Z02 ?_|refine Z15 ?_|refine Z16 ?_|refine Z17 ?_|refine Z18 ?_|refine Z20 ?_|refine Z21 ?_|refine Z38 ?_|refine Z49 ?_|refine Z50 ?_
          |refine Z54 ?_|refine Z58 ?_|refine Z59 ?_|refine Z62 ?_|refine Z63 ?_|refine Z64 ?_|refine Z70 ?_|refine Z71 ?_|refine Z72 ?_|refine Z73 ?_|refine Z77 ?_
          |refine Z78 ?_|refine Z79 ?_
          |(refine st_callV (by rfl) (by rfl) (by rfl) (mac_spec _ s2 (key ++ List.replicate (m % (65 - key.length)) 0) b hlt hb hll (by omega)) (fun w hw => ⟨RdW.own (by repeat (first | apply Find.here | apply Find.there)) w hw, by first | exact RdW.old hr2 w hw | exact RdW.old (RdC.shift hr2 (by assumption)) w hw⟩) (by rfl) ?_));exact Zq) ?_
        |refine Zqp (by intro _ _ _;(first
          |refine Z24 ?_|refine Z25 ?_|refine Z26 ?_|refine Z27 ?_|refine Z28 ?_|refine Z67 ?_|refine Z20 ?_|refine Z21 ?_|refine Z62 ?_);exact Zq) ?_
        |refine Zqe (by intro _ _ _;(first
          |refine Z29 ?_|refine Z30 ?_|refine Z31 ?_|refine Z32 ?_);exact Zqq) ?_
        |refine Zqp (by intro _ _ _;refine st_callV (by rfl) (by rfl) (by rfl) (mac_spec _ s2 (key ++ List.replicate (m % (65 - key.length)) 0) b hlt hb hll (by omega)) (fun w hw => ⟨RdW.own (by repeat (first | apply Find.here | apply Find.there)) w hw, RdW.old (RdC.shift hr2 (by assumption)) w hw⟩) (by rfl) ?_;exact Zq) ?_
        |refine Zqn ?_)
      refine Zq0 ?_ (by kernel_rfl)
      repeat (first
        |refine Z01 ?_|refine Z02 ?_|refine Z03 ?_|refine Z04 ?_|refine Z05 ?_|refine Z06 ?_|refine Z07 ?_|refine Z08 ?_|refine Z09 ?_|refine Z10 ?_|refine Z11 ?_
        |refine Z12 ?_|refine Z13 ?_|refine Z14 ?_|refine Z15 ?_|refine Z16 ?_|refine Z17 ?_|refine Z18 ?_|refine Z20 ?_|refine Z21 ?_|refine Z24 ?_|refine Z25 ?_
        |refine Z26 ?_|refine Z27 ?_|refine Z28 ?_|refine Z29 ?_|refine Z30 ?_|refine Z31 ?_|refine Z32 ?_|refine Z38 ?_|refine Z49 ?_|refine Z50 ?_|refine Z51 ?_
        |refine Z52 ?_|refine Z53 ?_|refine Z54 ?_|refine Z58 ?_|refine Z59 ?_|refine Z62 ?_|refine Z63 ?_|refine Z64 ?_|refine Z67 ?_|refine Z70 ?_|refine Z71 ?_
        |refine Z72 ?_|refine Z73 ?_|refine Z77 ?_|refine Z78 ?_|refine Z79 ?_|refine Z82 fun _ => ?_|refine Z84 fun _ => ?_|refine Z85 fun _ => ?_)
      refine Ze1 fun _ hw => post_of hw SubW.nil ⟨?_, rfl⟩
      rw [decide_eq_true (mac_key b hz)]
end Go.Proofs.Ytefhbmhanajfoaa.L
