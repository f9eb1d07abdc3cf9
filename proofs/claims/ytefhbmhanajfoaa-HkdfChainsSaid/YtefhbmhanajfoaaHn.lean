/- The walks of the laws of bytes made of a key. Conditions: as each statement says. -/
import Derived.Test.YtefhbmhanajfoaaAuto
import Derived.Test.YtefhbmhanajfoaaPerm
import Derived.Test.YtefhbmhanajfoaaMore
import Derived.Test.YtefhbmhanajfoaaProg
import Derived.Test.YtefhbmhanajfoaaShaW
import Derived.Test.YtefhbmhanajfoaaShaX
import Derived.Test.YtefhbmhanajfoaaShaY
import Derived.Test.YtefhbmhanajfoaaShaZ
import Derived.Test.YtefhbmhanajfoaaShaP
import Derived.Test.YtefhbmhanajfoaaShaS
import Derived.Test.YtefhbmhanajfoaaShaT
import Derived.Test.YtefhbmhanajfoaaShaU
import Derived.Test.YtefhbmhanajfoaaHk
import Derived.Test.YtefhbmhanajfoaaHl
import Derived.Test.YtefhbmhanajfoaaHkE
import Derived.Test.YtefhbmhanajfoaaHm
namespace Go.Proofs.Ytefhbmhanajfoaa.L
open Go Go.Proofs
set_option maxRecDepth 100000
attribute [local irreducible] Code.wp wpList Af bodyPost L.Go
open Sha
attribute [local simp] sum_len mac_len

theorem ok_prefix (key info : List Nat) (i k : Nat) : (ok key info (i + k)).take (32 * i) = ok key info i := by
  induction k with
  | zero => rw [Nat.add_zero, List.take_of_length_le (by rw [ok_len]; omega)]
  | succ k ih =>
    have h := ok_len key info (i + k)
    rw [← Nat.add_assoc, ok_succ, List.take_append_of_le_length (by omega), ih]
theorem ok_piece (key info : List Nat) {i j : Nat} (h : i < j) : ((ok key info j).take (32 * i + 32)).drop (32 * i) = Tk key info (i + 1) := by
  obtain ⟨k, rfl⟩ : ∃ k, j = i + 1 + k := ⟨j - (i + 1), by omega⟩
  have hl := ok_len key info i
  rw [show 32 * i + 32 = 32 * (i + 1) by omega, ok_prefix, ok_succ, List.drop_left' hl]
theorem expand_take (key info : List Nat) {n m : Nat} (h : n ≤ m) : (expand key info m).take n = expand key info n := by
  rw [expand_def, expand_def, List.take_take, Nat.min_eq_left h]
  obtain ⟨k, hk⟩ : ∃ k, (m + 31) / 32 = (n + 31) / 32 + k := ⟨(m + 31) / 32 - (n + 31) / 32, by omega⟩
  have hp := ok_prefix key info ((n + 31) / 32) k
  rw [hk, ← hp, List.take_take, Nat.min_eq_left (by omega)]
theorem expand_ok_n (key info : List Nat) (n : Nat) : expand key info (32 * n) = ok key info n := by
  rw [expand_def, show (32 * n + 31) / 32 = n by omega, List.take_of_length_le (by rw [ok_len]; omega)]

theorem int3 (n : Int) : n < 0 ∨ (¬ n < 0 ∧ 8160 < n) ∨ ∃ k : Nat, n = Int.ofNat k ∧ k ≤ 8160 := by
  by_cases h : n < 0
  · exact .inl h
  · by_cases h' : 8160 < n
    · exact .inr (.inl ⟨h, h'⟩)
    · exact .inr (.inr ⟨n.toNat, by show n = ((n.toNat : Nat) : Int); omega, by omega⟩)

set_option maxHeartbeats 4000000 in
theorem lawBegins2_spec (s1 : Value) (key : List Nat) (hkey : Lt 256 key) (k63 : key.length < 9223372036854775808) (s2 : Value) (b : List Nat) (hb : Lt 256 b) (b63 : b.length < 9223372036854775808) (n : Int) (hn : -9223372036854775808 ≤ n ∧ n < 9223372036854775808)
    (m : Int) (hm : -9223372036854775808 ≤ m ∧ m < 9223372036854775808) :
    Spec Try.prog 10 [s1, s2, .int .i64 n, .int .i64 m] (fun w => Rd w s1 (key.map (N .u8)) ∧ Rd w s2 (b.map (N .u8))) [] (IsV (.bool true)) := by
  refine mk_spec Try.func10 rfl rfl rfl fun w hr => ?_
  have hr1 := RdC.mk0 hr.1
  have hr2 := RdC.mk0 hr.2
  repeat (first
    |(refine st_callV (by rfl) (by rfl) (by rfl) awake2_spec (fun _ _ => trivial) (by rfl) ?_)
    |(refine st_callV (by rfl) (by rfl) (by rfl) (few2_spec s1 s2 key b k63 b63) (fun w hw => ⟨RdW.old hr1 w hw, RdW.old hr2 w hw⟩) (by rfl) ?_)|refine Z01 ?_
    |refine Z02 ?_|refine Z03 ?_|refine Z04 ?_|refine Z05 ?_|refine Z06 ?_|refine Z07 ?_|refine Z08 ?_|refine Z09 ?_|refine Z10 ?_|refine Z11 ?_|refine Z12 ?_
    |refine Z13 ?_|refine Z14 ?_|refine Z17 ?_|refine Z18 ?_|refine Z19 ?_|refine Z20 ?_|refine Z21 ?_|refine Z49 ?_|refine Z50 ?_|refine Z51 ?_|refine Z52 ?_
    |refine Z53 ?_|refine Z54 ?_|refine Z58 ?_|refine Z59 ?_|refine Z62 ?_|refine Z63 ?_|refine Z64 ?_|refine Z68 ?_|refine Z69 ?_)
  by_cases hfew : key.length ≤ 500 ∧ b.length ≤ 500
  case neg =>
    rw [decide_eq_false hfew]
    repeat (first
      |refine Z01 ?_|refine Z02 ?_|refine Z03 ?_|refine Z04 ?_|refine Z05 ?_|refine Z06 ?_|refine Z07 ?_|refine Z08 ?_|refine Z09 ?_|refine Z10 ?_|refine Z11 ?_
      |refine Z12 ?_|refine Z13 ?_|refine Z14 ?_|refine Z17 ?_|refine Z18 ?_|refine Z19 ?_|refine Z20 ?_|refine Z21 ?_|refine Z49 ?_|refine Z50 ?_|refine Z51 ?_
      |refine Z52 ?_|refine Z53 ?_|refine Z54 ?_|refine Z58 ?_|refine Z59 ?_|refine Z62 ?_|refine Z63 ?_|refine Z64 ?_|refine Z68 ?_|refine Z69 ?_)
    refine Ze1 fun _ hw => post_of hw SubW.nil ⟨?_, rfl⟩
    rfl
  rw [decide_eq_true hfew]
  have hk5 := hfew.1
  have hb5 := hfew.2
  rcases int3 n with h0 | ⟨h0, h1⟩ | ⟨n', rfl, h1⟩
  · rcases int3 m with g0 | ⟨g0, g1⟩ | ⟨m', rfl, g1⟩
    · repeat (first
        |(refine st_callV (by rfl) (by rfl) (by rfl) (expand_bad s1 s2 n (.inl h0)) (fun _ _ => trivial) (by rfl) ?_)|(rw [decide_eq_true (p := n < Int.ofNat 0) h0])
        |(refine st_callV (by rfl) (by rfl) (by rfl) (expand_bad s1 s2 m (.inl g0)) (fun _ _ => trivial) (by rfl) ?_)|(rw [decide_eq_true (p := m < Int.ofNat 0) g0])
        |(refine st_cmp (r := false) (by rfl) (by rfl) (cmpN_f (by first | (simp only [cmpQ]; done) | (simp only [cmpQ]; omega))) (by rfl) ?_)
        |(refine st_cmp (r := true) (by rfl) (by rfl) (cmpN_t (by first | (simp only [cmpP]; done) | (simp only [cmpP]; omega))) (by rfl) ?_)|refine Z01 ?_|refine Z02 ?_
        |refine Z03 ?_|refine Z04 ?_|refine Z05 ?_|refine Z06 ?_|refine Z07 ?_|refine Z08 ?_|refine Z09 ?_|refine Z10 ?_|refine Z11 ?_|refine Z12 ?_|refine Z13 ?_
        |refine Z14 ?_|refine Z17 ?_|refine Z18 ?_|refine Z19 ?_|refine Z20 ?_|refine Z21 ?_|refine Z49 ?_|refine Z50 ?_|refine Z51 ?_|refine Z52 ?_|refine Z53 ?_
        |refine Z54 ?_|refine Z58 ?_|refine Z59 ?_|refine Z62 ?_|refine Z63 ?_|refine Z64 ?_|refine Z68 ?_|refine Z69 ?_)
      refine Ze1 fun _ hw => post_of hw SubW.nil ⟨?_, rfl⟩
      rfl
    · repeat (first
        |(refine st_callV (by rfl) (by rfl) (by rfl) (expand_bad s1 s2 n (.inl h0)) (fun _ _ => trivial) (by rfl) ?_)|(rw [decide_eq_true (p := n < Int.ofNat 0) h0])
        |(refine st_callV (by rfl) (by rfl) (by rfl) (expand_bad s1 s2 m (.inr g1)) (fun _ _ => trivial) (by rfl) ?_)|(rw [decide_eq_false (p := m < Int.ofNat 0) g0])
        |(rw [decide_eq_true (p := Int.ofNat 8160 < m) g1])
        |(refine st_cmp (r := false) (by rfl) (by rfl) (cmpN_f (by first | (simp only [cmpQ]; done) | (simp only [cmpQ]; omega))) (by rfl) ?_)
        |(refine st_cmp (r := true) (by rfl) (by rfl) (cmpN_t (by first | (simp only [cmpP]; done) | (simp only [cmpP]; omega))) (by rfl) ?_)|refine Z01 ?_|refine Z02 ?_
        |refine Z03 ?_|refine Z04 ?_|refine Z05 ?_|refine Z06 ?_|refine Z07 ?_|refine Z08 ?_|refine Z09 ?_|refine Z10 ?_|refine Z11 ?_|refine Z12 ?_|refine Z13 ?_
        |refine Z14 ?_|refine Z17 ?_|refine Z18 ?_|refine Z19 ?_|refine Z20 ?_|refine Z21 ?_|refine Z49 ?_|refine Z50 ?_|refine Z51 ?_|refine Z52 ?_|refine Z53 ?_
        |refine Z54 ?_|refine Z58 ?_|refine Z59 ?_|refine Z62 ?_|refine Z63 ?_|refine Z64 ?_|refine Z68 ?_|refine Z69 ?_)
      refine Ze1 fun _ hw => post_of hw SubW.nil ⟨?_, rfl⟩
      rfl
    · repeat (first
        |(refine st_callV (by rfl) (by rfl) (by rfl) (expand_bad s1 s2 n (.inl h0)) (fun _ _ => trivial) (by rfl) ?_)|(rw [decide_eq_true (p := n < Int.ofNat 0) h0])
        |((refine st_call (by rfl) (by rfl) (by rfl) (expand_ok s1 s2 key b m' hkey hb (by omega) (by omega) g1) .nil (fun w hw => ⟨RdW.old hr1 w hw, RdW.old hr2 w hw⟩) (by rfl) ?_; rintro _ _ ⟨y, rfl, rfl⟩))
        |(refine st_cmp (r := false) (by rfl) (by rfl) (cmpN_f (by first | (simp only [cmpQ]; done) | (simp only [cmpQ]; omega))) (by rfl) ?_)
        |(refine st_cmp (r := true) (by rfl) (by rfl) (cmpN_t (by first | (simp only [cmpP]; done) | (simp only [cmpP]; omega))) (by rfl) ?_)|refine Z01 ?_|refine Z02 ?_
        |refine Z03 ?_|refine Z04 ?_|refine Z05 ?_|refine Z06 ?_|refine Z07 ?_|refine Z08 ?_|refine Z09 ?_|refine Z10 ?_|refine Z11 ?_|refine Z12 ?_|refine Z13 ?_
        |refine Z14 ?_|refine Z17 ?_|refine Z18 ?_|refine Z19 ?_|refine Z20 ?_|refine Z21 ?_|refine Z49 ?_|refine Z50 ?_|refine Z51 ?_|refine Z52 ?_|refine Z53 ?_
        |refine Z54 ?_|refine Z58 ?_|refine Z59 ?_|refine Z62 ?_|refine Z63 ?_|refine Z64 ?_|refine Z68 ?_|refine Z69 ?_)
      refine Ze1 fun _ hw => post_of hw SubW.nil ⟨?_, rfl⟩
      rfl
  · rcases int3 m with g0 | ⟨g0, g1⟩ | ⟨m', rfl, g1⟩
    · repeat (first
        |(refine st_callV (by rfl) (by rfl) (by rfl) (expand_bad s1 s2 n (.inr h1)) (fun _ _ => trivial) (by rfl) ?_)|(rw [decide_eq_false (p := n < Int.ofNat 0) h0])
        |(rw [decide_eq_true (p := Int.ofNat 8160 < n) h1])|(refine st_callV (by rfl) (by rfl) (by rfl) (expand_bad s1 s2 m (.inl g0)) (fun _ _ => trivial) (by rfl) ?_)
        |(rw [decide_eq_true (p := m < Int.ofNat 0) g0])
        |(refine st_cmp (r := false) (by rfl) (by rfl) (cmpN_f (by first | (simp only [cmpQ]; done) | (simp only [cmpQ]; omega))) (by rfl) ?_)
        |(refine st_cmp (r := true) (by rfl) (by rfl) (cmpN_t (by first | (simp only [cmpP]; done) | (simp only [cmpP]; omega))) (by rfl) ?_)|refine Z01 ?_|refine Z02 ?_
        |refine Z03 ?_|refine Z04 ?_|refine Z05 ?_|refine Z06 ?_|refine Z07 ?_|refine Z08 ?_|refine Z09 ?_|refine Z10 ?_|refine Z11 ?_|refine Z12 ?_|refine Z13 ?_
        |refine Z14 ?_|refine Z17 ?_|refine Z18 ?_|refine Z19 ?_|refine Z20 ?_|refine Z21 ?_|refine Z49 ?_|refine Z50 ?_|refine Z51 ?_|refine Z52 ?_|refine Z53 ?_
        |refine Z54 ?_|refine Z58 ?_|refine Z59 ?_|refine Z62 ?_|refine Z63 ?_|refine Z64 ?_|refine Z68 ?_|refine Z69 ?_)
      refine Ze1 fun _ hw => post_of hw SubW.nil ⟨?_, rfl⟩
      rfl
    · repeat (first
        |(refine st_callV (by rfl) (by rfl) (by rfl) (expand_bad s1 s2 n (.inr h1)) (fun _ _ => trivial) (by rfl) ?_)|(rw [decide_eq_false (p := n < Int.ofNat 0) h0])
        |(rw [decide_eq_true (p := Int.ofNat 8160 < n) h1])|(refine st_callV (by rfl) (by rfl) (by rfl) (expand_bad s1 s2 m (.inr g1)) (fun _ _ => trivial) (by rfl) ?_)
        |(rw [decide_eq_false (p := m < Int.ofNat 0) g0])|(rw [decide_eq_true (p := Int.ofNat 8160 < m) g1])
        |(refine st_cmp (r := false) (by rfl) (by rfl) (cmpN_f (by first | (simp only [cmpQ]; done) | (simp only [cmpQ]; omega))) (by rfl) ?_)
        |(refine st_cmp (r := true) (by rfl) (by rfl) (cmpN_t (by first | (simp only [cmpP]; done) | (simp only [cmpP]; omega))) (by rfl) ?_)|refine Z01 ?_|refine Z02 ?_
        |refine Z03 ?_|refine Z04 ?_|refine Z05 ?_|refine Z06 ?_|refine Z07 ?_|refine Z08 ?_|refine Z09 ?_|refine Z10 ?_|refine Z11 ?_|refine Z12 ?_|refine Z13 ?_
        |refine Z14 ?_|refine Z17 ?_|refine Z18 ?_|refine Z19 ?_|refine Z20 ?_|refine Z21 ?_|refine Z49 ?_|refine Z50 ?_|refine Z51 ?_|refine Z52 ?_|refine Z53 ?_
        |refine Z54 ?_|refine Z58 ?_|refine Z59 ?_|refine Z62 ?_|refine Z63 ?_|refine Z64 ?_|refine Z68 ?_|refine Z69 ?_)
      refine Ze1 fun _ hw => post_of hw SubW.nil ⟨?_, rfl⟩
      rfl
    · repeat (first
        |(refine st_callV (by rfl) (by rfl) (by rfl) (expand_bad s1 s2 n (.inr h1)) (fun _ _ => trivial) (by rfl) ?_)|(rw [decide_eq_false (p := n < Int.ofNat 0) h0])
        |(rw [decide_eq_true (p := Int.ofNat 8160 < n) h1])
        |((refine st_call (by rfl) (by rfl) (by rfl) (expand_ok s1 s2 key b m' hkey hb (by omega) (by omega) g1) .nil (fun w hw => ⟨RdW.old hr1 w hw, RdW.old hr2 w hw⟩) (by rfl) ?_; rintro _ _ ⟨y, rfl, rfl⟩))
        |(refine st_cmp (r := false) (by rfl) (by rfl) (cmpN_f (by first | (simp only [cmpQ]; done) | (simp only [cmpQ]; omega))) (by rfl) ?_)
        |(refine st_cmp (r := true) (by rfl) (by rfl) (cmpN_t (by first | (simp only [cmpP]; done) | (simp only [cmpP]; omega))) (by rfl) ?_)|refine Z01 ?_|refine Z02 ?_
        |refine Z03 ?_|refine Z04 ?_|refine Z05 ?_|refine Z06 ?_|refine Z07 ?_|refine Z08 ?_|refine Z09 ?_|refine Z10 ?_|refine Z11 ?_|refine Z12 ?_|refine Z13 ?_
        |refine Z14 ?_|refine Z17 ?_|refine Z18 ?_|refine Z19 ?_|refine Z20 ?_|refine Z21 ?_|refine Z49 ?_|refine Z50 ?_|refine Z51 ?_|refine Z52 ?_|refine Z53 ?_
        |refine Z54 ?_|refine Z58 ?_|refine Z59 ?_|refine Z62 ?_|refine Z63 ?_|refine Z64 ?_|refine Z68 ?_|refine Z69 ?_)
      refine Ze1 fun _ hw => post_of hw SubW.nil ⟨?_, rfl⟩
      rfl
  · rcases int3 m with g0 | ⟨g0, g1⟩ | ⟨m', rfl, g1⟩
    · repeat (first
        
        |((refine st_call (by rfl) (by rfl) (by rfl) (expand_ok s1 s2 key b n' hkey hb (by omega) (by omega) h1) .nil (fun w hw => ⟨RdW.old hr1 w hw, RdW.old hr2 w hw⟩) (by rfl) ?_; rintro _ _ ⟨x, rfl, rfl⟩))
        |(refine st_callV (by rfl) (by rfl) (by rfl) (expand_bad s1 s2 m (.inl g0)) (fun _ _ => trivial) (by rfl) ?_)|(rw [decide_eq_true (p := m < Int.ofNat 0) g0])
        |(refine st_cmp (r := false) (by rfl) (by rfl) (cmpN_f (by first | (simp only [cmpQ]; done) | (simp only [cmpQ]; omega))) (by rfl) ?_)
        |(refine st_cmp (r := true) (by rfl) (by rfl) (cmpN_t (by first | (simp only [cmpP]; done) | (simp only [cmpP]; omega))) (by rfl) ?_)|refine Z01 ?_|refine Z02 ?_
        |refine Z03 ?_|refine Z04 ?_|refine Z05 ?_|refine Z06 ?_|refine Z07 ?_|refine Z08 ?_|refine Z09 ?_|refine Z10 ?_|refine Z11 ?_|refine Z12 ?_|refine Z13 ?_
        |refine Z14 ?_|refine Z17 ?_|refine Z18 ?_|refine Z19 ?_|refine Z20 ?_|refine Z21 ?_|refine Z49 ?_|refine Z50 ?_|refine Z51 ?_|refine Z52 ?_|refine Z53 ?_
        |refine Z54 ?_|refine Z58 ?_|refine Z59 ?_|refine Z62 ?_|refine Z63 ?_|refine Z64 ?_|refine Z68 ?_|refine Z69 ?_)
      refine Ze1 fun _ hw => post_of hw SubW.nil ⟨?_, rfl⟩
      rfl
    · repeat (first
        
        |((refine st_call (by rfl) (by rfl) (by rfl) (expand_ok s1 s2 key b n' hkey hb (by omega) (by omega) h1) .nil (fun w hw => ⟨RdW.old hr1 w hw, RdW.old hr2 w hw⟩) (by rfl) ?_; rintro _ _ ⟨x, rfl, rfl⟩))
        |(refine st_callV (by rfl) (by rfl) (by rfl) (expand_bad s1 s2 m (.inr g1)) (fun _ _ => trivial) (by rfl) ?_)|(rw [decide_eq_false (p := m < Int.ofNat 0) g0])
        |(rw [decide_eq_true (p := Int.ofNat 8160 < m) g1])
        |(refine st_cmp (r := false) (by rfl) (by rfl) (cmpN_f (by first | (simp only [cmpQ]; done) | (simp only [cmpQ]; omega))) (by rfl) ?_)
        |(refine st_cmp (r := true) (by rfl) (by rfl) (cmpN_t (by first | (simp only [cmpP]; done) | (simp only [cmpP]; omega))) (by rfl) ?_)|refine Z01 ?_|refine Z02 ?_
        |refine Z03 ?_|refine Z04 ?_|refine Z05 ?_|refine Z06 ?_|refine Z07 ?_|refine Z08 ?_|refine Z09 ?_|refine Z10 ?_|refine Z11 ?_|refine Z12 ?_|refine Z13 ?_
        |refine Z14 ?_|refine Z17 ?_|refine Z18 ?_|refine Z19 ?_|refine Z20 ?_|refine Z21 ?_|refine Z49 ?_|refine Z50 ?_|refine Z51 ?_|refine Z52 ?_|refine Z53 ?_
        |refine Z54 ?_|refine Z58 ?_|refine Z59 ?_|refine Z62 ?_|refine Z63 ?_|refine Z64 ?_|refine Z68 ?_|refine Z69 ?_)
      refine Ze1 fun _ hw => post_of hw SubW.nil ⟨?_, rfl⟩
      rfl
    · have hxl := expand_len key b n'
      have hyl := expand_len key b m'
      by_cases hnm : m' < n'
      · repeat (first
          |(refine st_cmp (r := false) (by rfl) (by rfl) (cmpN_f (by first | (simp only [cmpQ]; done) | (simp only [cmpQ]; omega))) (by rfl) ?_)
          |(refine st_cmp (r := true) (by rfl) (by rfl) (cmpN_t (by first | (simp only [cmpP]; done) | (simp only [cmpP]; omega))) (by rfl) ?_)
          |((refine st_call (by rfl) (by rfl) (by rfl) (expand_ok s1 s2 key b n' hkey hb (by omega) (by omega) h1) .nil (fun w hw => ⟨RdW.old hr1 w hw, RdW.old hr2 w hw⟩) (by rfl) ?_; rintro _ _ ⟨x, rfl, rfl⟩))
          |((refine st_call (by rfl) (by rfl) (by rfl) (expand_ok s1 s2 key b m' hkey hb (by omega) (by omega) g1) .nil (fun w hw => ⟨RdW.old hr1 w hw, RdW.old hr2 w hw⟩) (by rfl) ?_; rintro _ _ ⟨y, rfl, rfl⟩))
          |refine Z01 ?_|refine Z02 ?_|refine Z03 ?_|refine Z04 ?_|refine Z05 ?_|refine Z06 ?_|refine Z07 ?_|refine Z08 ?_|refine Z09 ?_|refine Z10 ?_|refine Z11 ?_
          |refine Z12 ?_|refine Z13 ?_|refine Z14 ?_|refine Z17 ?_|refine Z18 ?_|refine Z19 ?_|refine Z20 ?_|refine Z21 ?_|refine Z49 ?_|refine Z50 ?_|refine Z51 ?_
          |refine Z52 ?_|refine Z53 ?_|refine Z54 ?_|refine Z58 ?_|refine Z59 ?_|refine Z62 ?_|refine Z63 ?_|refine Z64 ?_|refine Z68 ?_|refine Z69 ?_)
        refine Ze1 fun _ hw => post_of hw SubW.nil ⟨?_, rfl⟩
        rfl
      · have het : List.drop 0 (List.take n' (expand key b m')) = expand key b n' := by rw [List.drop_zero, expand_take key b (by omega)]
        repeat (first
          |(refine st_cmp (r := false) (by rfl) (by rfl) (cmpN_f (by first | (simp only [cmpQ]; done) | (simp only [cmpQ]; omega))) (by rfl) ?_)
          |((refine st_call (by rfl) (by rfl) (by rfl) (expand_ok s1 s2 key b n' hkey hb (by omega) (by omega) h1) .nil (fun w hw => ⟨RdW.old hr1 w hw, RdW.old hr2 w hw⟩) (by rfl) ?_; rintro _ _ ⟨x, rfl, rfl⟩))
          |((refine st_call (by rfl) (by rfl) (by rfl) (expand_ok s1 s2 key b m' hkey hb (by omega) (by omega) g1) .nil (fun w hw => ⟨RdW.old hr1 w hw, RdW.old hr2 w hw⟩) (by rfl) ?_; rintro _ _ ⟨y, rfl, rfl⟩))
          |(refine st_callV (by rfl) (by rfl) (by rfl) (same_spec _ _ (expand key b n') (expand key b n') (by omega)) (fun w hw => ⟨RdW.own (by repeat (first | apply Find.here | apply Find.there)) w hw, by have h := RdW.subN (lo := 0) (hi := n') (ys := expand key b m') (k := .u8) (RdW.own (by repeat (first | apply Find.here | apply Find.there))) (by omega) (by omega) w hw; rw [het] at h; exact h⟩) (by rfl) ?_)
          |(rw [decide_eq_true rfl])|refine Z01 ?_|refine Z02 ?_|refine Z03 ?_|refine Z04 ?_|refine Z05 ?_|refine Z06 ?_|refine Z07 ?_|refine Z08 ?_|refine Z09 ?_
          |refine Z10 ?_|refine Z11 ?_|refine Z12 ?_|refine Z13 ?_|refine Z14 ?_|refine Z17 ?_|refine Z18 ?_|refine Z19 ?_|refine Z20 ?_|refine Z21 ?_|refine Z49 ?_
          |refine Z50 ?_|refine Z51 ?_|refine Z52 ?_|refine Z53 ?_|refine Z54 ?_|refine Z58 ?_|refine Z59 ?_|refine Z62 ?_|refine Z63 ?_|refine Z64 ?_|refine Z68 ?_
          |refine Z69 ?_)
        refine Ze1 fun _ hw => post_of hw SubW.nil ⟨?_, rfl⟩
        rfl

set_option maxHeartbeats 4000000 in
theorem lawChains2_spec (s1 : Value) (key : List Nat) (hkey : Lt 256 key) (k63 : key.length < 9223372036854775808) (s2 : Value) (b : List Nat) (hb : Lt 256 b) (b63 : b.length < 9223372036854775808) (n : Int) (hn : -9223372036854775808 ≤ n ∧ n < 9223372036854775808) :
    Spec Try.prog 11 [s1, s2, .int .i64 n] (fun w => Rd w s1 (key.map (N .u8)) ∧ Rd w s2 (b.map (N .u8))) [] (IsV (.bool true)) := by
  refine mk_spec Try.func11 rfl rfl rfl fun w hr => ?_
  have hr1 := RdC.mk0 hr.1
  have hr2 := RdC.mk0 hr.2
  repeat (first
    |(refine st_callV (by rfl) (by rfl) (by rfl) awake2_spec (fun _ _ => trivial) (by rfl) ?_)
    |(refine st_callV (by rfl) (by rfl) (by rfl) (few2_spec s1 s2 key b k63 b63) (fun w hw => ⟨RdW.old hr1 w hw, RdW.old hr2 w hw⟩) (by rfl) ?_)|refine Z01 ?_
    |refine Z02 ?_|refine Z03 ?_|refine Z04 ?_|refine Z05 ?_|refine Z06 ?_|refine Z07 ?_|refine Z08 ?_|refine Z09 ?_|refine Z10 ?_|refine Z11 ?_|refine Z12 ?_
    |refine Z13 ?_|refine Z14 ?_|refine Z15 ?_|refine Z16 ?_|refine Z17 ?_|refine Z18 ?_|refine Z19 ?_|refine Z20 ?_|refine Z21 ?_|refine Z29 ?_|refine Z30 ?_
    |refine Z31 ?_|refine Z32 ?_|refine Z36 ?_|refine Z38 ?_|refine Z44 ?_|refine Z45 ?_|refine Z49 ?_|refine Z50 ?_|refine Z51 ?_|refine Z52 ?_|refine Z53 ?_
    |refine Z54 ?_|refine Z58 ?_|refine Z59 ?_|refine Z62 ?_|refine Z63 ?_|refine Z64 ?_|refine Z70 ?_|refine Z71 ?_|refine Z72 ?_|refine Z73 ?_|refine Z74 ?_
    |refine Z80 ?_|refine Z82 fun _ => ?_|refine Z84 fun _ => ?_|refine Z85 fun _ => ?_)
  by_cases hfew : key.length ≤ 500 ∧ b.length ≤ 500
  case neg =>
    rw [decide_eq_false hfew]
    repeat (first
      |refine Z01 ?_|refine Z02 ?_|refine Z03 ?_|refine Z04 ?_|refine Z05 ?_|refine Z06 ?_|refine Z07 ?_|refine Z08 ?_|refine Z09 ?_|refine Z10 ?_|refine Z11 ?_
      |refine Z12 ?_|refine Z13 ?_|refine Z14 ?_|refine Z15 ?_|refine Z16 ?_|refine Z17 ?_|refine Z18 ?_|refine Z19 ?_|refine Z20 ?_|refine Z21 ?_|refine Z29 ?_
      |refine Z30 ?_|refine Z31 ?_|refine Z32 ?_|refine Z36 ?_|refine Z38 ?_|refine Z44 ?_|refine Z45 ?_|refine Z49 ?_|refine Z50 ?_|refine Z51 ?_|refine Z52 ?_
      |refine Z53 ?_|refine Z54 ?_|refine Z58 ?_|refine Z59 ?_|refine Z62 ?_|refine Z63 ?_|refine Z64 ?_|refine Z70 ?_|refine Z71 ?_|refine Z72 ?_|refine Z73 ?_
      |refine Z74 ?_|refine Z80 ?_|refine Z82 fun _ => ?_|refine Z84 fun _ => ?_|refine Z85 fun _ => ?_)
    refine Ze1 fun _ hw => post_of hw SubW.nil ⟨?_, rfl⟩
    rfl
  rw [decide_eq_true hfew]
  have hk5 := hfew.1
  have hb5 := hfew.2
  rcases mod_m_pos n with h0 | ⟨k, hk⟩
  · obtain ⟨k, rfl⟩ : ∃ m : Nat, n = Int.ofNat m := ⟨n.toNat, by show n = ((n.toNat : Nat) : Int); omega⟩
    repeat (first
      |(refine st_cmp (r := false) (by rfl) (by rfl) (cmpN_f (by first | (simp only [cmpQ]; done) | (simp only [cmpQ]; omega))) (by rfl) ?_)|refine Z01 ?_|refine Z02 ?_
      |refine Z03 ?_|refine Z04 ?_|refine Z05 ?_|refine Z06 ?_|refine Z07 ?_|refine Z08 ?_|refine Z09 ?_|refine Z10 ?_|refine Z11 ?_|refine Z12 ?_|refine Z13 ?_
      |refine Z14 ?_|refine Z15 ?_|refine Z16 ?_|refine Z17 ?_|refine Z18 ?_|refine Z19 ?_|refine Z20 ?_|refine Z21 ?_|refine Z29 ?_|refine Z30 ?_|refine Z31 ?_
      |refine Z32 ?_|refine Z36 ?_|refine Z38 ?_|refine Z44 ?_|refine Z45 ?_|refine Z49 ?_|refine Z50 ?_|refine Z51 ?_|refine Z52 ?_|refine Z53 ?_|refine Z54 ?_
      |refine Z58 ?_|refine Z59 ?_|refine Z62 ?_|refine Z63 ?_|refine Z64 ?_|refine Z70 ?_|refine Z71 ?_|refine Z72 ?_|refine Z73 ?_|refine Z74 ?_|refine Z80 ?_
      |refine Z82 fun _ => ?_|refine Z84 fun _ => ?_|refine Z85 fun _ => ?_)
    have hmod : k % 20 < 20 := Nat.mod_lt _ (by decide)
    obtain ⟨m, hm⟩ : ∃ m, m = k % 20 := ⟨_, rfl⟩
    rw [← hm] at hmod
    repeat (first
      |(rw [← hm])|refine Z01 ?_|refine Z02 ?_|refine Z03 ?_|refine Z04 ?_|refine Z05 ?_|refine Z06 ?_|refine Z07 ?_|refine Z08 ?_|refine Z09 ?_|refine Z10 ?_
      |refine Z11 ?_|refine Z12 ?_|refine Z13 ?_|refine Z14 ?_|refine Z15 ?_|refine Z16 ?_|refine Z17 ?_|refine Z18 ?_|refine Z19 ?_|refine Z20 ?_|refine Z21 ?_
      |refine Z29 ?_|refine Z30 ?_|refine Z31 ?_|refine Z32 ?_|refine Z36 ?_|refine Z38 ?_|refine Z44 ?_|refine Z45 ?_|refine Z49 ?_|refine Z50 ?_|refine Z51 ?_
      |refine Z52 ?_|refine Z53 ?_|refine Z54 ?_|refine Z58 ?_|refine Z59 ?_|refine Z62 ?_|refine Z63 ?_|refine Z64 ?_|refine Z70 ?_|refine Z71 ?_|refine Z72 ?_
      |refine Z73 ?_|refine Z74 ?_|refine Z80 ?_|refine Z82 fun _ => ?_|refine Z84 fun _ => ?_|refine Z85 fun _ => ?_)
    have hxl := expand_len key b (32 * m)
    have hol := ok_len key b m
    have hen := expand_ok_n key b m
    repeat (first
      |(refine st_cmp (r := false) (by rfl) (by rfl) (cmpN_f (by first | (simp only [cmpQ]; done) | (simp only [cmpQ]; omega))) (by rfl) ?_)
      |((refine st_call (by rfl) (by rfl) (by rfl) (expand_ok s1 s2 key b (32 * m) hkey hb (by omega) (by omega) (by omega)) .nil (fun w hw => ⟨RdW.old hr1 w hw, RdW.old hr2 w hw⟩) (by rfl) ?_; rintro _ _ ⟨x, rfl, rfl⟩; rw [hen]))
      |refine Z01 ?_|refine Z02 ?_|refine Z03 ?_|refine Z04 ?_|refine Z05 ?_|refine Z06 ?_|refine Z07 ?_|refine Z08 ?_|refine Z09 ?_|refine Z10 ?_|refine Z11 ?_
      |refine Z12 ?_|refine Z13 ?_|refine Z14 ?_|refine Z15 ?_|refine Z16 ?_|refine Z17 ?_|refine Z18 ?_|refine Z19 ?_|refine Z20 ?_|refine Z21 ?_|refine Z29 ?_
      |refine Z30 ?_|refine Z31 ?_|refine Z32 ?_|refine Z36 ?_|refine Z38 ?_|refine Z44 ?_|refine Z45 ?_|refine Z49 ?_|refine Z50 ?_|refine Z51 ?_|refine Z52 ?_
      |refine Z53 ?_|refine Z54 ?_|refine Z58 ?_|refine Z59 ?_|refine Z62 ?_|refine Z63 ?_|refine Z64 ?_|refine Z70 ?_|refine Z71 ?_|refine Z72 ?_|refine Z73 ?_
      |refine Z74 ?_|refine Z80 ?_|refine Z82 fun _ => ?_|refine Z84 fun _ => ?_|refine Z85 fun _ => ?_)
    refine st_loop (ι := Nat) (fun i => i ≤ m) (fun i => [(0, s1), (1, s2), (2, N .i64 m), (7, .bool true), (8, x), (10, N .i64 i)]) (fun i => [.sl x ((ok key b m).map (N .u8)) 5]) (fun i => m - i) 0 (by omega) (by repeat (first | apply subL.nil | refine subL.cons (by rfl) ?_)) (by repeat (first | apply SubW.nil | refine SubW.cons (by repeat (first | apply Find.here | apply Find.there)) ?_)) ?_
    intro i hi
    repeat (first
      |refine Z01 ?_|refine Z02 ?_|refine Z03 ?_|refine Z04 ?_|refine Z05 ?_|refine Z06 ?_|refine Z07 ?_|refine Z08 ?_|refine Z09 ?_|refine Z10 ?_|refine Z11 ?_
      |refine Z12 ?_|refine Z13 ?_|refine Z14 ?_|refine Z15 ?_|refine Z16 ?_|refine Z17 ?_|refine Z18 ?_|refine Z19 ?_|refine Z20 ?_|refine Z21 ?_|refine Z29 ?_
      |refine Z30 ?_|refine Z31 ?_|refine Z32 ?_|refine Z36 ?_|refine Z38 ?_|refine Z44 ?_|refine Z45 ?_|refine Z49 ?_|refine Z50 ?_|refine Z51 ?_|refine Z52 ?_
      |refine Z53 ?_|refine Z54 ?_|refine Z58 ?_|refine Z59 ?_|refine Z62 ?_|refine Z63 ?_|refine Z64 ?_|refine Z70 ?_|refine Z71 ?_|refine Z72 ?_|refine Z73 ?_
      |refine Z74 ?_|refine Z80 ?_|refine Z82 fun _ => ?_|refine Z84 fun _ => ?_|refine Z85 fun _ => ?_)
    refine st_cond (by rfl) (fun h => ?_) (fun h => ?_)
    · repeat (first
        |refine Z01 ?_|refine Z02 ?_|refine Z03 ?_|refine Z04 ?_|refine Z05 ?_|refine Z06 ?_|refine Z07 ?_|refine Z08 ?_|refine Z09 ?_|refine Z10 ?_|refine Z11 ?_
        |refine Z12 ?_|refine Z13 ?_|refine Z14 ?_|refine Z15 ?_|refine Z16 ?_|refine Z17 ?_|refine Z18 ?_|refine Z19 ?_|refine Z20 ?_|refine Z21 ?_|refine Z29 ?_
        |refine Z30 ?_|refine Z31 ?_|refine Z32 ?_|refine Z36 ?_|refine Z38 ?_|refine Z44 ?_|refine Z45 ?_|refine Z49 ?_|refine Z50 ?_|refine Z51 ?_|refine Z52 ?_
        |refine Z53 ?_|refine Z54 ?_|refine Z58 ?_|refine Z59 ?_|refine Z62 ?_|refine Z63 ?_|refine Z64 ?_|refine Z70 ?_|refine Z71 ?_|refine Z72 ?_|refine Z73 ?_
        |refine Z74 ?_|refine Z80 ?_|refine Z82 fun _ => ?_|refine Z84 fun _ => ?_|refine Z85 fun _ => ?_)
      refine st_cond (by rfl) (fun h0 => ?_) (fun h0 => ?_)
      · obtain ⟨j, rfl⟩ : ∃ j, i = j + 1 := ⟨i - 1, by omega⟩
        have hpj := ok_piece key b (i := j) (j := m) (by omega)
        rw [show 32 * j + 32 = 32 * (j + 1) by omega, show 32 * j = 32 * (j + 1) - 32 by omega] at hpj
        refine st_own_nil 5 ?_
        repeat (first
          
          |(refine st_appendN (xs := []) (ys := Tk key b (j + 1)) (kk := .u8) (by rfl) (by rfl) Find.here (fun w' hw' => by have h := RdW.subN (lo := 32 * (j + 1) - 32) (hi := 32 * (j + 1)) (ys := ok key b m) (k := .u8) (RdW.own (by repeat (first | apply Find.here | apply Find.there))) (by omega) (by omega) w' hw'; rw [hpj] at h; exact h) (by rfl) (by rfl) (by rfl) (by rfl) (by have := Tk_len_le key b (j + 1); simp; omega) (by have := Tk_len_le key b (j + 1); simp; omega) (by rfl) fun _ => ?_)
          |refine Z01 ?_|refine Z02 ?_|refine Z03 ?_|refine Z04 ?_|refine Z05 ?_|refine Z06 ?_|refine Z07 ?_|refine Z08 ?_|refine Z09 ?_|refine Z10 ?_|refine Z11 ?_
          |refine Z12 ?_|refine Z13 ?_|refine Z14 ?_|refine Z15 ?_|refine Z16 ?_|refine Z17 ?_|refine Z18 ?_|refine Z19 ?_|refine Z20 ?_|refine Z21 ?_|refine Z29 ?_
          |refine Z30 ?_|refine Z31 ?_|refine Z32 ?_|refine Z36 ?_|refine Z38 ?_|refine Z44 ?_|refine Z45 ?_|refine Z49 ?_|refine Z50 ?_|refine Z51 ?_|refine Z52 ?_
          |refine Z53 ?_|refine Z54 ?_|refine Z58 ?_|refine Z59 ?_|refine Z62 ?_|refine Z63 ?_|refine Z64 ?_|refine Z70 ?_|refine Z71 ?_|refine Z72 ?_|refine Z73 ?_
          |refine Z74 ?_|refine Z80 ?_|refine Z82 fun _ => ?_|refine Z84 fun _ => ?_|refine Z85 fun _ => ?_)
        rw [List.nil_append]
        obtain ⟨i, hij⟩ : ∃ i, i = j + 1 := ⟨_, rfl⟩
        rw [← hij] at h h0 hi ⊢
        have hll : (Tk key b i ++ b ++ [(i + 1) % 256]).length < 1073741824 := by have := Tk_len_le key b i; simp; omega
        have hlt : Lt 256 (Tk key b i ++ b ++ [(i + 1) % 256]) := Lt.app (Lt.app (Tk_lt key b i) hb) (Lt.one (Nat.mod_lt _ (by decide)))
        have hml := mac_len key (Tk key b i ++ b ++ [(i + 1) % 256])
        have hTl := Tk_len_le key b i
        have hts := Tk_succ key b i
        have hpc := ok_piece key b h
        repeat (first
          
          |(refine st_callV (by rfl) (by rfl) (by rfl) (mac_spec s1 _ key (Tk key b i ++ b ++ [(i + 1) % 256]) hkey hlt (by omega) hll) (fun w hw => ⟨RdW.old hr1 w hw, RdW.own (by repeat (first | apply Find.here | apply Find.there)) w hw⟩) (by rfl) ?_)
          |(refine st_alloc (v := LV .u8 (List.replicate 32 0)) (by rfl) (by rfl) fun _ => ?_)|refine Z01 ?_|refine Z02 ?_|refine Z03 ?_|refine Z04 ?_|refine Z05 ?_
          |refine Z06 ?_|refine Z07 ?_|refine Z08 ?_|refine Z09 ?_|refine Z10 ?_|refine Z11 ?_|refine Z12 ?_|refine Z13 ?_|refine Z14 ?_|refine Z15 ?_|refine Z16 ?_
          |refine Z17 ?_|refine Z18 ?_|refine Z19 ?_|refine Z20 ?_|refine Z21 ?_|refine Z29 ?_|refine Z30 ?_|refine Z31 ?_|refine Z32 ?_|refine Z36 ?_|refine Z38 ?_
          |refine Z44 ?_|refine Z45 ?_|refine Z49 ?_|refine Z50 ?_|refine Z51 ?_|refine Z52 ?_|refine Z53 ?_|refine Z54 ?_|refine Z58 ?_|refine Z59 ?_|refine Z62 ?_
          |refine Z63 ?_|refine Z64 ?_|refine Z70 ?_|refine Z71 ?_|refine Z72 ?_|refine Z73 ?_|refine Z74 ?_|refine Z80 ?_|refine Z82 fun _ => ?_|refine Z84 fun _ => ?_
          |refine Z85 fun _ => ?_)
        refine st_draw1 (by rfl) ?_
        repeat (first
          |refine Zqf (by intro _ _ _;(first
            |refine Z01 ?_|refine Z02 ?_|refine Z15 ?_|refine Z16 ?_|refine Z17 ?_|refine Z18 ?_|refine Z19 ?_|refine Z20 ?_|refine Z21 ?_|refine Z36 ?_|refine Z38 ?_
            |refine Z44 ?_|refine Z45 ?_|refine Z49 ?_|refine Z50 ?_|refine Z54 ?_|refine Z58 ?_|refine Z59 ?_|refine Z62 ?_|refine Z63 ?_|refine Z64 ?_|refine Z70 ?_
            |refine Z71 ?_|refine Z72 ?_|refine Z73 ?_|refine Z74 ?_|refine Z80 ?_);exact Zq) ?_
          |refine Zqp (by intro _ _ _;(first
            |refine Z20 ?_|refine Z21 ?_|refine Z62 ?_);exact Zq) ?_
          |refine Zqe (by intro _ _ _;(first
            |refine Z29 ?_|refine Z30 ?_|refine Z31 ?_|refine Z32 ?_);exact Zqq) ?_
          |refine Zqp (by intro _ _ _;refine st_callV (by rfl) (by rfl) (by rfl) (same_spec _ _ (mac key (Tk key b i ++ b ++ [(i + 1) % 256])) (Tk key b (i + 1)) (by omega)) (fun w hw => ⟨RdW.arrAll (m := 32) (by repeat (first | apply Find.here | apply Find.there)) hml w hw, by have h := RdW.subN (lo := 32 * i) (hi := 32 * i + 32) (ys := ok key b m) (k := .u8) (RdW.own (by repeat (first | apply Find.here | apply Find.there))) (by omega) (by omega) w hw; rw [hpc] at h; exact h⟩) (by rfl) ?_;exact Zq) ?_
          |refine Zqn ?_)
        refine Zq0 ?_ (by kernel_rfl)
        rw [decide_eq_true hts.symm]
        repeat (first
          |refine Z01 ?_|refine Z02 ?_|refine Z03 ?_|refine Z04 ?_|refine Z05 ?_|refine Z06 ?_|refine Z07 ?_|refine Z08 ?_|refine Z09 ?_|refine Z10 ?_|refine Z11 ?_
          |refine Z12 ?_|refine Z13 ?_|refine Z14 ?_|refine Z15 ?_|refine Z16 ?_|refine Z17 ?_|refine Z18 ?_|refine Z19 ?_|refine Z20 ?_|refine Z21 ?_|refine Z29 ?_
          |refine Z30 ?_|refine Z31 ?_|refine Z32 ?_|refine Z36 ?_|refine Z38 ?_|refine Z44 ?_|refine Z45 ?_|refine Z49 ?_|refine Z50 ?_|refine Z51 ?_|refine Z52 ?_
          |refine Z53 ?_|refine Z54 ?_|refine Z58 ?_|refine Z59 ?_|refine Z62 ?_|refine Z63 ?_|refine Z64 ?_|refine Z70 ?_|refine Z71 ?_|refine Z72 ?_|refine Z73 ?_
          |refine Z74 ?_|refine Z80 ?_|refine Z82 fun _ => ?_|refine Z84 fun _ => ?_|refine Z85 fun _ => ?_)
        exact st_round (i + 1) (by omega) (by omega) (by repeat (first | apply subL.nil | refine subL.cons (by rfl) ?_)) (by repeat (first | apply SubW.nil | refine SubW.cons (by repeat (first | apply Find.here | apply Find.there)) ?_))
      · have hi0 : i = 0 := by omega
        refine st_own_nil 5 ?_
        rw [show ([] : List Value) = (Tk key b i).map (N .u8) by rw [hi0, Tk_0]; rfl]
        have hll : (Tk key b i ++ b ++ [(i + 1) % 256]).length < 1073741824 := by have := Tk_len_le key b i; simp; omega
        have hlt : Lt 256 (Tk key b i ++ b ++ [(i + 1) % 256]) := Lt.app (Lt.app (Tk_lt key b i) hb) (Lt.one (Nat.mod_lt _ (by decide)))
        have hml := mac_len key (Tk key b i ++ b ++ [(i + 1) % 256])
        have hTl := Tk_len_le key b i
        have hts := Tk_succ key b i
        have hpc := ok_piece key b h
        repeat (first
          
          |(refine st_callV (by rfl) (by rfl) (by rfl) (mac_spec s1 _ key (Tk key b i ++ b ++ [(i + 1) % 256]) hkey hlt (by omega) hll) (fun w hw => ⟨RdW.old hr1 w hw, RdW.own (by repeat (first | apply Find.here | apply Find.there)) w hw⟩) (by rfl) ?_)
          |(refine st_alloc (v := LV .u8 (List.replicate 32 0)) (by rfl) (by rfl) fun _ => ?_)|refine Z01 ?_|refine Z02 ?_|refine Z03 ?_|refine Z04 ?_|refine Z05 ?_
          |refine Z06 ?_|refine Z07 ?_|refine Z08 ?_|refine Z09 ?_|refine Z10 ?_|refine Z11 ?_|refine Z12 ?_|refine Z13 ?_|refine Z14 ?_|refine Z15 ?_|refine Z16 ?_
          |refine Z17 ?_|refine Z18 ?_|refine Z19 ?_|refine Z20 ?_|refine Z21 ?_|refine Z29 ?_|refine Z30 ?_|refine Z31 ?_|refine Z32 ?_|refine Z36 ?_|refine Z38 ?_
          |refine Z44 ?_|refine Z45 ?_|refine Z49 ?_|refine Z50 ?_|refine Z51 ?_|refine Z52 ?_|refine Z53 ?_|refine Z54 ?_|refine Z58 ?_|refine Z59 ?_|refine Z62 ?_
          |refine Z63 ?_|refine Z64 ?_|refine Z70 ?_|refine Z71 ?_|refine Z72 ?_|refine Z73 ?_|refine Z74 ?_|refine Z80 ?_|refine Z82 fun _ => ?_|refine Z84 fun _ => ?_
          |refine Z85 fun _ => ?_)
        refine st_draw1 (by rfl) ?_
        repeat (first
          |refine Zqf (by intro _ _ _;(first
            |refine Z01 ?_|refine Z02 ?_|refine Z15 ?_|refine Z16 ?_|refine Z17 ?_|refine Z18 ?_|refine Z19 ?_|refine Z20 ?_|refine Z21 ?_|refine Z36 ?_|refine Z38 ?_
            |refine Z44 ?_|refine Z45 ?_|refine Z49 ?_|refine Z50 ?_|refine Z54 ?_|refine Z58 ?_|refine Z59 ?_|refine Z62 ?_|refine Z63 ?_|refine Z64 ?_|refine Z70 ?_
            |refine Z71 ?_|refine Z72 ?_|refine Z73 ?_|refine Z74 ?_|refine Z80 ?_);exact Zq) ?_
          |refine Zqp (by intro _ _ _;(first
            |refine Z20 ?_|refine Z21 ?_|refine Z62 ?_);exact Zq) ?_
          |refine Zqe (by intro _ _ _;(first
            |refine Z29 ?_|refine Z30 ?_|refine Z31 ?_|refine Z32 ?_);exact Zqq) ?_
          |refine Zqp (by intro _ _ _;refine st_callV (by rfl) (by rfl) (by rfl) (same_spec _ _ (mac key (Tk key b i ++ b ++ [(i + 1) % 256])) (Tk key b (i + 1)) (by omega)) (fun w hw => ⟨RdW.arrAll (m := 32) (by repeat (first | apply Find.here | apply Find.there)) hml w hw, by have h := RdW.subN (lo := 32 * i) (hi := 32 * i + 32) (ys := ok key b m) (k := .u8) (RdW.own (by repeat (first | apply Find.here | apply Find.there))) (by omega) (by omega) w hw; rw [hpc] at h; exact h⟩) (by rfl) ?_;exact Zq) ?_
          |refine Zqn ?_)
        refine Zq0 ?_ (by kernel_rfl)
        rw [decide_eq_true hts.symm]
        repeat (first
          |refine Z01 ?_|refine Z02 ?_|refine Z03 ?_|refine Z04 ?_|refine Z05 ?_|refine Z06 ?_|refine Z07 ?_|refine Z08 ?_|refine Z09 ?_|refine Z10 ?_|refine Z11 ?_
          |refine Z12 ?_|refine Z13 ?_|refine Z14 ?_|refine Z15 ?_|refine Z16 ?_|refine Z17 ?_|refine Z18 ?_|refine Z19 ?_|refine Z20 ?_|refine Z21 ?_|refine Z29 ?_
          |refine Z30 ?_|refine Z31 ?_|refine Z32 ?_|refine Z36 ?_|refine Z38 ?_|refine Z44 ?_|refine Z45 ?_|refine Z49 ?_|refine Z50 ?_|refine Z51 ?_|refine Z52 ?_
          |refine Z53 ?_|refine Z54 ?_|refine Z58 ?_|refine Z59 ?_|refine Z62 ?_|refine Z63 ?_|refine Z64 ?_|refine Z70 ?_|refine Z71 ?_|refine Z72 ?_|refine Z73 ?_
          |refine Z74 ?_|refine Z80 ?_|refine Z82 fun _ => ?_|refine Z84 fun _ => ?_|refine Z85 fun _ => ?_)
        exact st_round (i + 1) (by omega) (by omega) (by repeat (first | apply subL.nil | refine subL.cons (by rfl) ?_)) (by repeat (first | apply SubW.nil | refine SubW.cons (by repeat (first | apply Find.here | apply Find.there)) ?_))
    · repeat (first
        |refine Z01 ?_|refine Z02 ?_|refine Z03 ?_|refine Z04 ?_|refine Z05 ?_|refine Z06 ?_|refine Z07 ?_|refine Z08 ?_|refine Z09 ?_|refine Z10 ?_|refine Z11 ?_
        |refine Z12 ?_|refine Z13 ?_|refine Z14 ?_|refine Z15 ?_|refine Z16 ?_|refine Z17 ?_|refine Z18 ?_|refine Z19 ?_|refine Z20 ?_|refine Z21 ?_|refine Z29 ?_
        |refine Z30 ?_|refine Z31 ?_|refine Z32 ?_|refine Z36 ?_|refine Z38 ?_|refine Z44 ?_|refine Z45 ?_|refine Z49 ?_|refine Z50 ?_|refine Z51 ?_|refine Z52 ?_
        |refine Z53 ?_|refine Z54 ?_|refine Z58 ?_|refine Z59 ?_|refine Z62 ?_|refine Z63 ?_|refine Z64 ?_|refine Z70 ?_|refine Z71 ?_|refine Z72 ?_|refine Z73 ?_
        |refine Z74 ?_|refine Z80 ?_|refine Z82 fun _ => ?_|refine Z84 fun _ => ?_|refine Z85 fun _ => ?_)
      refine Ze1 fun _ hw => post_of hw SubW.nil ⟨?_, rfl⟩
      rfl
  · have hneg : n < 0 := by
      have : (0 : Int) ≤ -(n + 1) := by rw [hk]; exact Int.natCast_nonneg k
      omega
    repeat (first
      |(rw [decide_eq_true (p := n < Int.ofNat 0) hneg])|(rw [show -(n + Int.ofNat 1) = Int.ofNat k from hk])|refine Z01 ?_|refine Z02 ?_|refine Z03 ?_|refine Z04 ?_
      |refine Z05 ?_|refine Z06 ?_|refine Z07 ?_|refine Z08 ?_|refine Z09 ?_|refine Z10 ?_|refine Z11 ?_|refine Z12 ?_|refine Z13 ?_|refine Z14 ?_|refine Z15 ?_
      |refine Z16 ?_|refine Z17 ?_|refine Z18 ?_|refine Z19 ?_|refine Z20 ?_|refine Z21 ?_|refine Z29 ?_|refine Z30 ?_|refine Z31 ?_|refine Z32 ?_|refine Z36 ?_
      |refine Z38 ?_|refine Z44 ?_|refine Z45 ?_|refine Z49 ?_|refine Z50 ?_|refine Z51 ?_|refine Z52 ?_|refine Z53 ?_|refine Z54 ?_|refine Z58 ?_|refine Z59 ?_
      |refine Z62 ?_|refine Z63 ?_|refine Z64 ?_|refine Z70 ?_|refine Z71 ?_|refine Z72 ?_|refine Z73 ?_|refine Z74 ?_|refine Z80 ?_|refine Z82 fun _ => ?_
      |refine Z84 fun _ => ?_|refine Z85 fun _ => ?_)
    have hmod : k % 20 < 20 := Nat.mod_lt _ (by decide)
    obtain ⟨m, hm⟩ : ∃ m, m = k % 20 := ⟨_, rfl⟩
    rw [← hm] at hmod
    repeat (first
      |(rw [← hm])|refine Z01 ?_|refine Z02 ?_|refine Z03 ?_|refine Z04 ?_|refine Z05 ?_|refine Z06 ?_|refine Z07 ?_|refine Z08 ?_|refine Z09 ?_|refine Z10 ?_
      |refine Z11 ?_|refine Z12 ?_|refine Z13 ?_|refine Z14 ?_|refine Z15 ?_|refine Z16 ?_|refine Z17 ?_|refine Z18 ?_|refine Z19 ?_|refine Z20 ?_|refine Z21 ?_
      |refine Z29 ?_|refine Z30 ?_|refine Z31 ?_|refine Z32 ?_|refine Z36 ?_|refine Z38 ?_|refine Z44 ?_|refine Z45 ?_|refine Z49 ?_|refine Z50 ?_|refine Z51 ?_
      |refine Z52 ?_|refine Z53 ?_|refine Z54 ?_|refine Z58 ?_|refine Z59 ?_|refine Z62 ?_|refine Z63 ?_|refine Z64 ?_|refine Z70 ?_|refine Z71 ?_|refine Z72 ?_
      |refine Z73 ?_|refine Z74 ?_|refine Z80 ?_|refine Z82 fun _ => ?_|refine Z84 fun _ => ?_|refine Z85 fun _ => ?_)
    have hxl := expand_len key b (32 * m)
    have hol := ok_len key b m
    have hen := expand_ok_n key b m
    repeat (first
      |(refine st_cmp (r := false) (by rfl) (by rfl) (cmpN_f (by first | (simp only [cmpQ]; done) | (simp only [cmpQ]; omega))) (by rfl) ?_)
      |((refine st_call (by rfl) (by rfl) (by rfl) (expand_ok s1 s2 key b (32 * m) hkey hb (by omega) (by omega) (by omega)) .nil (fun w hw => ⟨RdW.old hr1 w hw, RdW.old hr2 w hw⟩) (by rfl) ?_; rintro _ _ ⟨x, rfl, rfl⟩; rw [hen]))
      |refine Z01 ?_|refine Z02 ?_|refine Z03 ?_|refine Z04 ?_|refine Z05 ?_|refine Z06 ?_|refine Z07 ?_|refine Z08 ?_|refine Z09 ?_|refine Z10 ?_|refine Z11 ?_
      |refine Z12 ?_|refine Z13 ?_|refine Z14 ?_|refine Z15 ?_|refine Z16 ?_|refine Z17 ?_|refine Z18 ?_|refine Z19 ?_|refine Z20 ?_|refine Z21 ?_|refine Z29 ?_
      |refine Z30 ?_|refine Z31 ?_|refine Z32 ?_|refine Z36 ?_|refine Z38 ?_|refine Z44 ?_|refine Z45 ?_|refine Z49 ?_|refine Z50 ?_|refine Z51 ?_|refine Z52 ?_
      |refine Z53 ?_|refine Z54 ?_|refine Z58 ?_|refine Z59 ?_|refine Z62 ?_|refine Z63 ?_|refine Z64 ?_|refine Z70 ?_|refine Z71 ?_|refine Z72 ?_|refine Z73 ?_
      |refine Z74 ?_|refine Z80 ?_|refine Z82 fun _ => ?_|refine Z84 fun _ => ?_|refine Z85 fun _ => ?_)
    refine st_loop (ι := Nat) (fun i => i ≤ m) (fun i => [(0, s1), (1, s2), (2, N .i64 m), (7, .bool true), (8, x), (10, N .i64 i)]) (fun i => [.sl x ((ok key b m).map (N .u8)) 5]) (fun i => m - i) 0 (by omega) (by repeat (first | apply subL.nil | refine subL.cons (by rfl) ?_)) (by repeat (first | apply SubW.nil | refine SubW.cons (by repeat (first | apply Find.here | apply Find.there)) ?_)) ?_
    intro i hi
    repeat (first
      |refine Z01 ?_|refine Z02 ?_|refine Z03 ?_|refine Z04 ?_|refine Z05 ?_|refine Z06 ?_|refine Z07 ?_|refine Z08 ?_|refine Z09 ?_|refine Z10 ?_|refine Z11 ?_
      |refine Z12 ?_|refine Z13 ?_|refine Z14 ?_|refine Z15 ?_|refine Z16 ?_|refine Z17 ?_|refine Z18 ?_|refine Z19 ?_|refine Z20 ?_|refine Z21 ?_|refine Z29 ?_
      |refine Z30 ?_|refine Z31 ?_|refine Z32 ?_|refine Z36 ?_|refine Z38 ?_|refine Z44 ?_|refine Z45 ?_|refine Z49 ?_|refine Z50 ?_|refine Z51 ?_|refine Z52 ?_
      |refine Z53 ?_|refine Z54 ?_|refine Z58 ?_|refine Z59 ?_|refine Z62 ?_|refine Z63 ?_|refine Z64 ?_|refine Z70 ?_|refine Z71 ?_|refine Z72 ?_|refine Z73 ?_
      |refine Z74 ?_|refine Z80 ?_|refine Z82 fun _ => ?_|refine Z84 fun _ => ?_|refine Z85 fun _ => ?_)
    refine st_cond (by rfl) (fun h => ?_) (fun h => ?_)
    · repeat (first
        |refine Z01 ?_|refine Z02 ?_|refine Z03 ?_|refine Z04 ?_|refine Z05 ?_|refine Z06 ?_|refine Z07 ?_|refine Z08 ?_|refine Z09 ?_|refine Z10 ?_|refine Z11 ?_
        |refine Z12 ?_|refine Z13 ?_|refine Z14 ?_|refine Z15 ?_|refine Z16 ?_|refine Z17 ?_|refine Z18 ?_|refine Z19 ?_|refine Z20 ?_|refine Z21 ?_|refine Z29 ?_
        |refine Z30 ?_|refine Z31 ?_|refine Z32 ?_|refine Z36 ?_|refine Z38 ?_|refine Z44 ?_|refine Z45 ?_|refine Z49 ?_|refine Z50 ?_|refine Z51 ?_|refine Z52 ?_
        |refine Z53 ?_|refine Z54 ?_|refine Z58 ?_|refine Z59 ?_|refine Z62 ?_|refine Z63 ?_|refine Z64 ?_|refine Z70 ?_|refine Z71 ?_|refine Z72 ?_|refine Z73 ?_
        |refine Z74 ?_|refine Z80 ?_|refine Z82 fun _ => ?_|refine Z84 fun _ => ?_|refine Z85 fun _ => ?_)
      refine st_cond (by rfl) (fun h0 => ?_) (fun h0 => ?_)
      · obtain ⟨j, rfl⟩ : ∃ j, i = j + 1 := ⟨i - 1, by omega⟩
        have hpj := ok_piece key b (i := j) (j := m) (by omega)
        rw [show 32 * j + 32 = 32 * (j + 1) by omega, show 32 * j = 32 * (j + 1) - 32 by omega] at hpj
        refine st_own_nil 5 ?_
        repeat (first
          
          |(refine st_appendN (xs := []) (ys := Tk key b (j + 1)) (kk := .u8) (by rfl) (by rfl) Find.here (fun w' hw' => by have h := RdW.subN (lo := 32 * (j + 1) - 32) (hi := 32 * (j + 1)) (ys := ok key b m) (k := .u8) (RdW.own (by repeat (first | apply Find.here | apply Find.there))) (by omega) (by omega) w' hw'; rw [hpj] at h; exact h) (by rfl) (by rfl) (by rfl) (by rfl) (by have := Tk_len_le key b (j + 1); simp; omega) (by have := Tk_len_le key b (j + 1); simp; omega) (by rfl) fun _ => ?_)
          |refine Z01 ?_|refine Z02 ?_|refine Z03 ?_|refine Z04 ?_|refine Z05 ?_|refine Z06 ?_|refine Z07 ?_|refine Z08 ?_|refine Z09 ?_|refine Z10 ?_|refine Z11 ?_
          |refine Z12 ?_|refine Z13 ?_|refine Z14 ?_|refine Z15 ?_|refine Z16 ?_|refine Z17 ?_|refine Z18 ?_|refine Z19 ?_|refine Z20 ?_|refine Z21 ?_|refine Z29 ?_
          |refine Z30 ?_|refine Z31 ?_|refine Z32 ?_|refine Z36 ?_|refine Z38 ?_|refine Z44 ?_|refine Z45 ?_|refine Z49 ?_|refine Z50 ?_|refine Z51 ?_|refine Z52 ?_
          |refine Z53 ?_|refine Z54 ?_|refine Z58 ?_|refine Z59 ?_|refine Z62 ?_|refine Z63 ?_|refine Z64 ?_|refine Z70 ?_|refine Z71 ?_|refine Z72 ?_|refine Z73 ?_
          |refine Z74 ?_|refine Z80 ?_|refine Z82 fun _ => ?_|refine Z84 fun _ => ?_|refine Z85 fun _ => ?_)
        rw [List.nil_append]
        obtain ⟨i, hij⟩ : ∃ i, i = j + 1 := ⟨_, rfl⟩
        rw [← hij] at h h0 hi ⊢
        have hll : (Tk key b i ++ b ++ [(i + 1) % 256]).length < 1073741824 := by have := Tk_len_le key b i; simp; omega
        have hlt : Lt 256 (Tk key b i ++ b ++ [(i + 1) % 256]) := Lt.app (Lt.app (Tk_lt key b i) hb) (Lt.one (Nat.mod_lt _ (by decide)))
        have hml := mac_len key (Tk key b i ++ b ++ [(i + 1) % 256])
        have hTl := Tk_len_le key b i
        have hts := Tk_succ key b i
        have hpc := ok_piece key b h
        repeat (first
          
          |(refine st_callV (by rfl) (by rfl) (by rfl) (mac_spec s1 _ key (Tk key b i ++ b ++ [(i + 1) % 256]) hkey hlt (by omega) hll) (fun w hw => ⟨RdW.old hr1 w hw, RdW.own (by repeat (first | apply Find.here | apply Find.there)) w hw⟩) (by rfl) ?_)
          |(refine st_alloc (v := LV .u8 (List.replicate 32 0)) (by rfl) (by rfl) fun _ => ?_)|refine Z01 ?_|refine Z02 ?_|refine Z03 ?_|refine Z04 ?_|refine Z05 ?_
          |refine Z06 ?_|refine Z07 ?_|refine Z08 ?_|refine Z09 ?_|refine Z10 ?_|refine Z11 ?_|refine Z12 ?_|refine Z13 ?_|refine Z14 ?_|refine Z15 ?_|refine Z16 ?_
          |refine Z17 ?_|refine Z18 ?_|refine Z19 ?_|refine Z20 ?_|refine Z21 ?_|refine Z29 ?_|refine Z30 ?_|refine Z31 ?_|refine Z32 ?_|refine Z36 ?_|refine Z38 ?_
          |refine Z44 ?_|refine Z45 ?_|refine Z49 ?_|refine Z50 ?_|refine Z51 ?_|refine Z52 ?_|refine Z53 ?_|refine Z54 ?_|refine Z58 ?_|refine Z59 ?_|refine Z62 ?_
          |refine Z63 ?_|refine Z64 ?_|refine Z70 ?_|refine Z71 ?_|refine Z72 ?_|refine Z73 ?_|refine Z74 ?_|refine Z80 ?_|refine Z82 fun _ => ?_|refine Z84 fun _ => ?_
          |refine Z85 fun _ => ?_)
        refine st_draw1 (by rfl) ?_
        repeat (first
          |refine Zqf (by intro _ _ _;(first
            |refine Z01 ?_|refine Z02 ?_|refine Z15 ?_|refine Z16 ?_|refine Z17 ?_|refine Z18 ?_|refine Z19 ?_|refine Z20 ?_|refine Z21 ?_|refine Z36 ?_|refine Z38 ?_
            |refine Z44 ?_|refine Z45 ?_|refine Z49 ?_|refine Z50 ?_|refine Z54 ?_|refine Z58 ?_|refine Z59 ?_|refine Z62 ?_|refine Z63 ?_|refine Z64 ?_|refine Z70 ?_
            |refine Z71 ?_|refine Z72 ?_|refine Z73 ?_|refine Z74 ?_|refine Z80 ?_);exact Zq) ?_
          |refine Zqp (by intro _ _ _;(first
            |refine Z20 ?_|refine Z21 ?_|refine Z62 ?_);exact Zq) ?_
          |refine Zqe (by intro _ _ _;(first
            |refine Z29 ?_|refine Z30 ?_|refine Z31 ?_|refine Z32 ?_);exact Zqq) ?_
          |refine Zqp (by intro _ _ _;refine st_callV (by rfl) (by rfl) (by rfl) (same_spec _ _ (mac key (Tk key b i ++ b ++ [(i + 1) % 256])) (Tk key b (i + 1)) (by omega)) (fun w hw => ⟨RdW.arrAll (m := 32) (by repeat (first | apply Find.here | apply Find.there)) hml w hw, by have h := RdW.subN (lo := 32 * i) (hi := 32 * i + 32) (ys := ok key b m) (k := .u8) (RdW.own (by repeat (first | apply Find.here | apply Find.there))) (by omega) (by omega) w hw; rw [hpc] at h; exact h⟩) (by rfl) ?_;exact Zq) ?_
          |refine Zqn ?_)
        refine Zq0 ?_ (by kernel_rfl)
        rw [decide_eq_true hts.symm]
        repeat (first
          |refine Z01 ?_|refine Z02 ?_|refine Z03 ?_|refine Z04 ?_|refine Z05 ?_|refine Z06 ?_|refine Z07 ?_|refine Z08 ?_|refine Z09 ?_|refine Z10 ?_|refine Z11 ?_
          |refine Z12 ?_|refine Z13 ?_|refine Z14 ?_|refine Z15 ?_|refine Z16 ?_|refine Z17 ?_|refine Z18 ?_|refine Z19 ?_|refine Z20 ?_|refine Z21 ?_|refine Z29 ?_
          |refine Z30 ?_|refine Z31 ?_|refine Z32 ?_|refine Z36 ?_|refine Z38 ?_|refine Z44 ?_|refine Z45 ?_|refine Z49 ?_|refine Z50 ?_|refine Z51 ?_|refine Z52 ?_
          |refine Z53 ?_|refine Z54 ?_|refine Z58 ?_|refine Z59 ?_|refine Z62 ?_|refine Z63 ?_|refine Z64 ?_|refine Z70 ?_|refine Z71 ?_|refine Z72 ?_|refine Z73 ?_
          |refine Z74 ?_|refine Z80 ?_|refine Z82 fun _ => ?_|refine Z84 fun _ => ?_|refine Z85 fun _ => ?_)
        exact st_round (i + 1) (by omega) (by omega) (by repeat (first | apply subL.nil | refine subL.cons (by rfl) ?_)) (by repeat (first | apply SubW.nil | refine SubW.cons (by repeat (first | apply Find.here | apply Find.there)) ?_))
      · have hi0 : i = 0 := by omega
        refine st_own_nil 5 ?_
        rw [show ([] : List Value) = (Tk key b i).map (N .u8) by rw [hi0, Tk_0]; rfl]
        have hll : (Tk key b i ++ b ++ [(i + 1) % 256]).length < 1073741824 := by have := Tk_len_le key b i; simp; omega
        have hlt : Lt 256 (Tk key b i ++ b ++ [(i + 1) % 256]) := Lt.app (Lt.app (Tk_lt key b i) hb) (Lt.one (Nat.mod_lt _ (by decide)))
        have hml := mac_len key (Tk key b i ++ b ++ [(i + 1) % 256])
        have hTl := Tk_len_le key b i
        have hts := Tk_succ key b i
        have hpc := ok_piece key b h
        repeat (first
          
          |(refine st_callV (by rfl) (by rfl) (by rfl) (mac_spec s1 _ key (Tk key b i ++ b ++ [(i + 1) % 256]) hkey hlt (by omega) hll) (fun w hw => ⟨RdW.old hr1 w hw, RdW.own (by repeat (first | apply Find.here | apply Find.there)) w hw⟩) (by rfl) ?_)
          |(refine st_alloc (v := LV .u8 (List.replicate 32 0)) (by rfl) (by rfl) fun _ => ?_)|refine Z01 ?_|refine Z02 ?_|refine Z03 ?_|refine Z04 ?_|refine Z05 ?_
          |refine Z06 ?_|refine Z07 ?_|refine Z08 ?_|refine Z09 ?_|refine Z10 ?_|refine Z11 ?_|refine Z12 ?_|refine Z13 ?_|refine Z14 ?_|refine Z15 ?_|refine Z16 ?_
          |refine Z17 ?_|refine Z18 ?_|refine Z19 ?_|refine Z20 ?_|refine Z21 ?_|refine Z29 ?_|refine Z30 ?_|refine Z31 ?_|refine Z32 ?_|refine Z36 ?_|refine Z38 ?_
          |refine Z44 ?_|refine Z45 ?_|refine Z49 ?_|refine Z50 ?_|refine Z51 ?_|refine Z52 ?_|refine Z53 ?_|refine Z54 ?_|refine Z58 ?_|refine Z59 ?_|refine Z62 ?_
          |refine Z63 ?_|refine Z64 ?_|refine Z70 ?_|refine Z71 ?_|refine Z72 ?_|refine Z73 ?_|refine Z74 ?_|refine Z80 ?_|refine Z82 fun _ => ?_|refine Z84 fun _ => ?_
          |refine Z85 fun _ => ?_)
        refine st_draw1 (by rfl) ?_
        repeat (first
          |refine Zqf (by intro _ _ _;(first
            |refine Z01 ?_|refine Z02 ?_|refine Z15 ?_|refine Z16 ?_|refine Z17 ?_|refine Z18 ?_|refine Z19 ?_|refine Z20 ?_|refine Z21 ?_|refine Z36 ?_|refine Z38 ?_
            |refine Z44 ?_|refine Z45 ?_|refine Z49 ?_|refine Z50 ?_|refine Z54 ?_|refine Z58 ?_|refine Z59 ?_|refine Z62 ?_|refine Z63 ?_|refine Z64 ?_|refine Z70 ?_
            |refine Z71 ?_|refine Z72 ?_|refine Z73 ?_|refine Z74 ?_|refine Z80 ?_);exact Zq) ?_
          |refine Zqp (by intro _ _ _;(first
            |refine Z20 ?_|refine Z21 ?_|refine Z62 ?_);exact Zq) ?_
          |refine Zqe (by intro _ _ _;(first
            |refine Z29 ?_|refine Z30 ?_|refine Z31 ?_|refine Z32 ?_);exact Zqq) ?_
          |refine Zqp (by intro _ _ _;refine st_callV (by rfl) (by rfl) (by rfl) (same_spec _ _ (mac key (Tk key b i ++ b ++ [(i + 1) % 256])) (Tk key b (i + 1)) (by omega)) (fun w hw => ⟨RdW.arrAll (m := 32) (by repeat (first | apply Find.here | apply Find.there)) hml w hw, by have h := RdW.subN (lo := 32 * i) (hi := 32 * i + 32) (ys := ok key b m) (k := .u8) (RdW.own (by repeat (first | apply Find.here | apply Find.there))) (by omega) (by omega) w hw; rw [hpc] at h; exact h⟩) (by rfl) ?_;exact Zq) ?_
          |refine Zqn ?_)
        refine Zq0 ?_ (by kernel_rfl)
        rw [decide_eq_true hts.symm]
        repeat (first
          |refine Z01 ?_|refine Z02 ?_|refine Z03 ?_|refine Z04 ?_|refine Z05 ?_|refine Z06 ?_|refine Z07 ?_|refine Z08 ?_|refine Z09 ?_|refine Z10 ?_|refine Z11 ?_
          |refine Z12 ?_|refine Z13 ?_|refine Z14 ?_|refine Z15 ?_|refine Z16 ?_|refine Z17 ?_|refine Z18 ?_|refine Z19 ?_|refine Z20 ?_|refine Z21 ?_|refine Z29 ?_
          |refine Z30 ?_|refine Z31 ?_|refine Z32 ?_|refine Z36 ?_|refine Z38 ?_|refine Z44 ?_|refine Z45 ?_|refine Z49 ?_|refine Z50 ?_|refine Z51 ?_|refine Z52 ?_
          |refine Z53 ?_|refine Z54 ?_|refine Z58 ?_|refine Z59 ?_|refine Z62 ?_|refine Z63 ?_|refine Z64 ?_|refine Z70 ?_|refine Z71 ?_|refine Z72 ?_|refine Z73 ?_
          |refine Z74 ?_|refine Z80 ?_|refine Z82 fun _ => ?_|refine Z84 fun _ => ?_|refine Z85 fun _ => ?_)
        exact st_round (i + 1) (by omega) (by omega) (by repeat (first | apply subL.nil | refine subL.cons (by rfl) ?_)) (by repeat (first | apply SubW.nil | refine SubW.cons (by repeat (first | apply Find.here | apply Find.there)) ?_))
    · repeat (first
        |refine Z01 ?_|refine Z02 ?_|refine Z03 ?_|refine Z04 ?_|refine Z05 ?_|refine Z06 ?_|refine Z07 ?_|refine Z08 ?_|refine Z09 ?_|refine Z10 ?_|refine Z11 ?_
        |refine Z12 ?_|refine Z13 ?_|refine Z14 ?_|refine Z15 ?_|refine Z16 ?_|refine Z17 ?_|refine Z18 ?_|refine Z19 ?_|refine Z20 ?_|refine Z21 ?_|refine Z29 ?_
        |refine Z30 ?_|refine Z31 ?_|refine Z32 ?_|refine Z36 ?_|refine Z38 ?_|refine Z44 ?_|refine Z45 ?_|refine Z49 ?_|refine Z50 ?_|refine Z51 ?_|refine Z52 ?_
        |refine Z53 ?_|refine Z54 ?_|refine Z58 ?_|refine Z59 ?_|refine Z62 ?_|refine Z63 ?_|refine Z64 ?_|refine Z70 ?_|refine Z71 ?_|refine Z72 ?_|refine Z73 ?_
        |refine Z74 ?_|refine Z80 ?_|refine Z82 fun _ => ?_|refine Z84 fun _ => ?_|refine Z85 fun _ => ?_)
      refine Ze1 fun _ hw => post_of hw SubW.nil ⟨?_, rfl⟩
      rfl
end Go.Proofs.Ytefhbmhanajfoaa.L
