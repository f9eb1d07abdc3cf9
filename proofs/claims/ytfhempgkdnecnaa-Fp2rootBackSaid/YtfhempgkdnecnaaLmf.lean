/- Divisions of two words by one: the walk. Conditions: as each statement says. -/
import Derived.Test.YtfhempgkdnecnaaAuto
import Derived.Test.YtfhempgkdnecnaaPerm
import Derived.Test.YtfhempgkdnecnaaMore
import Derived.Test.YtfhempgkdnecnaaProg
import Derived.Test.YtfhempgkdnecnaaNum
import Derived.Test.YtfhempgkdnecnaaLmb
import Derived.Test.YtfhempgkdnecnaaLmd
import Derived.Test.YtfhempgkdnecnaaScope
import Derived.Test.YtfhempgkdnecnaaJoin
import Derived.Test.YtfhempgkdnecnaaLma
import Derived.Test.YtfhempgkdnecnaaLme
namespace Go.Proofs.Ytfhempgkdnecnaa.L
open Go Go.Proofs
set_option maxRecDepth 100000
attribute [local irreducible] Code.wp wpList Af bodyPost L.Go
open Num

set_option maxHeartbeats 4000000 in
theorem div64_spec (hi lo y : Nat) (hy : hi < y) (hlo : lo < 18446744073709551616) (hyW : y < 18446744073709551616) :
    Spec Try.prog 140 [N .u64 hi, N .u64 lo, N .u64 y] NoPre [] (IsV (.tuple [N .u64 ((hi * 18446744073709551616 + lo) / y), N .u64 ((hi * 18446744073709551616 + lo) % y)].toArray)) := by
  refine mk_spec Try.func140 rfl rfl rfl fun w _ => ?_
  repeat (first
    |(refine st_cmp (r := false) (by rfl) (by rfl) (cmpN_f (by first | (simp only [cmpQ]; done) | (simp only [cmpQ]; omega))) (by rfl) ?_)|refine Z01 ?_|refine Z02 ?_
    |refine Z03 ?_|refine Z04 ?_|refine Z05 ?_|refine Z06 ?_|refine Z07 ?_|refine Z08 ?_|refine Z09 ?_|refine Z10 ?_|refine Z11 ?_|refine Z12 ?_|refine Z13 ?_
    |refine Z14 ?_|refine Z17 ?_|refine Z18 ?_|refine Z24 ?_|refine Z25 ?_|refine Z26 ?_|refine Z27 ?_|refine Z28 ?_|refine Z33 ?_|refine Z34 ?_|refine Z35 ?_
    |refine Z37 ?_|refine Z38 ?_|refine Z40 ?_|refine Z41 ?_|refine Z42 ?_|refine Z43 ?_|refine Z44 ?_|refine Z45 ?_|refine Z49 ?_|refine Z50 ?_|refine Z51 ?_
    |refine Z52 ?_|refine Z53 ?_|refine Z67 ?_|refine Z74 ?_|refine Z80 ?_)
  refine st_cond (by rfl) (fun h0 => ?_) (fun h0 => ?_)
  · subst h0
    repeat (first
      |refine Z01 ?_|refine Z02 ?_|refine Z03 ?_|refine Z04 ?_|refine Z05 ?_|refine Z06 ?_|refine Z07 ?_|refine Z08 ?_|refine Z09 ?_|refine Z10 ?_|refine Z11 ?_
      |refine Z12 ?_|refine Z13 ?_|refine Z14 ?_|refine Z17 ?_|refine Z18 ?_|refine Z24 ?_|refine Z25 ?_|refine Z26 ?_|refine Z27 ?_|refine Z28 ?_|refine Z33 ?_
      |refine Z34 ?_|refine Z35 ?_|refine Z37 ?_|refine Z38 ?_|refine Z40 ?_|refine Z41 ?_|refine Z42 ?_|refine Z43 ?_|refine Z44 ?_|refine Z45 ?_|refine Z49 ?_
      |refine Z50 ?_|refine Z51 ?_|refine Z52 ?_|refine Z53 ?_|refine Z67 ?_|refine Z74 ?_|refine Z80 ?_)
    refine st_draw1 (by rfl) ?_
    repeat (first
      |refine Zqf (by intro _ _ _;(first
        |(refine st_udiv (by rfl) (by rfl) (by rfl) (by omega) (by omega) (by rfl) ?_)|(refine st_umod (by rfl) (by rfl) (by omega) (by rfl) ?_)|refine Z01 ?_
        |refine Z02 ?_|refine Z17 ?_|refine Z18 ?_|refine Z33 ?_|refine Z34 ?_|refine Z35 ?_|refine Z37 ?_|refine Z38 ?_|refine Z40 ?_|refine Z41 ?_|refine Z42 ?_
        |refine Z43 ?_|refine Z44 ?_|refine Z45 ?_|refine Z49 ?_|refine Z50 ?_|refine Z74 ?_|refine Z80 ?_);exact Zq) ?_
      |refine Zqp (by intro _ _ _;(first
        |refine Z24 ?_|refine Z25 ?_|refine Z26 ?_|refine Z27 ?_|refine Z28 ?_|refine Z67 ?_);exact Zq) ?_
      |refine Zqn ?_)
    refine Zq0 ?_ (by kernel_rfl)
    repeat (first
      |refine Z01 ?_|refine Z02 ?_|refine Z03 ?_|refine Z04 ?_|refine Z05 ?_|refine Z06 ?_|refine Z07 ?_|refine Z08 ?_|refine Z09 ?_|refine Z10 ?_|refine Z11 ?_
      |refine Z12 ?_|refine Z13 ?_|refine Z14 ?_|refine Z17 ?_|refine Z18 ?_|refine Z24 ?_|refine Z25 ?_|refine Z26 ?_|refine Z27 ?_|refine Z28 ?_|refine Z33 ?_
      |refine Z34 ?_|refine Z35 ?_|refine Z37 ?_|refine Z38 ?_|refine Z40 ?_|refine Z41 ?_|refine Z42 ?_|refine Z43 ?_|refine Z44 ?_|refine Z45 ?_|refine Z49 ?_
      |refine Z50 ?_|refine Z51 ?_|refine Z52 ?_|refine Z53 ?_|refine Z67 ?_|refine Z74 ?_|refine Z80 ?_)
    refine Ze2 fun _ hw => post_of hw SubW.nil ⟨?_, rfl⟩
    rw [Nat.zero_mul, Nat.zero_add]
  obtain ⟨hb1, hb2, hb3⟩ := bl_spec y (by omega)
  have hb4 := bl_le y 64 hyW
  obtain ⟨s, hs⟩ : ∃ s, s = 64 - bl y := ⟨_, rfl⟩
  have hsl : s ≤ 63 := by omega
  obtain ⟨Y, hYs⟩ : ∃ Y, Y = y * 2 ^ s := ⟨_, rfl⟩
  have hYW : Y < 18446744073709551616 := by
    have := Nat.mul_lt_mul_of_pos_right hb1 (Nat.two_pow_pos s)
    rw [← Nat.pow_add, show bl y + s = 64 by omega] at this
    rw [hYs]; exact this
  have hYb : 9223372036854775808 ≤ Y := by
    have := Nat.mul_le_mul_right (2 ^ s) hb2
    rw [← Nat.pow_add, show bl y - 1 + s = 63 by omega] at this
    rw [hYs]; exact this
  have hYp : 0 < Y := by omega
  obtain ⟨v1, hv1⟩ : ∃ v1, v1 = Y / 4294967296 := ⟨_, rfl⟩
  obtain ⟨v0, hv0⟩ : ∃ v0, v0 = Y % 4294967296 := ⟨_, rfl⟩
  have hYv : Y = v1 * 4294967296 + v0 := by omega
  have hv1p : 0 < v1 := by omega
  have hv1l : v1 < 4294967296 := by omega
  have hv0l : v0 < 4294967296 := by omega
  obtain ⟨u, hu⟩ : ∃ u, u = hi * 2 ^ s + lo / 2 ^ (64 - s) := ⟨_, rfl⟩
  obtain ⟨u10, hu10'⟩ : ∃ u10, u10 = lo * 2 ^ s % 18446744073709551616 := ⟨_, rfl⟩
  obtain ⟨hN, huY⟩ := norm_div (s := s) hy hlo (by omega)
  rw [← hu, ← hu10'] at hN
  rw [← hu, ← hYs] at huY
  obtain ⟨u1, hu1'⟩ : ∃ u1, u1 = u10 / 4294967296 := ⟨_, rfl⟩
  obtain ⟨u0, hu0'⟩ : ∃ u0, u0 = u10 % 4294967296 := ⟨_, rfl⟩
  have hu10l : u10 < 18446744073709551616 := by rw [hu10']; exact Nat.mod_lt _ (by decide)
  have hu1 : u1 < 4294967296 := by omega
  have hu0 : u0 < 4294967296 := by omega
  have hu10 : u1 * 4294967296 + u0 = u10 := by rw [hu1', hu0', Nat.mul_comm]; exact Nat.div_add_mod _ _
  have e1 : (64 - bl y) % 18446744073709551616 = s := by omega
  have e2 : y <<< s % 18446744073709551616 = Y := by rw [Nat.shiftLeft_eq, ← hYs, Nat.mod_eq_of_lt hYW]
  have e3 : Y >>> 32 = v1 := by rw [shr32, hv1]
  have e4 : Y % 18446744073709551616 &&& 4294967295 % 18446744073709551616 = v0 := by rw [and32, hv0]
  have hlq : lo / 2 ^ (64 - s) < 2 ^ s := by
    rw [Nat.div_lt_iff_lt_mul (Nat.two_pow_pos _), ← Nat.pow_add, show s + (64 - s) = 64 by omega]; exact hlo
  have hhs : hi * 2 ^ s < 18446744073709551616 := Nat.lt_of_le_of_lt (by rw [hu]; exact Nat.le_add_right _ _) (Nat.lt_trans huY hYW)
  have e5 : (64 + (18446744073709551616 - s % 18446744073709551616)) % 18446744073709551616 = 64 - s := by omega
  have e6 : hi <<< s % 18446744073709551616 % 18446744073709551616 ||| lo >>> (64 - s) % 18446744073709551616 = u := by
    rw [Nat.shiftLeft_eq, Nat.shiftRight_eq_div_pow, Nat.mod_mod, Nat.mod_eq_of_lt hhs, Nat.mod_eq_of_lt (a := lo / 2 ^ (64 - s)) (Nat.lt_of_le_of_lt (Nat.div_le_self _ _) hlo), or_plus hlq, hu]
  have e7 : lo <<< s % 18446744073709551616 = u10 := by rw [Nat.shiftLeft_eq, hu10']
  have e8 : u10 >>> 32 = u1 := by rw [shr32, hu1']
  have e9 : u10 % 18446744073709551616 &&& 4294967295 % 18446744073709551616 = u0 := by rw [and32, hu0']
  have hwr := wrap_sub1 (a := u) (c := u / v1 * v1) (d := u % v1) (div_rem_eq _ _) (Nat.lt_trans (Nat.mod_lt _ hv1p) (by omega))
  obtain ⟨q1, hq1⟩ : ∃ q1, q1 = (u * 4294967296 + u1) / Y := ⟨_, rfl⟩
  repeat (first
    |(refine st_callV (by rfl) (by rfl) (by rfl) (lz64_spec y hyW) (fun _ _ => trivial) (by rfl) ?_)
    |(refine st_shr (by rfl) (by rfl) (show 64 - s ≤ 64 by omega) (by rfl) ?_)|(rw [e1])|(rw [e2])|(rw [e3])|(rw [e4])|(rw [e5])|(rw [e6])|(rw [e7])|(rw [e8])|(rw [e9])
    |(refine st_udiv (by rfl) (by rfl) (by rfl) hv1p (by omega) (by rfl) ?_)|(rw [hwr])
    |(refine st_block_join (ι := Unit) (fun _ => True) (fun _ => [(2, N .u64 Y), (8, N .u64 s), (9, N .u64 v1), (10, N .u64 v0), (11, N .u64 u), (13, N .u64 u1), (14, N .u64 u0), (15, N .u64 q1)]) (fun _ => []) ?_ ?_)
    |refine Z01 ?_|refine Z02 ?_|refine Z03 ?_|refine Z04 ?_|refine Z05 ?_|refine Z06 ?_|refine Z07 ?_|refine Z08 ?_|refine Z09 ?_|refine Z10 ?_|refine Z11 ?_
    |refine Z12 ?_|refine Z13 ?_|refine Z14 ?_|refine Z17 ?_|refine Z18 ?_|refine Z24 ?_|refine Z25 ?_|refine Z26 ?_|refine Z27 ?_|refine Z28 ?_|refine Z33 ?_
    |refine Z34 ?_|refine Z35 ?_|refine Z37 ?_|refine Z38 ?_|refine Z40 ?_|refine Z41 ?_|refine Z42 ?_|refine Z43 ?_|refine Z44 ?_|refine Z45 ?_|refine Z49 ?_
    |refine Z50 ?_|refine Z51 ?_|refine Z52 ?_|refine Z53 ?_|refine Z67 ?_|refine Z74 ?_|refine Z80 ?_)
  · clear e1 e2 e3 e4 e5 e6 e7 e8 e9 hwr hN hu10' hu1' hu0' hlq hhs hu hs hb1 hb2 hb3 hb4 hYs hu10 hu10l
    refine st_loop (ι := Nat × Nat) (fun p => p.1 * v1 + p.2 = u ∧ p.2 < 4294967296 ∧ (u * 4294967296 + u1) / Y ≤ p.1)
      (fun p => [(2, N .u64 Y), (8, N .u64 s), (9, N .u64 v1), (10, N .u64 v0), (11, N .u64 u), (13, N .u64 u1), (14, N .u64 u0), (15, N .u64 p.1), (16, N .u64 p.2)]) (fun p => []) (fun p => p.1) (u / v1, u % v1)
      ⟨(div_rem_eq _ _).symm, by simp only; have := Nat.mod_lt u hv1p; omega, by simp only; rw [hYv]; exact qhat_ge hv1p hu1⟩ (by repeat (first | apply subL.nil | refine subL.cons (by rfl) ?_)) (by repeat (first | apply SubW.nil | refine SubW.cons (by repeat (first | apply Find.here | apply Find.there)) ?_)) ?_
    rintro ⟨q, r⟩ ⟨hqr, hr, hqq⟩
    simp only at hqr hr hqq ⊢
    have hqle : q ≤ u := Nat.le_trans (Nat.le_mul_of_pos_right q hv1p) (by omega)
    by_cases hbig : 4294967296 ≤ q
    · have hlt := qhat_step (v0 := v0) (u1 := u1) (by rw [← hYv]; exact huY) hqr hu1 (.inl hbig)
      rw [← hYv] at hlt
      have hqpos : 0 < q := Nat.lt_of_le_of_lt (Nat.zero_le _) hlt
      have hdq := wrap_dec (q := q) hqpos (by omega)
      have hrr : (r + v1) % 18446744073709551616 = r + v1 := Nat.mod_eq_of_lt (by omega)
      have hqr' : (q - 1) * v1 + (r + v1) = u := by
        obtain ⟨k, rfl⟩ : ∃ k, q = k + 1 := ⟨q - 1, by omega⟩
        rw [Nat.add_mul, Nat.one_mul] at hqr
        simp only [Nat.add_sub_cancel]; omega
      repeat (first
        |(refine st_cmp (r := true) (by rfl) (by rfl) (cmpN_t (by first | (simp only [cmpP]; done) | (simp only [cmpP]; omega))) (by rfl) ?_)
        |(refine st_cmp (r := false) (by rfl) (by rfl) (cmpN_f (by first | (simp only [cmpQ]; done) | (simp only [cmpQ]; omega))) (by rfl) ?_)|(rw [hdq])|(rw [hrr])
        |(rw [hp2])|(rw [hp3])|refine Z01 ?_|refine Z02 ?_|refine Z03 ?_|refine Z04 ?_|refine Z05 ?_|refine Z06 ?_|refine Z07 ?_|refine Z08 ?_|refine Z09 ?_|refine Z10 ?_
        |refine Z11 ?_|refine Z12 ?_|refine Z13 ?_|refine Z14 ?_|refine Z17 ?_|refine Z18 ?_|refine Z24 ?_|refine Z25 ?_|refine Z26 ?_|refine Z27 ?_|refine Z28 ?_
        |refine Z33 ?_|refine Z34 ?_|refine Z35 ?_|refine Z37 ?_|refine Z38 ?_|refine Z40 ?_|refine Z41 ?_|refine Z42 ?_|refine Z43 ?_|refine Z44 ?_|refine Z45 ?_
        |refine Z49 ?_|refine Z50 ?_|refine Z51 ?_|refine Z52 ?_|refine Z53 ?_|refine Z67 ?_|refine Z74 ?_|refine Z80 ?_)
      refine st_cond (by rfl) (fun hbr => ?_) (fun hbr => ?_)
      · have hend : q - 1 = q1 := by rw [hq1, hYv]; rw [hYv] at hlt; exact qhat_stop (by omega) hqr' (qhat_break (by omega) (by rw [← hYv]; exact huY) hqr' hbr) (by omega)
        repeat (first
          |refine Z01 ?_|refine Z02 ?_|refine Z03 ?_|refine Z04 ?_|refine Z05 ?_|refine Z06 ?_|refine Z07 ?_|refine Z08 ?_|refine Z09 ?_|refine Z10 ?_|refine Z11 ?_
          |refine Z12 ?_|refine Z13 ?_|refine Z14 ?_|refine Z17 ?_|refine Z18 ?_|refine Z24 ?_|refine Z25 ?_|refine Z26 ?_|refine Z27 ?_|refine Z28 ?_|refine Z33 ?_
          |refine Z34 ?_|refine Z35 ?_|refine Z37 ?_|refine Z38 ?_|refine Z40 ?_|refine Z41 ?_|refine Z42 ?_|refine Z43 ?_|refine Z44 ?_|refine Z45 ?_|refine Z49 ?_
          |refine Z50 ?_|refine Z51 ?_|refine Z52 ?_|refine Z53 ?_|refine Z67 ?_|refine Z74 ?_|refine Z80 ?_)
        rw [hend]
        exact st_met () trivial (by repeat (first | apply subL.nil | refine subL.cons (by rfl) ?_)) (by repeat (first | apply SubW.nil | refine SubW.cons (by repeat (first | apply Find.here | apply Find.there)) ?_))
      · repeat (first
          |refine Z01 ?_|refine Z02 ?_|refine Z03 ?_|refine Z04 ?_|refine Z05 ?_|refine Z06 ?_|refine Z07 ?_|refine Z08 ?_|refine Z09 ?_|refine Z10 ?_|refine Z11 ?_
          |refine Z12 ?_|refine Z13 ?_|refine Z14 ?_|refine Z17 ?_|refine Z18 ?_|refine Z24 ?_|refine Z25 ?_|refine Z26 ?_|refine Z27 ?_|refine Z28 ?_|refine Z33 ?_
          |refine Z34 ?_|refine Z35 ?_|refine Z37 ?_|refine Z38 ?_|refine Z40 ?_|refine Z41 ?_|refine Z42 ?_|refine Z43 ?_|refine Z44 ?_|refine Z45 ?_|refine Z49 ?_
          |refine Z50 ?_|refine Z51 ?_|refine Z52 ?_|refine Z53 ?_|refine Z67 ?_|refine Z74 ?_|refine Z80 ?_)
        exact st_round (q - 1, r + v1) ⟨hqr', by simp only; omega, by simp only; omega⟩ (by simp only; omega) (by repeat (first | apply subL.nil | refine subL.cons (by rfl) ?_)) (by repeat (first | apply SubW.nil | refine SubW.cons (by repeat (first | apply Find.here | apply Find.there)) ?_))
    · have hp1 : q * v0 < 18446744073709551616 := Nat.lt_of_le_of_lt (Nat.mul_le_mul (show q ≤ 4294967295 by omega) (show v0 ≤ 4294967295 by omega)) (by decide)
      have hp2 : q * v0 % 18446744073709551616 = q * v0 := Nat.mod_eq_of_lt hp1
      have hp3 : (4294967296 * r % 18446744073709551616 + u1) % 18446744073709551616 = r * 4294967296 + u1 := by omega
      by_cases hc : r * 4294967296 + u1 < q * v0
      · have hlt := qhat_step (v0 := v0) (u1 := u1) (by rw [← hYv]; exact huY) hqr hu1 (.inr hc)
        rw [← hYv] at hlt
        have hqpos : 0 < q := Nat.lt_of_le_of_lt (Nat.zero_le _) hlt
        have hdq := wrap_dec (q := q) hqpos (by omega)
        have hrr : (r + v1) % 18446744073709551616 = r + v1 := Nat.mod_eq_of_lt (by omega)
        have hqr' : (q - 1) * v1 + (r + v1) = u := by
          obtain ⟨k, rfl⟩ : ∃ k, q = k + 1 := ⟨q - 1, by omega⟩
          rw [Nat.add_mul, Nat.one_mul] at hqr
          simp only [Nat.add_sub_cancel]; omega
        repeat (first
          |(refine st_cmp (r := true) (by rfl) (by rfl) (cmpN_t (by first | (simp only [cmpP]; done) | (simp only [cmpP]; omega))) (by rfl) ?_)
          |(refine st_cmp (r := false) (by rfl) (by rfl) (cmpN_f (by first | (simp only [cmpQ]; done) | (simp only [cmpQ]; omega))) (by rfl) ?_)|(rw [hdq])|(rw [hrr])
          |(rw [hp2])|(rw [hp3])|refine Z01 ?_|refine Z02 ?_|refine Z03 ?_|refine Z04 ?_|refine Z05 ?_|refine Z06 ?_|refine Z07 ?_|refine Z08 ?_|refine Z09 ?_
          |refine Z10 ?_|refine Z11 ?_|refine Z12 ?_|refine Z13 ?_|refine Z14 ?_|refine Z17 ?_|refine Z18 ?_|refine Z24 ?_|refine Z25 ?_|refine Z26 ?_|refine Z27 ?_
          |refine Z28 ?_|refine Z33 ?_|refine Z34 ?_|refine Z35 ?_|refine Z37 ?_|refine Z38 ?_|refine Z40 ?_|refine Z41 ?_|refine Z42 ?_|refine Z43 ?_|refine Z44 ?_
          |refine Z45 ?_|refine Z49 ?_|refine Z50 ?_|refine Z51 ?_|refine Z52 ?_|refine Z53 ?_|refine Z67 ?_|refine Z74 ?_|refine Z80 ?_)
        refine st_cond (by rfl) (fun hbr => ?_) (fun hbr => ?_)
        · have hend : q - 1 = q1 := by rw [hq1, hYv]; rw [hYv] at hlt; exact qhat_stop (by omega) hqr' (qhat_break (by omega) (by rw [← hYv]; exact huY) hqr' hbr) (by omega)
          repeat (first
            |refine Z01 ?_|refine Z02 ?_|refine Z03 ?_|refine Z04 ?_|refine Z05 ?_|refine Z06 ?_|refine Z07 ?_|refine Z08 ?_|refine Z09 ?_|refine Z10 ?_|refine Z11 ?_
            |refine Z12 ?_|refine Z13 ?_|refine Z14 ?_|refine Z17 ?_|refine Z18 ?_|refine Z24 ?_|refine Z25 ?_|refine Z26 ?_|refine Z27 ?_|refine Z28 ?_|refine Z33 ?_
            |refine Z34 ?_|refine Z35 ?_|refine Z37 ?_|refine Z38 ?_|refine Z40 ?_|refine Z41 ?_|refine Z42 ?_|refine Z43 ?_|refine Z44 ?_|refine Z45 ?_|refine Z49 ?_
            |refine Z50 ?_|refine Z51 ?_|refine Z52 ?_|refine Z53 ?_|refine Z67 ?_|refine Z74 ?_|refine Z80 ?_)
          rw [hend]
          exact st_met () trivial (by repeat (first | apply subL.nil | refine subL.cons (by rfl) ?_)) (by repeat (first | apply SubW.nil | refine SubW.cons (by repeat (first | apply Find.here | apply Find.there)) ?_))
        · repeat (first
            |refine Z01 ?_|refine Z02 ?_|refine Z03 ?_|refine Z04 ?_|refine Z05 ?_|refine Z06 ?_|refine Z07 ?_|refine Z08 ?_|refine Z09 ?_|refine Z10 ?_|refine Z11 ?_
            |refine Z12 ?_|refine Z13 ?_|refine Z14 ?_|refine Z17 ?_|refine Z18 ?_|refine Z24 ?_|refine Z25 ?_|refine Z26 ?_|refine Z27 ?_|refine Z28 ?_|refine Z33 ?_
            |refine Z34 ?_|refine Z35 ?_|refine Z37 ?_|refine Z38 ?_|refine Z40 ?_|refine Z41 ?_|refine Z42 ?_|refine Z43 ?_|refine Z44 ?_|refine Z45 ?_|refine Z49 ?_
            |refine Z50 ?_|refine Z51 ?_|refine Z52 ?_|refine Z53 ?_|refine Z67 ?_|refine Z74 ?_|refine Z80 ?_)
          exact st_round (q - 1, r + v1) ⟨hqr', by simp only; omega, by simp only; omega⟩ (by simp only; omega) (by repeat (first | apply subL.nil | refine subL.cons (by rfl) ?_)) (by repeat (first | apply SubW.nil | refine SubW.cons (by repeat (first | apply Find.here | apply Find.there)) ?_))
      · have hend : q = q1 := by rw [hq1, hYv]; rw [hYv] at hqq; exact qhat_stop (by omega) hqr (by omega) hqq
        repeat (first
          |(refine st_cmp (r := false) (by rfl) (by rfl) (cmpN_f (by first | (simp only [cmpQ]; done) | (simp only [cmpQ]; omega))) (by rfl) ?_)|(rw [hp2])|(rw [hp3])
          |refine Z01 ?_|refine Z02 ?_|refine Z03 ?_|refine Z04 ?_|refine Z05 ?_|refine Z06 ?_|refine Z07 ?_|refine Z08 ?_|refine Z09 ?_|refine Z10 ?_|refine Z11 ?_
          |refine Z12 ?_|refine Z13 ?_|refine Z14 ?_|refine Z17 ?_|refine Z18 ?_|refine Z24 ?_|refine Z25 ?_|refine Z26 ?_|refine Z27 ?_|refine Z28 ?_|refine Z33 ?_
          |refine Z34 ?_|refine Z35 ?_|refine Z37 ?_|refine Z38 ?_|refine Z40 ?_|refine Z41 ?_|refine Z42 ?_|refine Z43 ?_|refine Z44 ?_|refine Z45 ?_|refine Z49 ?_
          |refine Z50 ?_|refine Z51 ?_|refine Z52 ?_|refine Z53 ?_|refine Z67 ?_|refine Z74 ?_|refine Z80 ?_)
        rw [hend]
        exact st_met () trivial (by repeat (first | apply subL.nil | refine subL.cons (by rfl) ?_)) (by repeat (first | apply SubW.nil | refine SubW.cons (by repeat (first | apply Find.here | apply Find.there)) ?_))
  intro _ _
  clear e1 e2 e3 e4 e5 e6 e7 e8 e9 hwr
  have hq1l : q1 < 4294967296 := by rw [hq1]; exact qhat_lt huY hu1
  obtain ⟨un21, hun21⟩ : ∃ z, z = (u * 4294967296 + u1) % Y := ⟨_, rfl⟩
  have h21Y : un21 < Y := by rw [hun21]; exact Nat.mod_lt _ hYp
  have hw21 := wrap_sub (a := u * 4294967296) (b := u1) (c := q1 * Y) (d := un21) (by rw [hq1, hun21]; exact div_rem_eq _ _) (by omega)
  have hd1 : un21 / v1 < 18446744073709551616 := Nat.lt_of_le_of_lt (Nat.div_le_self _ _) (by omega)
  have hwr := wrap_sub1 (a := un21) (c := un21 / v1 * v1) (d := un21 % v1) (div_rem_eq _ _) (Nat.lt_trans (Nat.mod_lt _ hv1p) (by omega))
  obtain ⟨q0, hq0⟩ : ∃ q0, q0 = (un21 * 4294967296 + u0) / Y := ⟨_, rfl⟩
  repeat (first
    |(rw [hw21])|(refine st_udiv (by rfl) (by rfl) (by rfl) hv1p (by omega) (by rfl) ?_)|(rw [hwr])
    |(refine st_block_join (ι := Unit) (fun _ => True) (fun _ => [(2, N .u64 Y), (8, N .u64 s), (14, N .u64 u0), (15, N .u64 q1), (17, N .u64 un21), (18, N .u64 q0)]) (fun _ => []) ?_ ?_)
    |refine Z01 ?_|refine Z02 ?_|refine Z03 ?_|refine Z04 ?_|refine Z05 ?_|refine Z06 ?_|refine Z07 ?_|refine Z08 ?_|refine Z09 ?_|refine Z10 ?_|refine Z11 ?_
    |refine Z12 ?_|refine Z13 ?_|refine Z14 ?_|refine Z17 ?_|refine Z18 ?_|refine Z24 ?_|refine Z25 ?_|refine Z26 ?_|refine Z27 ?_|refine Z28 ?_|refine Z33 ?_
    |refine Z34 ?_|refine Z35 ?_|refine Z37 ?_|refine Z38 ?_|refine Z40 ?_|refine Z41 ?_|refine Z42 ?_|refine Z43 ?_|refine Z44 ?_|refine Z45 ?_|refine Z49 ?_
    |refine Z50 ?_|refine Z51 ?_|refine Z52 ?_|refine Z53 ?_|refine Z67 ?_|refine Z74 ?_|refine Z80 ?_)
  · clear hwr hN hu10' hu1' hu0' hlq hhs hu hs hb1 hb2 hb3 hb4 hYs hu10 hu10l hq1 hun21 hw21 huY
    refine st_loop (ι := Nat × Nat) (fun p => p.1 * v1 + p.2 = un21 ∧ p.2 < 4294967296 ∧ (un21 * 4294967296 + u0) / Y ≤ p.1)
      (fun p => [(2, N .u64 Y), (8, N .u64 s), (9, N .u64 v1), (10, N .u64 v0), (14, N .u64 u0), (15, N .u64 q1), (16, N .u64 p.2), (17, N .u64 un21), (18, N .u64 p.1)]) (fun p => []) (fun p => p.1) (un21 / v1, un21 % v1)
      ⟨(div_rem_eq _ _).symm, by simp only; have := Nat.mod_lt un21 hv1p; omega, by simp only; rw [hYv]; exact qhat_ge hv1p hu0⟩ (by repeat (first | apply subL.nil | refine subL.cons (by rfl) ?_)) (by repeat (first | apply SubW.nil | refine SubW.cons (by repeat (first | apply Find.here | apply Find.there)) ?_)) ?_
    rintro ⟨q, r⟩ ⟨hqr, hr, hqq⟩
    simp only at hqr hr hqq ⊢
    have hqle : q ≤ un21 := Nat.le_trans (Nat.le_mul_of_pos_right q hv1p) (by omega)
    by_cases hbig : 4294967296 ≤ q
    · have hlt := qhat_step (v0 := v0) (u1 := u0) (by rw [← hYv]; exact h21Y) hqr hu0 (.inl hbig)
      rw [← hYv] at hlt
      have hqpos : 0 < q := Nat.lt_of_le_of_lt (Nat.zero_le _) hlt
      have hdq := wrap_dec (q := q) hqpos (by omega)
      have hrr : (r + v1) % 18446744073709551616 = r + v1 := Nat.mod_eq_of_lt (by omega)
      have hqr' : (q - 1) * v1 + (r + v1) = un21 := by
        obtain ⟨k, rfl⟩ : ∃ k, q = k + 1 := ⟨q - 1, by omega⟩
        rw [Nat.add_mul, Nat.one_mul] at hqr
        simp only [Nat.add_sub_cancel]; omega
      repeat (first
        |(refine st_cmp (r := true) (by rfl) (by rfl) (cmpN_t (by first | (simp only [cmpP]; done) | (simp only [cmpP]; omega))) (by rfl) ?_)
        |(refine st_cmp (r := false) (by rfl) (by rfl) (cmpN_f (by first | (simp only [cmpQ]; done) | (simp only [cmpQ]; omega))) (by rfl) ?_)|(rw [hdq])|(rw [hrr])
        |(rw [hp2])|(rw [hp3])|refine Z01 ?_|refine Z02 ?_|refine Z03 ?_|refine Z04 ?_|refine Z05 ?_|refine Z06 ?_|refine Z07 ?_|refine Z08 ?_|refine Z09 ?_|refine Z10 ?_
        |refine Z11 ?_|refine Z12 ?_|refine Z13 ?_|refine Z14 ?_|refine Z17 ?_|refine Z18 ?_|refine Z24 ?_|refine Z25 ?_|refine Z26 ?_|refine Z27 ?_|refine Z28 ?_
        |refine Z33 ?_|refine Z34 ?_|refine Z35 ?_|refine Z37 ?_|refine Z38 ?_|refine Z40 ?_|refine Z41 ?_|refine Z42 ?_|refine Z43 ?_|refine Z44 ?_|refine Z45 ?_
        |refine Z49 ?_|refine Z50 ?_|refine Z51 ?_|refine Z52 ?_|refine Z53 ?_|refine Z67 ?_|refine Z74 ?_|refine Z80 ?_)
      refine st_cond (by rfl) (fun hbr => ?_) (fun hbr => ?_)
      · have hend : q - 1 = q0 := by rw [hq0, hYv]; rw [hYv] at hlt; exact qhat_stop (by omega) hqr' (qhat_break (by omega) (by rw [← hYv]; exact h21Y) hqr' hbr) (by omega)
        repeat (first
          |refine Z01 ?_|refine Z02 ?_|refine Z03 ?_|refine Z04 ?_|refine Z05 ?_|refine Z06 ?_|refine Z07 ?_|refine Z08 ?_|refine Z09 ?_|refine Z10 ?_|refine Z11 ?_
          |refine Z12 ?_|refine Z13 ?_|refine Z14 ?_|refine Z17 ?_|refine Z18 ?_|refine Z24 ?_|refine Z25 ?_|refine Z26 ?_|refine Z27 ?_|refine Z28 ?_|refine Z33 ?_
          |refine Z34 ?_|refine Z35 ?_|refine Z37 ?_|refine Z38 ?_|refine Z40 ?_|refine Z41 ?_|refine Z42 ?_|refine Z43 ?_|refine Z44 ?_|refine Z45 ?_|refine Z49 ?_
          |refine Z50 ?_|refine Z51 ?_|refine Z52 ?_|refine Z53 ?_|refine Z67 ?_|refine Z74 ?_|refine Z80 ?_)
        rw [hend]
        exact st_met () trivial (by repeat (first | apply subL.nil | refine subL.cons (by rfl) ?_)) (by repeat (first | apply SubW.nil | refine SubW.cons (by repeat (first | apply Find.here | apply Find.there)) ?_))
      · repeat (first
          |refine Z01 ?_|refine Z02 ?_|refine Z03 ?_|refine Z04 ?_|refine Z05 ?_|refine Z06 ?_|refine Z07 ?_|refine Z08 ?_|refine Z09 ?_|refine Z10 ?_|refine Z11 ?_
          |refine Z12 ?_|refine Z13 ?_|refine Z14 ?_|refine Z17 ?_|refine Z18 ?_|refine Z24 ?_|refine Z25 ?_|refine Z26 ?_|refine Z27 ?_|refine Z28 ?_|refine Z33 ?_
          |refine Z34 ?_|refine Z35 ?_|refine Z37 ?_|refine Z38 ?_|refine Z40 ?_|refine Z41 ?_|refine Z42 ?_|refine Z43 ?_|refine Z44 ?_|refine Z45 ?_|refine Z49 ?_
          |refine Z50 ?_|refine Z51 ?_|refine Z52 ?_|refine Z53 ?_|refine Z67 ?_|refine Z74 ?_|refine Z80 ?_)
        exact st_round (q - 1, r + v1) ⟨hqr', by simp only; omega, by simp only; omega⟩ (by simp only; omega) (by repeat (first | apply subL.nil | refine subL.cons (by rfl) ?_)) (by repeat (first | apply SubW.nil | refine SubW.cons (by repeat (first | apply Find.here | apply Find.there)) ?_))
    · have hp1 : q * v0 < 18446744073709551616 := Nat.lt_of_le_of_lt (Nat.mul_le_mul (show q ≤ 4294967295 by omega) (show v0 ≤ 4294967295 by omega)) (by decide)
      have hp2 : q * v0 % 18446744073709551616 = q * v0 := Nat.mod_eq_of_lt hp1
      have hp3 : (4294967296 * r % 18446744073709551616 + u0) % 18446744073709551616 = r * 4294967296 + u0 := by omega
      by_cases hc : r * 4294967296 + u0 < q * v0
      · have hlt := qhat_step (v0 := v0) (u1 := u0) (by rw [← hYv]; exact h21Y) hqr hu0 (.inr hc)
        rw [← hYv] at hlt
        have hqpos : 0 < q := Nat.lt_of_le_of_lt (Nat.zero_le _) hlt
        have hdq := wrap_dec (q := q) hqpos (by omega)
        have hrr : (r + v1) % 18446744073709551616 = r + v1 := Nat.mod_eq_of_lt (by omega)
        have hqr' : (q - 1) * v1 + (r + v1) = un21 := by
          obtain ⟨k, rfl⟩ : ∃ k, q = k + 1 := ⟨q - 1, by omega⟩
          rw [Nat.add_mul, Nat.one_mul] at hqr
          simp only [Nat.add_sub_cancel]; omega
        repeat (first
          |(refine st_cmp (r := true) (by rfl) (by rfl) (cmpN_t (by first | (simp only [cmpP]; done) | (simp only [cmpP]; omega))) (by rfl) ?_)
          |(refine st_cmp (r := false) (by rfl) (by rfl) (cmpN_f (by first | (simp only [cmpQ]; done) | (simp only [cmpQ]; omega))) (by rfl) ?_)|(rw [hdq])|(rw [hrr])
          |(rw [hp2])|(rw [hp3])|refine Z01 ?_|refine Z02 ?_|refine Z03 ?_|refine Z04 ?_|refine Z05 ?_|refine Z06 ?_|refine Z07 ?_|refine Z08 ?_|refine Z09 ?_
          |refine Z10 ?_|refine Z11 ?_|refine Z12 ?_|refine Z13 ?_|refine Z14 ?_|refine Z17 ?_|refine Z18 ?_|refine Z24 ?_|refine Z25 ?_|refine Z26 ?_|refine Z27 ?_
          |refine Z28 ?_|refine Z33 ?_|refine Z34 ?_|refine Z35 ?_|refine Z37 ?_|refine Z38 ?_|refine Z40 ?_|refine Z41 ?_|refine Z42 ?_|refine Z43 ?_|refine Z44 ?_
          |refine Z45 ?_|refine Z49 ?_|refine Z50 ?_|refine Z51 ?_|refine Z52 ?_|refine Z53 ?_|refine Z67 ?_|refine Z74 ?_|refine Z80 ?_)
        refine st_cond (by rfl) (fun hbr => ?_) (fun hbr => ?_)
        · have hend : q - 1 = q0 := by rw [hq0, hYv]; rw [hYv] at hlt; exact qhat_stop (by omega) hqr' (qhat_break (by omega) (by rw [← hYv]; exact h21Y) hqr' hbr) (by omega)
          repeat (first
            |refine Z01 ?_|refine Z02 ?_|refine Z03 ?_|refine Z04 ?_|refine Z05 ?_|refine Z06 ?_|refine Z07 ?_|refine Z08 ?_|refine Z09 ?_|refine Z10 ?_|refine Z11 ?_
            |refine Z12 ?_|refine Z13 ?_|refine Z14 ?_|refine Z17 ?_|refine Z18 ?_|refine Z24 ?_|refine Z25 ?_|refine Z26 ?_|refine Z27 ?_|refine Z28 ?_|refine Z33 ?_
            |refine Z34 ?_|refine Z35 ?_|refine Z37 ?_|refine Z38 ?_|refine Z40 ?_|refine Z41 ?_|refine Z42 ?_|refine Z43 ?_|refine Z44 ?_|refine Z45 ?_|refine Z49 ?_
            |refine Z50 ?_|refine Z51 ?_|refine Z52 ?_|refine Z53 ?_|refine Z67 ?_|refine Z74 ?_|refine Z80 ?_)
          rw [hend]
          exact st_met () trivial (by repeat (first | apply subL.nil | refine subL.cons (by rfl) ?_)) (by repeat (first | apply SubW.nil | refine SubW.cons (by repeat (first | apply Find.here | apply Find.there)) ?_))
        · repeat (first
            |refine Z01 ?_|refine Z02 ?_|refine Z03 ?_|refine Z04 ?_|refine Z05 ?_|refine Z06 ?_|refine Z07 ?_|refine Z08 ?_|refine Z09 ?_|refine Z10 ?_|refine Z11 ?_
            |refine Z12 ?_|refine Z13 ?_|refine Z14 ?_|refine Z17 ?_|refine Z18 ?_|refine Z24 ?_|refine Z25 ?_|refine Z26 ?_|refine Z27 ?_|refine Z28 ?_|refine Z33 ?_
            |refine Z34 ?_|refine Z35 ?_|refine Z37 ?_|refine Z38 ?_|refine Z40 ?_|refine Z41 ?_|refine Z42 ?_|refine Z43 ?_|refine Z44 ?_|refine Z45 ?_|refine Z49 ?_
            |refine Z50 ?_|refine Z51 ?_|refine Z52 ?_|refine Z53 ?_|refine Z67 ?_|refine Z74 ?_|refine Z80 ?_)
          exact st_round (q - 1, r + v1) ⟨hqr', by simp only; omega, by simp only; omega⟩ (by simp only; omega) (by repeat (first | apply subL.nil | refine subL.cons (by rfl) ?_)) (by repeat (first | apply SubW.nil | refine SubW.cons (by repeat (first | apply Find.here | apply Find.there)) ?_))
      · have hend : q = q0 := by rw [hq0, hYv]; rw [hYv] at hqq; exact qhat_stop (by omega) hqr (by omega) hqq
        repeat (first
          |(refine st_cmp (r := false) (by rfl) (by rfl) (cmpN_f (by first | (simp only [cmpQ]; done) | (simp only [cmpQ]; omega))) (by rfl) ?_)|(rw [hp2])|(rw [hp3])
          |refine Z01 ?_|refine Z02 ?_|refine Z03 ?_|refine Z04 ?_|refine Z05 ?_|refine Z06 ?_|refine Z07 ?_|refine Z08 ?_|refine Z09 ?_|refine Z10 ?_|refine Z11 ?_
          |refine Z12 ?_|refine Z13 ?_|refine Z14 ?_|refine Z17 ?_|refine Z18 ?_|refine Z24 ?_|refine Z25 ?_|refine Z26 ?_|refine Z27 ?_|refine Z28 ?_|refine Z33 ?_
          |refine Z34 ?_|refine Z35 ?_|refine Z37 ?_|refine Z38 ?_|refine Z40 ?_|refine Z41 ?_|refine Z42 ?_|refine Z43 ?_|refine Z44 ?_|refine Z45 ?_|refine Z49 ?_
          |refine Z50 ?_|refine Z51 ?_|refine Z52 ?_|refine Z53 ?_|refine Z67 ?_|refine Z74 ?_|refine Z80 ?_)
        rw [hend]
        exact st_met () trivial (by repeat (first | apply subL.nil | refine subL.cons (by rfl) ?_)) (by repeat (first | apply SubW.nil | refine SubW.cons (by repeat (first | apply Find.here | apply Find.there)) ?_))
  intro _ _
  have hr2 := wrap_sub (a := un21 * 4294967296) (b := u0) (c := q0 * Y) (d := (un21 * 4294967296 + u0) % Y) (by rw [hq0]; exact div_rem_eq _ _) (Nat.lt_trans (Nat.mod_lt _ hYp) hYW)
  have hQ0 : q0 < 4294967296 := by rw [hq0]; exact qhat_lt h21Y hu0
  have hqq : q1 * 4294967296 % 18446744073709551616 = q1 * 4294967296 := Nat.mod_eq_of_lt (by omega)
  have hqs : (q1 * 4294967296 + q0) % 18446744073709551616 = q1 * 4294967296 + q0 := Nat.mod_eq_of_lt (by omega)
  repeat (first
    |(rw [hr2])|(rw [hqq])|(rw [hqs])|(refine st_shr (by rfl) (by rfl) (show s ≤ 64 by omega) (by rfl) ?_)|refine Z01 ?_|refine Z02 ?_|refine Z03 ?_|refine Z04 ?_
    |refine Z05 ?_|refine Z06 ?_|refine Z07 ?_|refine Z08 ?_|refine Z09 ?_|refine Z10 ?_|refine Z11 ?_|refine Z12 ?_|refine Z13 ?_|refine Z14 ?_|refine Z17 ?_
    |refine Z18 ?_|refine Z24 ?_|refine Z25 ?_|refine Z26 ?_|refine Z27 ?_|refine Z28 ?_|refine Z33 ?_|refine Z34 ?_|refine Z35 ?_|refine Z37 ?_|refine Z38 ?_
    |refine Z40 ?_|refine Z41 ?_|refine Z42 ?_|refine Z43 ?_|refine Z44 ?_|refine Z45 ?_|refine Z49 ?_|refine Z50 ?_|refine Z51 ?_|refine Z52 ?_|refine Z53 ?_
    |refine Z67 ?_|refine Z74 ?_|refine Z80 ?_)
  refine Ze2 fun _ hw => post_of hw SubW.nil ⟨?_, rfl⟩
  obtain ⟨g1, g2⟩ := div_two (u := u) (u1 := u1) (u0 := u0) hYp
  rw [← hq1, ← hun21] at g1
  rw [← hun21] at g2
  rw [← hq0] at g1
  rw [hu10, hN, hYs, Nat.mul_div_mul_right _ _ (Nat.two_pow_pos s)] at g1
  rw [hu10, hN, hYs, Nat.mul_mod_mul_right] at g2
  rw [g1, hYs, g2, Nat.shiftRight_eq_div_pow, Nat.mul_div_cancel _ (Nat.two_pow_pos s)]
end Go.Proofs.Ytfhempgkdnecnaa.L
