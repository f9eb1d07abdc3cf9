/- Numbers of many words: the walk of the order. Conditions: as each statement says. -/
import Derived.Test.YtfhempgkdnecnaaAuto
import Derived.Test.YtfhempgkdnecnaaPerm
import Derived.Test.YtfhempgkdnecnaaMore
import Derived.Test.YtfhempgkdnecnaaProg
import Derived.Test.YtfhempgkdnecnaaNum
import Derived.Test.YtfhempgkdnecnaaLmb
import Derived.Test.YtfhempgkdnecnaaLmd
import Derived.Test.YtfhempgkdnecnaaScope
import Derived.Test.YtfhempgkdnecnaaLma
namespace Go.Proofs.Ytfhempgkdnecnaa.L
open Go Go.Proofs
set_option maxRecDepth 100000
attribute [local irreducible] Code.wp wpList Af bodyPost L.Go
open Num
attribute [local irreducible] W

set_option maxHeartbeats 1000000 in
theorem cmp_spec (s t : Value) (xs ys : List Nat) (hx : Lt 18446744073709551616 xs) (hy : Lt 18446744073709551616 ys) (hl1 : xs.length < 16777216) (hl2 : ys.length < 16777216) :
    Spec Try.prog 100 [s, t] (fun w => Rd w s (xs.map (N .u64)) ∧ Rd w t (ys.map (N .u64))) [] (IsV (.int .i64 (ord3 (V xs) (V ys)))) := by
  refine mk_spec Try.func100 rfl rfl rfl fun w hr => ?_
  have hr1 := RdC.mk0 hr.1
  have hr2 := RdC.mk0 hr.2
  repeat (first
    |(refine st_scope0 ?_)|(refine st_label ?_)|refine Z01 ?_|refine Z02 ?_|refine Z03 ?_|refine Z04 ?_|refine Z05 ?_|refine Z06 ?_|refine Z07 ?_|refine Z08 ?_
    |refine Z09 ?_|refine Z10 ?_|refine Z11 ?_|refine Z12 ?_|refine Z13 ?_|refine Z14 ?_|refine Z16 ?_|refine Z17 ?_|refine Z18 ?_|refine Z20 ?_|refine Z21 ?_
    |refine Z58 ?_|refine Z59 ?_|refine Z60 ?_|refine Z71 ?_)
  obtain ⟨n, hn⟩ : ∃ n, n = max xs.length ys.length := ⟨_, rfl⟩
  rw [← hn]
  have hA : V xs < W ^ n := V_lt_le hx (by omega)
  have hB : V ys < W ^ n := V_lt_le hy (by omega)
  refine st_loop (ι := Nat) (fun j => j ≤ n ∧ V xs / W ^ j = V ys / W ^ j) (fun j => [(0, s), (1, t), (5, .int .i64 ((j : Int) - 1))]) (fun j => []) (fun j => j) n ⟨Nat.le_refl _, by rw [Nat.div_eq_of_lt hA, Nat.div_eq_of_lt hB]⟩ (by repeat (first | apply subL.nil | refine subL.cons (by rfl) ?_)) (by repeat (first | apply SubW.nil | refine SubW.cons (by repeat (first | apply Find.here | apply Find.there)) ?_)) ?_
  rintro j ⟨hj, he⟩
  repeat (first
    |refine Z01 ?_|refine Z02 ?_|refine Z03 ?_|refine Z04 ?_|refine Z05 ?_|refine Z06 ?_|refine Z07 ?_|refine Z08 ?_|refine Z09 ?_|refine Z10 ?_|refine Z11 ?_
    |refine Z12 ?_|refine Z13 ?_|refine Z14 ?_|refine Z16 ?_|refine Z17 ?_|refine Z18 ?_|refine Z20 ?_|refine Z21 ?_|refine Z58 ?_|refine Z59 ?_|refine Z60 ?_
    |refine Z71 ?_)
  refine st_cond (by rfl) (fun h => ?_) (fun h => ?_)
  · have h0 : (0 : Int) ≤ (j : Int) - 1 := h
    obtain ⟨i, rfl⟩ : ∃ i, j = i + 1 := ⟨j - 1, by omega⟩
    rw [show ((i + 1 : Nat) : Int) - 1 = Int.ofNat i by simp]
    repeat (first
      |(refine st_callV (by rfl) (by rfl) (by rfl) (at_spec s xs i (by omega)) (RdW.old hr1) (by rfl) ?_)
      |(refine st_callV (by rfl) (by rfl) (by rfl) (at_spec t ys i (by omega)) (RdW.old hr2) (by rfl) ?_)|refine Z01 ?_|refine Z02 ?_|refine Z03 ?_|refine Z04 ?_
      |refine Z05 ?_|refine Z06 ?_|refine Z07 ?_|refine Z08 ?_|refine Z09 ?_|refine Z10 ?_|refine Z11 ?_|refine Z12 ?_|refine Z13 ?_|refine Z14 ?_|refine Z16 ?_
      |refine Z17 ?_|refine Z18 ?_|refine Z20 ?_|refine Z21 ?_|refine Z58 ?_|refine Z59 ?_|refine Z60 ?_|refine Z71 ?_)
    rw [V_getD hx, V_getD hy]
    refine st_cond (by rfl) (fun h1 => ?_) (fun h1 => ?_)
    · repeat (first
        |refine Z01 ?_|refine Z02 ?_|refine Z03 ?_|refine Z04 ?_|refine Z05 ?_|refine Z06 ?_|refine Z07 ?_|refine Z08 ?_|refine Z09 ?_|refine Z10 ?_|refine Z11 ?_
        |refine Z12 ?_|refine Z13 ?_|refine Z14 ?_|refine Z16 ?_|refine Z17 ?_|refine Z18 ?_|refine Z20 ?_|refine Z21 ?_|refine Z58 ?_|refine Z59 ?_|refine Z60 ?_
        |refine Z71 ?_)
      refine st_round i ⟨by omega, ord_same he h1⟩ (by omega) ?_ (by repeat (first | apply SubW.nil | refine SubW.cons (by repeat (first | apply Find.here | apply Find.there)) ?_))
      rw [show ((i : Int) - 1) = Int.ofNat i - Int.ofNat 1 from rfl]
      exact (by repeat (first | apply subL.nil | refine subL.cons (by rfl) ?_))
    · repeat (first
        |refine Z01 ?_|refine Z02 ?_|refine Z03 ?_|refine Z04 ?_|refine Z05 ?_|refine Z06 ?_|refine Z07 ?_|refine Z08 ?_|refine Z09 ?_|refine Z10 ?_|refine Z11 ?_
        |refine Z12 ?_|refine Z13 ?_|refine Z14 ?_|refine Z16 ?_|refine Z17 ?_|refine Z18 ?_|refine Z20 ?_|refine Z21 ?_|refine Z58 ?_|refine Z59 ?_|refine Z60 ?_
        |refine Z71 ?_)
      refine st_cond (by rfl) (fun h2 => ?_) (fun h2 => ?_)
      · repeat (first
          |(with_reducible refine st_ng_ret ?_)|refine Z01 ?_|refine Z02 ?_|refine Z03 ?_|refine Z04 ?_|refine Z05 ?_|refine Z06 ?_|refine Z07 ?_|refine Z08 ?_
          |refine Z09 ?_|refine Z10 ?_|refine Z11 ?_|refine Z12 ?_|refine Z13 ?_|refine Z14 ?_|refine Z16 ?_|refine Z17 ?_|refine Z18 ?_|refine Z20 ?_|refine Z21 ?_
          |refine Z58 ?_|refine Z59 ?_|refine Z60 ?_|refine Z71 ?_)
        refine Ze1 fun _ hw => post_of hw SubW.nil ⟨?_, rfl⟩
        rw [ord3_lt (ord_less he h2)]
      · repeat (first
          |(with_reducible refine st_ng_ret ?_)|refine Z01 ?_|refine Z02 ?_|refine Z03 ?_|refine Z04 ?_|refine Z05 ?_|refine Z06 ?_|refine Z07 ?_|refine Z08 ?_
          |refine Z09 ?_|refine Z10 ?_|refine Z11 ?_|refine Z12 ?_|refine Z13 ?_|refine Z14 ?_|refine Z16 ?_|refine Z17 ?_|refine Z18 ?_|refine Z20 ?_|refine Z21 ?_
          |refine Z58 ?_|refine Z59 ?_|refine Z60 ?_|refine Z71 ?_)
        refine Ze1 fun _ hw => post_of hw SubW.nil ⟨?_, rfl⟩
        rw [ord3_gt (ord_less he.symm (by omega))]; rfl
  · have h0 : ¬ (0 : Int) ≤ (j : Int) - 1 := h
    have hj0 : j = 0 := by omega
    subst hj0
    repeat (first
      |(with_reducible refine st_ng_ret ?_)|refine Z01 ?_|refine Z02 ?_|refine Z03 ?_|refine Z04 ?_|refine Z05 ?_|refine Z06 ?_|refine Z07 ?_|refine Z08 ?_|refine Z09 ?_
      |refine Z10 ?_|refine Z11 ?_|refine Z12 ?_|refine Z13 ?_|refine Z14 ?_|refine Z16 ?_|refine Z17 ?_|refine Z18 ?_|refine Z20 ?_|refine Z21 ?_|refine Z58 ?_
      |refine Z59 ?_|refine Z60 ?_|refine Z71 ?_)
    refine Ze1 fun _ hw => post_of hw SubW.nil ⟨?_, rfl⟩
    rw [ord3_eq (by simpa using he)]; rfl
end Go.Proofs.Ytfhempgkdnecnaa.L
