/- The numbers modulo r: the document's products, inverses and bytes. Conditions: as each statement says. -/
import Derived.Test.YtbjfjkmidhfgcaaAuto
import Derived.Test.YtbjfjkmidhfgcaaPerm
import Derived.Test.YtbjfjkmidhfgcaaMore
import Derived.Test.YtbjfjkmidhfgcaaProg
import Derived.Test.YtbjfjkmidhfgcaaNum
import Derived.Test.YtbjfjkmidhfgcaaLmb
import Derived.Test.YtbjfjkmidhfgcaaLmd
import Derived.Test.YtbjfjkmidhfgcaaLmo
import Derived.Test.YtbjfjkmidhfgcaaLmk
import Derived.Test.YtbjfjkmidhfgcaaScope
import Derived.Test.YtbjfjkmidhfgcaaJoin
import Derived.Test.YtbjfjkmidhfgcaaLma
import Derived.Test.YtbjfjkmidhfgcaaLmz
import Derived.Test.YtbjfjkmidhfgcaaLmc
import Derived.Test.YtbjfjkmidhfgcaaLme
import Derived.Test.YtbjfjkmidhfgcaaLmf
import Derived.Test.YtbjfjkmidhfgcaaLmh
import Derived.Test.YtbjfjkmidhfgcaaLmj
import Derived.Test.YtbjfjkmidhfgcaaShaT
import Derived.Test.YtbjfjkmidhfgcaaLmp
import Derived.Test.YtbjfjkmidhfgcaaLmv
import Derived.Test.YtbjfjkmidhfgcaaLmw
import Derived.Test.YtbjfjkmidhfgcaaLmx
import Derived.Test.YtbjfjkmidhfgcaaLmy
import Derived.Test.YtbjfjkmidhfgcaaLna
import Derived.Test.YtbjfjkmidhfgcaaGho
import Derived.Test.YtbjfjkmidhfgcaaBld
import Derived.Test.YtbjfjkmidhfgcaaArr
import Derived.Test.YtbjfjkmidhfgcaaPq
import Derived.Test.YtbjfjkmidhfgcaaFra
import Derived.Test.YtbjfjkmidhfgcaaFrb
import Derived.Test.YtbjfjkmidhfgcaaFrc
namespace Go.Proofs.Ytbjfjkmidhfgcaa.L
open Go Go.Proofs
set_option maxRecDepth 100000
attribute [local irreducible] Code.wp wpList Af bodyPost L.Go
open Num
attribute [local simp] D_len octs_len

theorem sub3_kk {k : Nat} (hk : k < 1000000) (s t : Value) {a b : Nat} (ha : a < W ^ k) (hba : b ≤ a) :
    Spec Try.prog 30 [s, t] (fun w => Rd w s ((D k a).map (N .u64)) ∧ Rd w t ((D k b).map (N .u64))) []
      (fun v Wr => ∃ u, v = .tuple [u, N .u64 0].toArray ∧ Wr = [.sl u ((D k (a - b)).map (N .u64)) 30]) := by
  have h := sub3_spec s t (D k a) (D k b) (D_lt _ _) (D_lt _ _) (by rw [D_len]; omega) (by rw [D_len]; omega)
  have hb : b < W ^ k := Nat.lt_of_le_of_lt hba ha
  have h1 : bwn a b = 0 := by unfold bwn; rw [if_neg (by omega)]
  rw [D_len, D_len, V_D' ha, V_D' hb, Nat.max_self, h1, D_sbn hba] at h
  exact h

theorem rneg_spec {a : Nat} (ha : a < W ^ 4) : Spec Try.prog 45 [LV .u64 (D 4 a)] NoPre [] (IsV (LV .u64 (D 4 ((r - a % r) % r)))) := by
  refine mk_spec Try.func45 rfl rfl rfl fun w _ => ?_
  have hla := D_len 4 a
  have hlr := D_len 4 r
  have hl1 := D_len 4 (a % r)
  have hl2 := D_len 4 (r - a % r)
  have hl3 := D_len 4 ((r - a % r) % r)
  have hlt := Nat.mod_lt a r_pos
  have hv : V (D 4 (r - a % r)) = r - a % r := V_D' (Nat.lt_of_le_of_lt (Nat.sub_le _ _) r_lt)
  repeat (first
    |(refine st_alloc (v := LV .u64 (List.replicate 4 0)) (by rfl) (by rfl) fun _ => ?_)
    |(refine st_callV (by rfl) (by rfl) (by rfl) (rreduce_spec ha) (fun _ _ => trivial) (by rfl) ?_)
    |(refine st_callV (by rfl) (by rfl) (by rfl) (rR_spec) (fun _ _ => trivial) (by rfl) ?_)|refine Z01 ?_|refine Z02 ?_|refine Z03 ?_|refine Z04 ?_|refine Z05 ?_
    |refine Z06 ?_|refine Z07 ?_|refine Z08 ?_|refine Z09 ?_|refine Z10 ?_|refine Z11 ?_|refine Z12 ?_|refine Z13 ?_|refine Z14 ?_|refine Z19 ?_|refine Z24 ?_
    |refine Z25 ?_|refine Z26 ?_|refine Z27 ?_|refine Z28 ?_|refine Z29 ?_|refine Z30 ?_|refine Z31 ?_|refine Z32 ?_|refine Z62 ?_|refine Z63 ?_|refine Z64 ?_
    |refine Z67 ?_|refine Z81 fun _ => ?_|refine Z82 fun _ => ?_)
  refine st_perm [0, 1, 2, 3, 4, 5, 6, 7] (by rfl) ?_
  repeat (first
    |refine Zpf (by rfl)
      (by intro _ _ _;(first
      |refine Z01 ?_|refine Z02 ?_|refine Z19 ?_|refine Z62 ?_|refine Z63 ?_|refine Z64 ?_);exact Zq) ?_
    |refine Zpp (by rfl)
      (by intro _ _ _;(first
      |refine Z24 ?_|refine Z25 ?_|refine Z26 ?_|refine Z27 ?_|refine Z28 ?_|refine Z67 ?_|refine Z62 ?_);exact Zq) ?_
    |refine Zps (by rfl)
      (by intro _ _ _;(first
      |refine Z29 ?_|refine Z30 ?_|refine Z31 ?_|refine Z32 ?_);exact Zqq) ?_
    |refine Zpn (by rfl)
      (by intro _ _ _;(first
      |refine Z81 fun _ => ?_|refine Z82 fun _ => ?_);exact Zpx) fun _ => ?_
    |refine Zpg (by rfl)
      (by intro _ _ _;(refine st_call (by rfl) (by rfl) (by rfl) (sub3_kk (by decide) _ _ r_lt (Nat.le_of_lt hlt)) .nil (fun w hw => ⟨RdW.arrAll (m := 4) (by repeat (first | apply Find.here | apply Find.there)) hlr w hw, RdW.arrAll (m := 4) (by repeat (first | apply Find.here | apply Find.there)) hl1 w hw⟩) (by rfl) ?_; rintro _ _ ⟨u, rfl, rfl⟩);exact Zpgx u) fun _ => ?_
    |refine Zpo (by rfl) ?_)
  refine Zp0 ?_
  repeat (first
    
    |((refine st_callV (by rfl) (by rfl) (by rfl) (rwide_spec _ (D 4 (r - a % r)) (D_lt _ _) (by omega)) (RdW.own (by repeat (first | apply Find.here | apply Find.there))) (by rfl) ?_; rw [hv]))
    |refine Z01 ?_|refine Z02 ?_|refine Z03 ?_|refine Z04 ?_|refine Z05 ?_|refine Z06 ?_|refine Z07 ?_|refine Z08 ?_|refine Z09 ?_|refine Z10 ?_|refine Z11 ?_
    |refine Z12 ?_|refine Z13 ?_|refine Z14 ?_|refine Z19 ?_|refine Z24 ?_|refine Z25 ?_|refine Z26 ?_|refine Z27 ?_|refine Z28 ?_|refine Z29 ?_|refine Z30 ?_
    |refine Z31 ?_|refine Z32 ?_|refine Z62 ?_|refine Z63 ?_|refine Z64 ?_|refine Z67 ?_|refine Z81 fun _ => ?_|refine Z82 fun _ => ?_)
  refine Zec fun _ hw => post_of hw SubW.nil ⟨?_, rfl⟩
  rfl

theorem mul_dbl (X Q m : Nat) : (X * Q % m + X * Q % m) % m = X * (2 * Q) % m := by
  rw [← Nat.add_mod, ← Nat.two_mul, Nat.mul_left_comm]
theorem mul_inc (X Q m : Nat) : (X * Q % m + X) % m = X * (Q + 1) % m := by
  rw [Nat.mod_add_mod, Nat.mul_add, Nat.mul_one]

set_option maxHeartbeats 2000000 in
theorem rmul_spec {a b : Nat} (ha : a < W ^ 4) (hb : b < W ^ 4) : Spec Try.prog 47 [LV .u64 (D 4 a), LV .u64 (D 4 b)] NoPre [] (IsV (LV .u64 (D 4 (a * b % r)))) := by
  refine mk_spec Try.func47 rfl rfl rfl fun w _ => ?_
  have hla := D_len 4 a
  have hlb := D_len 4 b
  have hl1 := D_len 4 (a % r)
  have hl2 := D_len 4 (b % r)
  repeat (first
    |(refine st_alloc (v := LV .u64 (List.replicate 4 0)) (by rfl) (by rfl) fun _ => ?_)
    |(refine st_callV (by rfl) (by rfl) (by rfl) (rreduce_spec ha) (fun _ _ => trivial) (by rfl) ?_)
    |(refine st_callV (by rfl) (by rfl) (by rfl) (rreduce_spec hb) (fun _ _ => trivial) (by rfl) ?_)|refine Z01 ?_|refine Z02 ?_|refine Z03 ?_|refine Z04 ?_|refine Z05 ?_
    |refine Z06 ?_|refine Z07 ?_|refine Z08 ?_|refine Z09 ?_|refine Z10 ?_|refine Z11 ?_|refine Z12 ?_|refine Z13 ?_|refine Z14 ?_|refine Z16 ?_|refine Z17 ?_
    |refine Z18 ?_|refine Z22 ?_|refine Z23 ?_|refine Z24 ?_|refine Z25 ?_|refine Z26 ?_|refine Z27 ?_|refine Z28 ?_|refine Z29 ?_|refine Z30 ?_|refine Z31 ?_
    |refine Z32 ?_|refine Z37 ?_|refine Z38 ?_|refine Z40 ?_|refine Z42 ?_|refine Z44 ?_|refine Z45 ?_|refine Z67 ?_|refine Z71 ?_|refine Z74 ?_|refine Z80 ?_
    |refine Z81 fun _ => ?_|refine Z82 fun _ => ?_)
  rename_i b2 b3 b4 b5 b6 b7
  have hz : b % r / 2 ^ 256 = 0 := Nat.div_eq_of_lt (by have := mod_r b; rw [W_2, ← Nat.pow_mul] at this; exact this)
  rw [zero_lit]
  refine st_loop (ι := Nat) (fun j => j ≤ 256) (fun j => [(4, pt b4 0), (5, pt b5 0), (6, pt b6 0), (7, pt b7 0), (8, .int .i64 ((j : Int) - 1))])
    (fun j => [.blk b7 (LV .u64 (D 4 (a % r * (b % r / 2 ^ j) % r))) 39, .blk b6 (LV .u64 (D 4 (b % r))) 39, .blk b5 (LV .u64 (D 4 (a % r))) 39, .blk b4 (LV .u64 (D 4 0)) 39]) (fun j => j) 256 (Nat.le_refl _) (by repeat (first | apply subL.nil | refine subL.cons (by rfl) ?_)) (by rw [hz, Nat.mul_zero, Nat.zero_mod]; exact (by repeat (first | apply SubW.nil | refine SubW.cons (by repeat (first | apply Find.here | apply Find.there)) ?_))) ?_
  intro j hj
  have hlX := fun x => D_len 4 (a % r * x % r)
  repeat (first
    |refine Z01 ?_|refine Z02 ?_|refine Z03 ?_|refine Z04 ?_|refine Z05 ?_|refine Z06 ?_|refine Z07 ?_|refine Z08 ?_|refine Z09 ?_|refine Z10 ?_|refine Z11 ?_
    |refine Z12 ?_|refine Z13 ?_|refine Z14 ?_|refine Z16 ?_|refine Z17 ?_|refine Z18 ?_|refine Z22 ?_|refine Z23 ?_|refine Z24 ?_|refine Z25 ?_|refine Z26 ?_
    |refine Z27 ?_|refine Z28 ?_|refine Z29 ?_|refine Z30 ?_|refine Z31 ?_|refine Z32 ?_|refine Z37 ?_|refine Z38 ?_|refine Z40 ?_|refine Z42 ?_|refine Z44 ?_
    |refine Z45 ?_|refine Z67 ?_|refine Z71 ?_|refine Z74 ?_|refine Z80 ?_|refine Z81 fun _ => ?_|refine Z82 fun _ => ?_)
  refine st_cond (by rfl) (fun h => ?_) (fun h => ?_)
  · have h0 : (0 : Int) ≤ (j : Int) - 1 := h
    obtain ⟨i, rfl⟩ : ∃ i, j = i + 1 := ⟨j - 1, by omega⟩
    rw [show ((i + 1 : Nat) : Int) - 1 = Int.ofNat i by simp]
    have hst := bit_step (b % r) i
    have hbt := bit_and (D_lt 4 (b % r)) i
    rw [V_D' (mod_r b)] at hbt
    generalize b % r / 2 ^ (i + 1) = Q at hst ⊢
    have hlq := hlX Q
    have hlq2 := hlX (2 * Q)
    repeat (first
      
      |((refine st_callV (by rfl) (by rfl) (by rfl) (rplus_spec (a := a % r * Q % r) (b := a % r * Q % r) (Nat.mod_lt _ r_pos) (Nat.mod_lt _ r_pos)) (fun _ _ => trivial) (by rfl) ?_; rw [mul_dbl]))
      |(rw [hbt])|refine Z01 ?_|refine Z02 ?_|refine Z03 ?_|refine Z04 ?_|refine Z05 ?_|refine Z06 ?_|refine Z07 ?_|refine Z08 ?_|refine Z09 ?_|refine Z10 ?_
      |refine Z11 ?_|refine Z12 ?_|refine Z13 ?_|refine Z14 ?_|refine Z16 ?_|refine Z17 ?_|refine Z18 ?_|refine Z22 ?_|refine Z23 ?_|refine Z24 ?_|refine Z25 ?_
      |refine Z26 ?_|refine Z27 ?_|refine Z28 ?_|refine Z29 ?_|refine Z30 ?_|refine Z31 ?_|refine Z32 ?_|refine Z37 ?_|refine Z38 ?_|refine Z40 ?_|refine Z42 ?_
      |refine Z44 ?_|refine Z45 ?_|refine Z67 ?_|refine Z71 ?_|refine Z74 ?_|refine Z80 ?_|refine Z81 fun _ => ?_|refine Z82 fun _ => ?_)
    refine st_cond (by rfl) (fun hb1 => ?_) (fun hb1 => ?_)
    · have hx1 : b % r / 2 ^ i = 2 * Q + 1 := by omega
      have hlq3 := hlX (2 * Q + 1)
      repeat (first
        
        |((refine st_callV (by rfl) (by rfl) (by rfl) (rplus_spec (a := a % r * (2 * Q) % r) (b := a % r) (Nat.mod_lt _ r_pos) (Nat.mod_lt _ r_pos)) (fun _ _ => trivial) (by rfl) ?_; rw [mul_inc]))
        |refine Z01 ?_|refine Z02 ?_|refine Z03 ?_|refine Z04 ?_|refine Z05 ?_|refine Z06 ?_|refine Z07 ?_|refine Z08 ?_|refine Z09 ?_|refine Z10 ?_|refine Z11 ?_
        |refine Z12 ?_|refine Z13 ?_|refine Z14 ?_|refine Z16 ?_|refine Z17 ?_|refine Z18 ?_|refine Z22 ?_|refine Z23 ?_|refine Z24 ?_|refine Z25 ?_|refine Z26 ?_
        |refine Z27 ?_|refine Z28 ?_|refine Z29 ?_|refine Z30 ?_|refine Z31 ?_|refine Z32 ?_|refine Z37 ?_|refine Z38 ?_|refine Z40 ?_|refine Z42 ?_|refine Z44 ?_
        |refine Z45 ?_|refine Z67 ?_|refine Z71 ?_|refine Z74 ?_|refine Z80 ?_|refine Z81 fun _ => ?_|refine Z82 fun _ => ?_)
      refine st_round i (by omega) (by omega) ?_ (by rw [hx1]; exact (by repeat (first | apply SubW.nil | refine SubW.cons (by repeat (first | apply Find.here | apply Find.there)) ?_)))
      rw [show ((i : Int) - 1) = Int.ofNat i - Int.ofNat 1 from rfl]
      exact (by repeat (first | apply subL.nil | refine subL.cons (by rfl) ?_))
    · have hx1 : b % r / 2 ^ i = 2 * Q := by omega
      repeat (first
        |refine Z01 ?_|refine Z02 ?_|refine Z03 ?_|refine Z04 ?_|refine Z05 ?_|refine Z06 ?_|refine Z07 ?_|refine Z08 ?_|refine Z09 ?_|refine Z10 ?_|refine Z11 ?_
        |refine Z12 ?_|refine Z13 ?_|refine Z14 ?_|refine Z16 ?_|refine Z17 ?_|refine Z18 ?_|refine Z22 ?_|refine Z23 ?_|refine Z24 ?_|refine Z25 ?_|refine Z26 ?_
        |refine Z27 ?_|refine Z28 ?_|refine Z29 ?_|refine Z30 ?_|refine Z31 ?_|refine Z32 ?_|refine Z37 ?_|refine Z38 ?_|refine Z40 ?_|refine Z42 ?_|refine Z44 ?_
        |refine Z45 ?_|refine Z67 ?_|refine Z71 ?_|refine Z74 ?_|refine Z80 ?_|refine Z81 fun _ => ?_|refine Z82 fun _ => ?_)
      refine st_round i (by omega) (by omega) ?_ (by rw [hx1]; exact (by repeat (first | apply SubW.nil | refine SubW.cons (by repeat (first | apply Find.here | apply Find.there)) ?_)))
      rw [show ((i : Int) - 1) = Int.ofNat i - Int.ofNat 1 from rfl]
      exact (by repeat (first | apply subL.nil | refine subL.cons (by rfl) ?_))
  · have hp : ¬ (0 : Int) ≤ (j : Int) - 1 := h
    have hj0 : j = 0 := by omega
    subst hj0
    have he : a % r * (b % r) % r = a * b % r := (Nat.mul_mod a b r).symm
    have hle := D_len 4 (a * b % r)
    rw [Nat.pow_zero, Nat.div_one, he]
    repeat (first
      |refine Z01 ?_|refine Z02 ?_|refine Z03 ?_|refine Z04 ?_|refine Z05 ?_|refine Z06 ?_|refine Z07 ?_|refine Z08 ?_|refine Z09 ?_|refine Z10 ?_|refine Z11 ?_
      |refine Z12 ?_|refine Z13 ?_|refine Z14 ?_|refine Z16 ?_|refine Z17 ?_|refine Z18 ?_|refine Z22 ?_|refine Z23 ?_|refine Z24 ?_|refine Z25 ?_|refine Z26 ?_
      |refine Z27 ?_|refine Z28 ?_|refine Z29 ?_|refine Z30 ?_|refine Z31 ?_|refine Z32 ?_|refine Z37 ?_|refine Z38 ?_|refine Z40 ?_|refine Z42 ?_|refine Z44 ?_
      |refine Z45 ?_|refine Z67 ?_|refine Z71 ?_|refine Z74 ?_|refine Z80 ?_|refine Z81 fun _ => ?_|refine Z82 fun _ => ?_)
    refine Zec fun _ hw => post_of hw SubW.nil ⟨?_, rfl⟩
    rfl

theorem rR1_spec : Spec Try.prog 85 [] NoPre [] (fun v Wr => Wr = [.sl v ((D 4 r).map (N .u64)) 30]) := by
  refine mk_spec Try.func85 rfl rfl rfl fun w _ => ?_
  have hlr := D_len 4 r
  have h0 : List.drop 0 (List.take 4 (D 4 r)) = D 4 r := by rw [List.drop_zero, List.take_of_length_le (by omega)]
  repeat (first
    |(refine st_alloc (v := LV .u64 (List.replicate 4 0)) (by rfl) (by rfl) fun _ => ?_)
    |(refine st_callV (by rfl) (by rfl) (by rfl) (rR_spec) (fun _ _ => trivial) (by rfl) ?_)
    |(refine st_buildSliceN (vs := []) (kk := .u64) (by rfl) (by rfl) (by rfl) (by rfl) (by rfl) (by rfl) (by rfl) (by rfl) fun _ => ?_)|(rw [List.nil_append])|(rw [h0])
    |refine Z02 ?_|refine Z03 ?_|refine Z04 ?_|refine Z05 ?_|refine Z06 ?_|refine Z07 ?_|refine Z08 ?_|refine Z09 ?_|refine Z10 ?_|refine Z11 ?_|refine Z12 ?_
    |refine Z13 ?_|refine Z14 ?_|refine Z29 ?_|refine Z30 ?_|refine Z31 ?_|refine Z32 ?_|refine Z62 ?_|refine Z63 ?_|refine Z64 ?_|refine Z82 fun _ => ?_
    |refine Z84 fun _ => ?_|refine Z85 fun _ => ?_)
  rename_i b1 s3 s5
  exact Ze1 fun _ hw => post_of hw (Wout := [.sl s5 ((D 4 r).map (N .u64)) 30]) (by exact (by repeat (first | apply SubW.nil | refine SubW.cons (by repeat (first | apply Find.here | apply Find.there)) ?_))) rfl

set_option maxHeartbeats 2000000 in
theorem rinv_spec {a : Nat} (ha : a < W ^ 4) : Spec Try.prog 58 [LV .u64 (D 4 a)] NoPre [] (IsV (LV .u64 (D 4 (a ^ (r - 2) % r)))) := by
  refine mk_spec Try.func58 rfl rfl rfl fun w _ => ?_
  have hla := D_len 4 a
  have hlr := D_len 4 r
  have hl1 := D_len 4 1
  have hld := D_len 4 (r - 2)
  repeat (first
    |(rw [one4])|(refine st_alloc (v := LV .u64 (List.replicate 4 0)) (by rfl) (by rfl) fun _ => ?_)
    |(refine st_buildP (kk := .u64) (vs := [1]) (by rfl) (by rfl) (by rfl) (by rfl) (by rfl) (by rfl) (by rfl) (by rfl) ?_)
    |(refine st_buildSliceN (vs := [2]) (kk := .u64) (by rfl) (by rfl) (by rfl) (by rfl) (by rfl) (by rfl) (by rfl) (by rfl) fun _ => ?_)
    |((refine st_call (by rfl) (by rfl) (by rfl) (rR1_spec) .nil (fun _ _ => trivial) (by rfl) ?_; rintro u0 _ rfl))
    |(((refine st_call (by rfl) (by rfl) (by rfl) (sub3_spec _ _ (D 4 r) [2] (D_lt _ _) (fun x hx => by simp at hx; subst hx; decide) (by omega) (by decide)) .nil (fun w hw => ⟨RdW.own (by repeat (first | apply Find.here | apply Find.there)) w hw, RdW.own (by repeat (first | apply Find.here | apply Find.there)) w hw⟩) (by rfl) ?_; rintro _ _ ⟨u, rfl, rfl⟩); rw [hlr, show max 4 [2].length = 4 from rfl, sub2, sub2']))
    |refine Z01 ?_|refine Z02 ?_|refine Z03 ?_|refine Z04 ?_|refine Z05 ?_|refine Z06 ?_|refine Z07 ?_|refine Z08 ?_|refine Z09 ?_|refine Z10 ?_|refine Z11 ?_
    |refine Z12 ?_|refine Z13 ?_|refine Z14 ?_|refine Z16 ?_|refine Z17 ?_|refine Z18 ?_|refine Z19 ?_|refine Z22 ?_|refine Z23 ?_|refine Z24 ?_|refine Z25 ?_
    |refine Z26 ?_|refine Z27 ?_|refine Z28 ?_|refine Z29 ?_|refine Z30 ?_|refine Z31 ?_|refine Z32 ?_|refine Z37 ?_|refine Z38 ?_|refine Z40 ?_|refine Z42 ?_
    |refine Z44 ?_|refine Z45 ?_|refine Z65 ?_|refine Z67 ?_|refine Z71 ?_|refine Z74 ?_|refine Z80 ?_|refine Z81 fun _ => ?_|refine Z82 fun _ => ?_
    |refine Z85 fun _ => ?_)
  rename_i b1 b2 s9 b5
  refine st_loop (ι := Nat) (fun j => j ≤ 256) (fun j => [(1, pt b1 0), (2, pt b2 0), (3, u), (5, pt b5 0), (6, .int .i64 ((j : Int) - 1))]) (fun j => [.blk b5 (LV .u64 (D 4 (a ^ ((r - 2) / 2 ^ j) % r))) 39, .sl u ((D 4 (r - 2)).map (N .u64)) 30, .blk b1 (LV .u64 (D 4 a)) 39, .blk b2 (LV .u64 (List.replicate 4 0)) 39]) (fun j => j) 256 (Nat.le_refl _) (by repeat (first | apply subL.nil | refine subL.cons (by rfl) ?_)) (by rw [rpow0]; exact (by repeat (first | apply SubW.nil | refine SubW.cons (by repeat (first | apply Find.here | apply Find.there)) ?_))) ?_
  intro j hj
  have hle := fun x => D_len 4 (a ^ x % r)
  repeat (first
    |refine Z01 ?_|refine Z02 ?_|refine Z03 ?_|refine Z04 ?_|refine Z05 ?_|refine Z06 ?_|refine Z07 ?_|refine Z08 ?_|refine Z09 ?_|refine Z10 ?_|refine Z11 ?_
    |refine Z12 ?_|refine Z13 ?_|refine Z14 ?_|refine Z16 ?_|refine Z17 ?_|refine Z18 ?_|refine Z19 ?_|refine Z22 ?_|refine Z23 ?_|refine Z24 ?_|refine Z25 ?_
    |refine Z26 ?_|refine Z27 ?_|refine Z28 ?_|refine Z29 ?_|refine Z30 ?_|refine Z31 ?_|refine Z32 ?_|refine Z37 ?_|refine Z38 ?_|refine Z40 ?_|refine Z42 ?_
    |refine Z44 ?_|refine Z45 ?_|refine Z65 ?_|refine Z67 ?_|refine Z71 ?_|refine Z74 ?_|refine Z80 ?_|refine Z81 fun _ => ?_|refine Z82 fun _ => ?_
    |refine Z85 fun _ => ?_)
  refine st_cond (by rfl) (fun h => ?_) (fun h => ?_)
  · have h0 : (0 : Int) ≤ (j : Int) - 1 := h
    obtain ⟨i, rfl⟩ : ∃ i, j = i + 1 := ⟨j - 1, by omega⟩
    rw [show ((i + 1 : Nat) : Int) - 1 = Int.ofNat i by simp]
    have hkk : i / 64 < 4 := by omega
    have hst := bit_step (r - 2) i
    have hbt := bit_and (D_lt 4 (r - 2)) i
    rw [V_D' r2_lt] at hbt
    generalize (r - 2) / 2 ^ (i + 1) = x at hst ⊢
    have hl2 := hle (2 * x)
    have hlx := hle x
    repeat (first
      |((refine st_callV (by rfl) (by rfl) (by rfl) (rmul_spec (a := a ^ x % r) (b := a ^ x % r) (mod_r _) (mod_r _)) (fun _ _ => trivial) (by rfl) ?_; rw [pow_dbl]))
      |(rw [hbt])|refine Z01 ?_|refine Z02 ?_|refine Z03 ?_|refine Z04 ?_|refine Z05 ?_|refine Z06 ?_|refine Z07 ?_|refine Z08 ?_|refine Z09 ?_|refine Z10 ?_
      |refine Z11 ?_|refine Z12 ?_|refine Z13 ?_|refine Z14 ?_|refine Z16 ?_|refine Z17 ?_|refine Z18 ?_|refine Z19 ?_|refine Z22 ?_|refine Z23 ?_|refine Z24 ?_
      |refine Z25 ?_|refine Z26 ?_|refine Z27 ?_|refine Z28 ?_|refine Z29 ?_|refine Z30 ?_|refine Z31 ?_|refine Z32 ?_|refine Z37 ?_|refine Z38 ?_|refine Z40 ?_
      |refine Z42 ?_|refine Z44 ?_|refine Z45 ?_|refine Z65 ?_|refine Z67 ?_|refine Z71 ?_|refine Z74 ?_|refine Z80 ?_|refine Z81 fun _ => ?_|refine Z82 fun _ => ?_
      |refine Z85 fun _ => ?_)
    refine st_cond (by rfl) (fun hb => ?_) (fun hb => ?_)
    · have hx1 : (r - 2) / 2 ^ i = 2 * x + 1 := by omega
      have hl3 := hle (2 * x + 1)
      repeat (first
        |((refine st_callV (by rfl) (by rfl) (by rfl) (rmul_spec (a := a ^ (2 * x) % r) (mod_r _) ha) (fun _ _ => trivial) (by rfl) ?_; rw [pow_inc]))|refine Z01 ?_
        |refine Z02 ?_|refine Z03 ?_|refine Z04 ?_|refine Z05 ?_|refine Z06 ?_|refine Z07 ?_|refine Z08 ?_|refine Z09 ?_|refine Z10 ?_|refine Z11 ?_|refine Z12 ?_
        |refine Z13 ?_|refine Z14 ?_|refine Z16 ?_|refine Z17 ?_|refine Z18 ?_|refine Z19 ?_|refine Z22 ?_|refine Z23 ?_|refine Z24 ?_|refine Z25 ?_|refine Z26 ?_
        |refine Z27 ?_|refine Z28 ?_|refine Z29 ?_|refine Z30 ?_|refine Z31 ?_|refine Z32 ?_|refine Z37 ?_|refine Z38 ?_|refine Z40 ?_|refine Z42 ?_|refine Z44 ?_
        |refine Z45 ?_|refine Z65 ?_|refine Z67 ?_|refine Z71 ?_|refine Z74 ?_|refine Z80 ?_|refine Z81 fun _ => ?_|refine Z82 fun _ => ?_|refine Z85 fun _ => ?_)
      refine st_round i (by omega) (by omega) ?_ (by rw [hx1]; exact (by repeat (first | apply SubW.nil | refine SubW.cons (by repeat (first | apply Find.here | apply Find.there)) ?_)))
      rw [show ((i : Int) - 1) = Int.ofNat i - Int.ofNat 1 from rfl]
      exact (by repeat (first | apply subL.nil | refine subL.cons (by rfl) ?_))
    · have hx1 : (r - 2) / 2 ^ i = 2 * x := by omega
      repeat (first
        |refine Z01 ?_|refine Z02 ?_|refine Z03 ?_|refine Z04 ?_|refine Z05 ?_|refine Z06 ?_|refine Z07 ?_|refine Z08 ?_|refine Z09 ?_|refine Z10 ?_|refine Z11 ?_
        |refine Z12 ?_|refine Z13 ?_|refine Z14 ?_|refine Z16 ?_|refine Z17 ?_|refine Z18 ?_|refine Z19 ?_|refine Z22 ?_|refine Z23 ?_|refine Z24 ?_|refine Z25 ?_
        |refine Z26 ?_|refine Z27 ?_|refine Z28 ?_|refine Z29 ?_|refine Z30 ?_|refine Z31 ?_|refine Z32 ?_|refine Z37 ?_|refine Z38 ?_|refine Z40 ?_|refine Z42 ?_
        |refine Z44 ?_|refine Z45 ?_|refine Z65 ?_|refine Z67 ?_|refine Z71 ?_|refine Z74 ?_|refine Z80 ?_|refine Z81 fun _ => ?_|refine Z82 fun _ => ?_
        |refine Z85 fun _ => ?_)
      refine st_round i (by omega) (by omega) ?_ (by rw [hx1]; exact (by repeat (first | apply SubW.nil | refine SubW.cons (by repeat (first | apply Find.here | apply Find.there)) ?_)))
      rw [show ((i : Int) - 1) = Int.ofNat i - Int.ofNat 1 from rfl]
      exact (by repeat (first | apply subL.nil | refine subL.cons (by rfl) ?_))
  · have hp : ¬ (0 : Int) ≤ (j : Int) - 1 := h
    have hj0 : j = 0 := by omega
    subst hj0
    have he := hle (r - 2)
    rw [Nat.pow_zero, Nat.div_one]
    repeat (first
      |refine Z01 ?_|refine Z02 ?_|refine Z03 ?_|refine Z04 ?_|refine Z05 ?_|refine Z06 ?_|refine Z07 ?_|refine Z08 ?_|refine Z09 ?_|refine Z10 ?_|refine Z11 ?_
      |refine Z12 ?_|refine Z13 ?_|refine Z14 ?_|refine Z16 ?_|refine Z17 ?_|refine Z18 ?_|refine Z19 ?_|refine Z22 ?_|refine Z23 ?_|refine Z24 ?_|refine Z25 ?_
      |refine Z26 ?_|refine Z27 ?_|refine Z28 ?_|refine Z29 ?_|refine Z30 ?_|refine Z31 ?_|refine Z32 ?_|refine Z37 ?_|refine Z38 ?_|refine Z40 ?_|refine Z42 ?_
      |refine Z44 ?_|refine Z45 ?_|refine Z65 ?_|refine Z67 ?_|refine Z71 ?_|refine Z74 ?_|refine Z80 ?_|refine Z81 fun _ => ?_|refine Z82 fun _ => ?_
      |refine Z85 fun _ => ?_)
    refine Zec fun _ hw => post_of hw SubW.nil ⟨?_, rfl⟩
    rfl

theorem roctets_spec (s : Value) (bs : List Nat) (hb : Lt 256 bs) (hl : bs.length < 65536) :
    Spec Try.prog 54 [s] (fun w => Rd w s (bs.map (N .u8))) [] (IsV (LV .u64 (D 4 (bval bs % r)))) := by
  refine mk_spec Try.func54 rfl rfl rfl fun w hr => ?_
  have hr := RdC.mk0 hr
  have hv := V_D' (words_fit hb)
  have hml := D_len 4 (bval bs % r)
  have hdl := D_len ((bs.length + 7) / 8) (bval bs)
  repeat (first
    |(refine st_alloc (v := LV .u64 (List.replicate 4 0)) (by rfl) (by rfl) fun _ => ?_)
    |((refine st_call (by rfl) (by rfl) (by rfl) (words3_spec s bs hb (by omega)) .nil (RdW.old hr) (by rfl) ?_; rintro u _ rfl))
    |((refine st_callV (by rfl) (by rfl) (by rfl) (rwide_spec _ (D ((bs.length + 7) / 8) (bval bs)) (D_lt _ _) (by omega)) (RdW.own (by repeat (first | apply Find.here | apply Find.there))) (by rfl) ?_; rw [hv]))
    |refine Z01 ?_|refine Z03 ?_|refine Z04 ?_|refine Z05 ?_|refine Z06 ?_|refine Z07 ?_|refine Z08 ?_|refine Z09 ?_|refine Z10 ?_|refine Z11 ?_|refine Z12 ?_
    |refine Z13 ?_|refine Z14 ?_|refine Z29 ?_|refine Z30 ?_|refine Z31 ?_|refine Z32 ?_|refine Z82 fun _ => ?_)
  refine Zec fun _ hw => post_of hw SubW.nil ⟨?_, rfl⟩
  rfl

set_option maxHeartbeats 2000000 in
theorem rbytes_spec {a : Nat} (ha : a < W ^ 4) : Spec Try.prog 56 [LV .u64 (D 4 a)] NoPre [] (IsV (LV .u8 (octs (a % r) 32))) := by
  refine mk_spec Try.func56 rfl rfl rfl fun w _ => ?_
  have hla := D_len 4 a
  have hl1 := D_len 4 (a % r)
  have hol := octs_len (a % r) 32
  have hv := V_D' (mod_r a)
  generalize hO : octs (a % r) 32 = O at hol
  have hal : O.length = (List.replicate 32 0).length := by rw [hol, List.length_replicate]
  repeat (first
    |(refine st_alloc (v := LV .u64 (List.replicate 4 0)) (by rfl) (by rfl) fun _ => ?_)
    |(refine st_alloc (v := LV .u8 (List.replicate 32 0)) (by rfl) (by rfl) fun _ => ?_)
    |(refine st_callV (by rfl) (by rfl) (by rfl) (rreduce_spec ha) (fun _ _ => trivial) (by rfl) ?_)
    |(((refine st_call (by rfl) (by rfl) (by rfl) (octets3_spec _ (D 4 (a % r)) 32 (D_lt _ _) (by omega) (by decide)) .nil (RdW.arrAll (m := 4) (by repeat (first | apply Find.here | apply Find.there)) hl1) (by rfl) ?_; rintro u _ rfl); rw [hv, hO]))
    |refine Z01 ?_|refine Z02 ?_|refine Z03 ?_|refine Z04 ?_|refine Z05 ?_|refine Z06 ?_|refine Z07 ?_|refine Z08 ?_|refine Z09 ?_|refine Z10 ?_|refine Z11 ?_
    |refine Z12 ?_|refine Z13 ?_|refine Z14 ?_|refine Z15 ?_|refine Z17 ?_|refine Z18 ?_|refine Z22 ?_|refine Z23 ?_|refine Z24 ?_|refine Z25 ?_|refine Z26 ?_
    |refine Z27 ?_|refine Z28 ?_|refine Z29 ?_|refine Z30 ?_|refine Z31 ?_|refine Z32 ?_|refine Z62 ?_|refine Z63 ?_|refine Z64 ?_|refine Z67 ?_|refine Z70 ?_
    |refine Z81 fun _ => ?_|refine Z82 fun _ => ?_)
  rename_i b1 b2 b3 b5
  refine st_loop (ι := Nat) (fun i => i ≤ 32) (fun i => [(2, pt b2 0), (4, u), (5, pt b5 0), (6, N .i64 i)]) (fun i => [.blk b5 (LV .u8 (Sha.mixT O (List.replicate 32 0) i)) 53, .sl u (O.map (N .u8)) 5, .blk b2 (LV .u8 (List.replicate 32 0)) 53]) (fun i => 32 - i) 0 (by omega) (by repeat (first | apply subL.nil | refine subL.cons (by rfl) ?_)) (by rw [Sha.mixT_0]; exact (by repeat (first | apply SubW.nil | refine SubW.cons (by repeat (first | apply Find.here | apply Find.there)) ?_))) ?_
  intro i hi
  have hml := Sha.mixT_len hal i
  rw [List.length_replicate] at hml
  by_cases h : i < 32
  · repeat (first
      |(refine st_cmp (r := true) (by rfl) (by rfl) (cmpN_t (by first | (simp only [cmpP]; done) | (simp only [cmpP]; omega))) (by rfl) ?_)|refine Z01 ?_|refine Z02 ?_
      |refine Z03 ?_|refine Z04 ?_|refine Z05 ?_|refine Z06 ?_|refine Z07 ?_|refine Z08 ?_|refine Z09 ?_|refine Z10 ?_|refine Z11 ?_|refine Z12 ?_|refine Z13 ?_
      |refine Z14 ?_|refine Z15 ?_|refine Z17 ?_|refine Z18 ?_|refine Z22 ?_|refine Z23 ?_|refine Z24 ?_|refine Z25 ?_|refine Z26 ?_|refine Z27 ?_|refine Z28 ?_
      |refine Z29 ?_|refine Z30 ?_|refine Z31 ?_|refine Z32 ?_|refine Z62 ?_|refine Z63 ?_|refine Z64 ?_|refine Z67 ?_|refine Z70 ?_|refine Z81 fun _ => ?_
      |refine Z82 fun _ => ?_)
    rw [Sha.mix_take hal (by simp; omega)]
    repeat (first
      |refine Z01 ?_|refine Z02 ?_|refine Z03 ?_|refine Z04 ?_|refine Z05 ?_|refine Z06 ?_|refine Z07 ?_|refine Z08 ?_|refine Z09 ?_|refine Z10 ?_|refine Z11 ?_
      |refine Z12 ?_|refine Z13 ?_|refine Z14 ?_|refine Z15 ?_|refine Z17 ?_|refine Z18 ?_|refine Z22 ?_|refine Z23 ?_|refine Z24 ?_|refine Z25 ?_|refine Z26 ?_
      |refine Z27 ?_|refine Z28 ?_|refine Z29 ?_|refine Z30 ?_|refine Z31 ?_|refine Z32 ?_|refine Z62 ?_|refine Z63 ?_|refine Z64 ?_|refine Z67 ?_|refine Z70 ?_
      |refine Z81 fun _ => ?_|refine Z82 fun _ => ?_)
    exact st_round (i + 1) (by omega) (by omega) (by repeat (first | apply subL.nil | refine subL.cons (by rfl) ?_)) (by repeat (first | apply SubW.nil | refine SubW.cons (by repeat (first | apply Find.here | apply Find.there)) ?_))
  · have hie : i = 32 := by omega
    subst hie
    rw [show Sha.mixT O (List.replicate 32 0) 32 = O from Sha.mixT_all hal]
    repeat (first
      |(refine st_cmp (r := false) (by rfl) (by rfl) (cmpN_f (by first | (simp only [cmpQ]; done) | (simp only [cmpQ]; omega))) (by rfl) ?_)|refine Z01 ?_|refine Z02 ?_
      |refine Z03 ?_|refine Z04 ?_|refine Z05 ?_|refine Z06 ?_|refine Z07 ?_|refine Z08 ?_|refine Z09 ?_|refine Z10 ?_|refine Z11 ?_|refine Z12 ?_|refine Z13 ?_
      |refine Z14 ?_|refine Z15 ?_|refine Z17 ?_|refine Z18 ?_|refine Z22 ?_|refine Z23 ?_|refine Z24 ?_|refine Z25 ?_|refine Z26 ?_|refine Z27 ?_|refine Z28 ?_
      |refine Z29 ?_|refine Z30 ?_|refine Z31 ?_|refine Z32 ?_|refine Z62 ?_|refine Z63 ?_|refine Z64 ?_|refine Z67 ?_|refine Z70 ?_|refine Z81 fun _ => ?_
      |refine Z82 fun _ => ?_)
    refine Zec fun _ hw => post_of hw SubW.nil ⟨?_, rfl⟩
    rfl
end Go.Proofs.Ytbjfjkmidhfgcaa.L
