/- The numbers modulo r: the program's walks. Conditions: as each statement says. -/
import Derived.Test.YtbjfjkmidhfgcaaAuto
import Derived.Test.YtbjfjkmidhfgcaaPerm
import Derived.Test.YtbjfjkmidhfgcaaMore
import Derived.Test.YtbjfjkmidhfgcaaProg
import Derived.Test.YtbjfjkmidhfgcaaNum
import Derived.Test.YtbjfjkmidhfgcaaLmb
import Derived.Test.YtbjfjkmidhfgcaaLmd
import Derived.Test.YtbjfjkmidhfgcaaLmo
import Derived.Test.YtbjfjkmidhfgcaaScope
import Derived.Test.YtbjfjkmidhfgcaaJoin
import Derived.Test.YtbjfjkmidhfgcaaLma
import Derived.Test.YtbjfjkmidhfgcaaLmz
import Derived.Test.YtbjfjkmidhfgcaaLmc
import Derived.Test.YtbjfjkmidhfgcaaLme
import Derived.Test.YtbjfjkmidhfgcaaLmf
import Derived.Test.YtbjfjkmidhfgcaaLmh
import Derived.Test.YtbjfjkmidhfgcaaLmj
import Derived.Test.YtbjfjkmidhfgcaaShaT
import Derived.Test.YtbjfjkmidhfgcaaLmp
import Derived.Test.YtbjfjkmidhfgcaaGho
import Derived.Test.YtbjfjkmidhfgcaaBld
import Derived.Test.YtbjfjkmidhfgcaaPq
namespace Go.Proofs.Ytbjfjkmidhfgcaa.L
open Go Go.Proofs
set_option maxRecDepth 100000
attribute [local irreducible] Code.wp wpList Af bodyPost L.Go
open Num
attribute [local simp] D_len octs_len

/-! ## r -/
def r : Nat := 52435875175126190479447740508185965837690552500527637822603658699938581184513
theorem r_prime : Pr.Prime r := Pr.prime_r
theorem r_pos : 0 < r := by decide +kernel
theorem r_lt : r < W ^ 4 := by decide +kernel
theorem r_lit : ([18446744069414584321, 6034159408538082302, 3691218898639771653, 8353516859464449352] : List Nat) = D 4 r := by decide +kernel
theorem one_lit : ([1, 0, 0, 0] : List Nat) = D 4 1 := by decide +kernel
theorem zero_lit : (List.replicate 4 0 : List Nat) = D 4 0 := (D_zero 4).symm
attribute [irreducible] r
theorem mod_r (a : Nat) : a % r < W ^ 4 := Nat.lt_trans (Nat.mod_lt _ r_pos) r_lt
theorem lt64' {x : Nat} (h : Nat.blt x 18446744073709551616 = true) : x < 18446744073709551616 := Nat.le_of_ble_eq_true h
theorem add_kk {k : Nat} (hk : k < 1000000) (s t : Value) {a b : Nat} (ha : a < W ^ k) (hb : b < W ^ k) :
    Spec Try.prog 27 [s, t] (fun w => Rd w s ((D k a).map (N .u64)) ∧ Rd w t ((D k b).map (N .u64))) []
      (fun v Wr => ∃ u, v = .tuple [u, N .u64 ((a + b) / W ^ k)].toArray ∧ Wr = [.sl u ((D k (a + b)).map (N .u64)) 30]) := by
  have h := add_spec s t (D k a) (D k b) (D_lt _ _) (D_lt _ _) (by rw [D_len]; omega) (by rw [D_len]; omega)
  rw [D_len, D_len, V_D' ha, V_D' hb, Nat.max_self] at h
  exact h
theorem sub_kk {k : Nat} (hk : k < 1000000) (s t : Value) {a b : Nat} (ha : a < W ^ k) (hba : b ≤ a) :
    Spec Try.prog 29 [s, t] (fun w => Rd w s ((D k a).map (N .u64)) ∧ Rd w t ((D k b).map (N .u64))) []
      (fun v Wr => ∃ u, v = .tuple [u, N .u64 0].toArray ∧ Wr = [.sl u ((D k (a - b)).map (N .u64)) 30]) := by
  have h := sub_spec s t (D k a) (D k b) (D_lt _ _) (D_lt _ _) (by rw [D_len]; omega) (by rw [D_len]; omega)
  have hb : b < W ^ k := Nat.lt_of_le_of_lt hba ha
  have h1 : bwn a b = 0 := by unfold bwn; rw [if_neg (by omega)]
  have h2 : D k (sbn k a b) = D k (a - b) := by
    rw [sbn, show a + W ^ k - b = a - b + W ^ k by omega, ← D_mod, Nat.add_mod_right, D_mod]
  rw [D_len, D_len, V_D' ha, V_D' hb, Nat.max_self, h1, h2] at h
  exact h

theorem fR_spec : Spec Try.prog 38 [] NoPre [] (IsV (LV .u64 (D 4 r))) := by
  refine mk_spec Try.func38 rfl rfl rfl fun w _ => ?_
  repeat (first
    |(refine st_alloc (v := LV .u64 (List.replicate 4 0)) (by rfl) (by rfl) fun _ => ?_)
    |(refine st_buildP (kk := .u64) (vs := [18446744069414584321, 6034159408538082302, 3691218898639771653, 8353516859464449352]) (by rfl) (by rfl) (by rfl) (by rfl) (by rfl) (by rfl) (by rfl) (by rfl) ?_)
    |refine Z03 ?_|refine Z04 ?_|refine Z05 ?_|refine Z06 ?_|refine Z07 ?_|refine Z08 ?_|refine Z09 ?_|refine Z10 ?_|refine Z11 ?_|refine Z12 ?_|refine Z13 ?_
    |refine Z14 ?_|refine Z29 ?_|refine Z30 ?_|refine Z31 ?_|refine Z32 ?_|refine Z65 ?_|refine Z82 fun _ => ?_)
  refine Zec fun _ hw => post_of hw SubW.nil ⟨?_, rfl⟩
  rw [← r_lit]; rfl

theorem fwide_spec (s : Value) (xs : List Nat) (hx : Lt 18446744073709551616 xs) (hl : xs.length < 1000000) :
    Spec Try.prog 80 [s] (fun w => Rd w s (xs.map (N .u64))) [] (IsV (LV .u64 (D 4 (V xs % r)))) := by
  refine mk_spec Try.func80 rfl rfl rfl fun w hr => ?_
  have hr := RdC.mk0 hr
  have hrl := D_len 4 r
  have hv := V_D' r_lt
  have hml := D_len 4 (V xs % r)
  have htk : (D 4 (V xs % r)).take 4 = D 4 (V xs % r) := List.take_of_length_le (by omega)
  repeat (first
    |(refine st_alloc (v := LV .u64 (List.replicate 4 0)) (by rfl) (by rfl) fun _ => ?_)
    |(refine st_callV (by rfl) (by rfl) (by rfl) (fR_spec) (fun _ _ => trivial) (by rfl) ?_)
    |((refine st_call (by rfl) (by rfl) (by rfl) (mod_spec s _ xs (D 4 r) hx (D_lt _ _) hl (by omega)) .nil (fun w hw => ⟨RdW.old hr w hw, RdW.arrAll (m := 4) (by repeat (first | apply Find.here | apply Find.there)) hrl w hw⟩) (by rfl) ?_; rintro _ _ (⟨hz, _, _⟩ | ⟨_, u, rfl, rfl⟩); exact absurd hz (by rw [hv]; exact Nat.ne_of_gt r_pos); rw [hv, hrl]))
    |(rw [htk])|refine Z01 ?_|refine Z02 ?_|refine Z03 ?_|refine Z04 ?_|refine Z05 ?_|refine Z06 ?_|refine Z07 ?_|refine Z08 ?_|refine Z09 ?_|refine Z10 ?_|refine Z11 ?_
    |refine Z12 ?_|refine Z13 ?_|refine Z14 ?_|refine Z19 ?_|refine Z24 ?_|refine Z25 ?_|refine Z26 ?_|refine Z27 ?_|refine Z28 ?_|refine Z29 ?_|refine Z30 ?_
    |refine Z31 ?_|refine Z32 ?_|refine Z62 ?_|refine Z63 ?_|refine Z64 ?_|refine Z66 ?_|refine Z67 ?_|refine Z82 fun _ => ?_)
  refine Zec fun _ hw => post_of hw SubW.nil ⟨?_, rfl⟩
  rfl

theorem freduce_spec {a : Nat} (ha : a < W ^ 4) : Spec Try.prog 40 [LV .u64 (D 4 a)] NoPre [] (IsV (LV .u64 (D 4 (a % r)))) := by
  refine mk_spec Try.func40 rfl rfl rfl fun w _ => ?_
  have hl := D_len 4 a
  have hv := V_D' ha
  have hml := D_len 4 (a % r)
  repeat (first
    |(refine st_alloc (v := LV .u64 (List.replicate 4 0)) (by rfl) (by rfl) fun _ => ?_)
    |((refine st_callV (by rfl) (by rfl) (by rfl) (fwide_spec _ (D 4 a) (D_lt _ _) (by omega)) (RdW.arrAll (m := 4) (by repeat (first | apply Find.here | apply Find.there)) hl) (by rfl) ?_; rw [hv]))
    |refine Z03 ?_|refine Z04 ?_|refine Z05 ?_|refine Z06 ?_|refine Z07 ?_|refine Z08 ?_|refine Z09 ?_|refine Z10 ?_|refine Z11 ?_|refine Z12 ?_|refine Z13 ?_
    |refine Z14 ?_|refine Z29 ?_|refine Z30 ?_|refine Z31 ?_|refine Z32 ?_|refine Z62 ?_|refine Z63 ?_|refine Z64 ?_|refine Z81 fun _ => ?_|refine Z82 fun _ => ?_)
  refine Zec fun _ hw => post_of hw SubW.nil ⟨?_, rfl⟩
  rfl

theorem app_V {n S : Nat} : V (D n S ++ [S / W ^ n]) = S := by
  rw [V_append, V_D, V_one, D_len, Nat.mod_add_div]
theorem fadd_spec {a b : Nat} (ha : a < W ^ 4) (hb : b < W ^ 4) : Spec Try.prog 42 [LV .u64 (D 4 a), LV .u64 (D 4 b)] NoPre [] (IsV (LV .u64 (D 4 ((a + b) % r)))) := by
  refine mk_spec Try.func42 rfl rfl rfl fun w _ => ?_
  have hla := D_len 4 a
  have hlb := D_len 4 b
  have hls := D_len 4 (a + b)
  have hml := D_len 4 ((a + b) % r)
  have hc : (a + b) / W ^ 4 < 18446744073709551616 := by
    refine Nat.div_lt_of_lt_mul ?_
    have : 2 ≤ W := by decide
    rw [show (18446744073709551616 : Nat) = W from rfl]
    have := Nat.mul_le_mul_left (W ^ 4) this
    omega
  have hA := app_V (n := 4) (S := a + b)
  have hB : Lt 18446744073709551616 (D 4 (a + b) ++ [(a + b) / W ^ 4]) := fun x hx => by
    rcases List.mem_append.1 hx with hx | hx
    · exact D_lt _ _ x hx
    · simp at hx; subst hx; exact hc
  have hL : (D 4 (a + b) ++ [(a + b) / W ^ 4]).length = 5 := by simp
  repeat (first
    |(refine st_alloc (v := LV .u64 (List.replicate 4 0)) (by rfl) (by rfl) fun _ => ?_)|refine Z01 ?_|refine Z02 ?_|refine Z03 ?_|refine Z04 ?_|refine Z05 ?_
    |refine Z06 ?_|refine Z07 ?_|refine Z08 ?_|refine Z09 ?_|refine Z10 ?_|refine Z11 ?_|refine Z12 ?_|refine Z13 ?_|refine Z14 ?_|refine Z19 ?_|refine Z29 ?_
    |refine Z30 ?_|refine Z31 ?_|refine Z32 ?_|refine Z62 ?_|refine Z63 ?_|refine Z64 ?_|refine Z81 fun _ => ?_|refine Z82 fun _ => ?_|refine Z84 fun _ => ?_
    |refine Z85 fun _ => ?_)
  refine st_perm [0, 1, 2, 3, 4, 5, 6, 7] (by rfl) ?_
  repeat (first
    |refine Zpf (by rfl)
      (by intro _ _ _;(first
      |refine Z01 ?_|refine Z02 ?_|refine Z19 ?_|refine Z62 ?_|refine Z63 ?_|refine Z64 ?_);exact Zq) ?_
    |refine Zpp (by rfl)
      (by intro _ _ _;(first
      |refine Z62 ?_);exact Zq) ?_
    |refine Zps (by rfl)
      (by intro _ _ _;(first
      |refine Z29 ?_|refine Z30 ?_|refine Z31 ?_|refine Z32 ?_);exact Zqq) ?_
    |refine Zpn (by rfl)
      (by intro _ _ _;(first
      |refine Z81 fun _ => ?_|refine Z82 fun _ => ?_|refine Z84 fun _ => ?_|refine Z85 fun _ => ?_);exact Zpx) fun _ => ?_
    |refine Zpg (by rfl)
      (by intro _ _ _;(refine st_call (by rfl) (by rfl) (by rfl) (add_kk (by decide) _ _ ha hb) .nil (fun w hw => ⟨RdW.arrAll (m := 4) (by repeat (first | apply Find.here | apply Find.there)) hla w hw, RdW.arrAll (m := 4) (by repeat (first | apply Find.here | apply Find.there)) hlb w hw⟩) (by rfl) ?_; rintro _ _ ⟨u, rfl, rfl⟩);exact Zpgx u) fun _ => ?_
    |refine Zpo (by rfl) ?_)
  refine Zp0 ?_
  repeat (first
    
    |((refine st_callV (by rfl) (by rfl) (by rfl) (fwide_spec _ (D 4 (a + b) ++ [(a + b) / W ^ 4]) hB (by omega)) (RdW.own (by repeat (first | apply Find.here | apply Find.there))) (by rfl) ?_; rw [hA]))
    |refine Z01 ?_|refine Z02 ?_|refine Z03 ?_|refine Z04 ?_|refine Z05 ?_|refine Z06 ?_|refine Z07 ?_|refine Z08 ?_|refine Z09 ?_|refine Z10 ?_|refine Z11 ?_
    |refine Z12 ?_|refine Z13 ?_|refine Z14 ?_|refine Z19 ?_|refine Z29 ?_|refine Z30 ?_|refine Z31 ?_|refine Z32 ?_|refine Z62 ?_|refine Z63 ?_|refine Z64 ?_
    |refine Z81 fun _ => ?_|refine Z82 fun _ => ?_|refine Z84 fun _ => ?_|refine Z85 fun _ => ?_)
  refine Zec fun _ hw => post_of hw SubW.nil ⟨?_, rfl⟩
  rfl

theorem fneg_spec {a : Nat} (ha : a < W ^ 4) : Spec Try.prog 44 [LV .u64 (D 4 a)] NoPre [] (IsV (LV .u64 (D 4 ((r - a % r) % r)))) := by
  refine mk_spec Try.func44 rfl rfl rfl fun w _ => ?_
  have hla := D_len 4 a
  have hlr := D_len 4 r
  have hl1 := D_len 4 (a % r)
  have hl2 := D_len 4 (r - a % r)
  have hl3 := D_len 4 ((r - a % r) % r)
  have hlt := Nat.mod_lt a r_pos
  have hv : V (D 4 (r - a % r)) = r - a % r := V_D' (Nat.lt_of_le_of_lt (Nat.sub_le _ _) r_lt)
  repeat (first
    |(refine st_alloc (v := LV .u64 (List.replicate 4 0)) (by rfl) (by rfl) fun _ => ?_)
    |(refine st_callV (by rfl) (by rfl) (by rfl) (freduce_spec ha) (fun _ _ => trivial) (by rfl) ?_)
    |(refine st_callV (by rfl) (by rfl) (by rfl) (fR_spec) (fun _ _ => trivial) (by rfl) ?_)|refine Z01 ?_|refine Z02 ?_|refine Z03 ?_|refine Z04 ?_|refine Z05 ?_
    |refine Z06 ?_|refine Z07 ?_|refine Z08 ?_|refine Z09 ?_|refine Z10 ?_|refine Z11 ?_|refine Z12 ?_|refine Z13 ?_|refine Z14 ?_|refine Z19 ?_|refine Z24 ?_
    |refine Z25 ?_|refine Z26 ?_|refine Z27 ?_|refine Z28 ?_|refine Z29 ?_|refine Z30 ?_|refine Z31 ?_|refine Z32 ?_|refine Z62 ?_|refine Z63 ?_|refine Z64 ?_
    |refine Z67 ?_|refine Z81 fun _ => ?_|refine Z82 fun _ => ?_)
  refine st_perm [0, 1, 2, 3, 4, 5, 6, 7] (by rfl) ?_
  repeat (first
    |refine Zpf (by rfl)
      (by intro _ _ _;(first
      |refine Z01 ?_|refine Z02 ?_|refine Z19 ?_|refine Z62 ?_|refine Z63 ?_|refine Z64 ?_);exact Zq) ?_
    |refine Zpp (by rfl)
      (by intro _ _ _;(first
      |refine Z24 ?_|refine Z25 ?_|refine Z26 ?_|refine Z27 ?_|refine Z28 ?_|refine Z67 ?_|refine Z62 ?_);exact Zq) ?_
    |refine Zps (by rfl)
      (by intro _ _ _;(first
      |refine Z29 ?_|refine Z30 ?_|refine Z31 ?_|refine Z32 ?_);exact Zqq) ?_
    |refine Zpn (by rfl)
      (by intro _ _ _;(first
      |refine Z81 fun _ => ?_|refine Z82 fun _ => ?_);exact Zpx) fun _ => ?_
    |refine Zpg (by rfl)
      (by intro _ _ _;(refine st_call (by rfl) (by rfl) (by rfl) (sub_kk (by decide) _ _ r_lt (Nat.le_of_lt hlt)) .nil (fun w hw => ⟨RdW.arrAll (m := 4) (by repeat (first | apply Find.here | apply Find.there)) hlr w hw, RdW.arrAll (m := 4) (by repeat (first | apply Find.here | apply Find.there)) hl1 w hw⟩) (by rfl) ?_; rintro _ _ ⟨u, rfl, rfl⟩);exact Zpgx u) fun _ => ?_
    |refine Zpo (by rfl) ?_)
  refine Zp0 ?_
  repeat (first
    
    |((refine st_callV (by rfl) (by rfl) (by rfl) (fwide_spec _ (D 4 (r - a % r)) (D_lt _ _) (by omega)) (RdW.own (by repeat (first | apply Find.here | apply Find.there))) (by rfl) ?_; rw [hv]))
    |refine Z01 ?_|refine Z02 ?_|refine Z03 ?_|refine Z04 ?_|refine Z05 ?_|refine Z06 ?_|refine Z07 ?_|refine Z08 ?_|refine Z09 ?_|refine Z10 ?_|refine Z11 ?_
    |refine Z12 ?_|refine Z13 ?_|refine Z14 ?_|refine Z19 ?_|refine Z24 ?_|refine Z25 ?_|refine Z26 ?_|refine Z27 ?_|refine Z28 ?_|refine Z29 ?_|refine Z30 ?_
    |refine Z31 ?_|refine Z32 ?_|refine Z62 ?_|refine Z63 ?_|refine Z64 ?_|refine Z67 ?_|refine Z81 fun _ => ?_|refine Z82 fun _ => ?_)
  refine Zec fun _ hw => post_of hw SubW.nil ⟨?_, rfl⟩
  rfl

theorem fmul_spec {a b : Nat} (ha : a < W ^ 4) (hb : b < W ^ 4) : Spec Try.prog 46 [LV .u64 (D 4 a), LV .u64 (D 4 b)] NoPre [] (IsV (LV .u64 (D 4 (a * b % r)))) := by
  refine mk_spec Try.func46 rfl rfl rfl fun w _ => ?_
  have hla := D_len 4 a
  have hlb := D_len 4 b
  have hls := D_len 8 (a * b)
  have hml := D_len 4 (a * b % r)
  have hva := V_D' ha
  have hvb := V_D' hb
  have hv : V (D 8 (a * b)) = a * b := V_D' (by rw [show 8 = 4 + 4 from rfl, Nat.pow_add]; exact Nat.mul_lt_mul'' ha hb)
  repeat (first
    |(refine st_alloc (v := LV .u64 (List.replicate 4 0)) (by rfl) (by rfl) fun _ => ?_)|refine Z03 ?_|refine Z04 ?_|refine Z05 ?_|refine Z06 ?_|refine Z07 ?_
    |refine Z08 ?_|refine Z09 ?_|refine Z10 ?_|refine Z11 ?_|refine Z12 ?_|refine Z13 ?_|refine Z14 ?_|refine Z29 ?_|refine Z30 ?_|refine Z31 ?_|refine Z32 ?_
    |refine Z62 ?_|refine Z63 ?_|refine Z64 ?_|refine Z81 fun _ => ?_|refine Z82 fun _ => ?_)
  refine st_perm [0, 1, 2, 3, 4] (by rfl) ?_
  repeat (first
    |refine Zpf (by rfl)
      (by intro _ _ _;(first
      |refine Z62 ?_|refine Z63 ?_|refine Z64 ?_);exact Zq) ?_
    |refine Zpp (by rfl)
      (by intro _ _ _;(first
      |refine Z62 ?_);exact Zq) ?_
    |refine Zpp (by rfl)
      (by intro _ _ _;(refine st_callV (by rfl) (by rfl) (by rfl) (fwide_spec _ (D 8 (a * b)) (D_lt _ _) (by omega)) (RdW.own (by repeat (first | apply Find.here | apply Find.there))) (by rfl) ?_; rw [hv]);exact Zq) ?_
    |refine Zps (by rfl)
      (by intro _ _ _;(first
      |refine Z29 ?_|refine Z30 ?_|refine Z31 ?_|refine Z32 ?_);exact Zqq) ?_
    |refine Zpn (by rfl)
      (by intro _ _ _;(first
      |refine Z81 fun _ => ?_|refine Z82 fun _ => ?_);exact Zpx) fun _ => ?_
    |refine Zpn (by rfl)
      (by intro _ _ _;(refine st_call (by rfl) (by rfl) (by rfl) (lmul_spec _ _ (D 4 a) (D 4 b) (D_lt _ _) (D_lt _ _) (by omega) (by omega)) .nil (fun w hw => ⟨RdW.arrAll (m := 4) (by repeat (first | apply Find.here | apply Find.there)) hla w hw, RdW.arrAll (m := 4) (by repeat (first | apply Find.here | apply Find.there)) hlb w hw⟩) (by rfl) ?_; rintro u _ rfl; rw [hva, hvb, hla, hlb]);exact Zpx) fun _ => ?_
    |refine Zpo (by rfl) ?_)
  refine Zp0 ?_
  repeat (first
    |refine Z03 ?_|refine Z04 ?_|refine Z05 ?_|refine Z06 ?_|refine Z07 ?_|refine Z08 ?_|refine Z09 ?_|refine Z10 ?_|refine Z11 ?_|refine Z12 ?_|refine Z13 ?_
    |refine Z14 ?_|refine Z29 ?_|refine Z30 ?_|refine Z31 ?_|refine Z32 ?_|refine Z62 ?_|refine Z63 ?_|refine Z64 ?_|refine Z81 fun _ => ?_|refine Z82 fun _ => ?_)
  refine Zec fun _ hw => post_of hw SubW.nil ⟨?_, rfl⟩
  rfl
end Go.Proofs.Ytbjfjkmidhfgcaa.L
