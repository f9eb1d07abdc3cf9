/- The walks of SHA-256: turning, the schedule, a step. Conditions: as each statement says. -/
import Derived.Test.YtbjfjkmidhfgcaaAuto
import Derived.Test.YtbjfjkmidhfgcaaPerm
import Derived.Test.YtbjfjkmidhfgcaaMore
import Derived.Test.YtbjfjkmidhfgcaaProg
import Derived.Test.YtbjfjkmidhfgcaaSha
namespace Go.Proofs.Ytbjfjkmidhfgcaa.L
open Go Go.Proofs
set_option maxRecDepth 100000
attribute [local irreducible] Code.wp wpList Af bodyPost L.Go
open Sha

theorem rotl_spec (x k : Nat) (hx : x < 4294967296) (hk0 : 0 < k) (hk : k < 32) :
    Spec Try.prog 102 [N .u32 x, .int .i64 (-(k : Int))] NoPre [] (IsV (N .u32 (rr x k))) := by
  refine mk_spec Try.func102 rfl rfl rfl fun w _ => ?_
  have e := neg_turn k hk hk0
  repeat (first
    |refine Z01 ?_|refine Z02 ?_|refine Z03 ?_|refine Z04 ?_|refine Z05 ?_|refine Z06 ?_|refine Z07 ?_|refine Z08 ?_|refine Z09 ?_|refine Z10 ?_|refine Z11 ?_
    |refine Z12 ?_|refine Z13 ?_|refine Z14 ?_|refine Z34 ?_|refine Z40 ?_|refine Z41 ?_|refine Z42 ?_|refine Z43 ?_|refine Z44 ?_|refine Z45 ?_|refine Z74 ?_
    |refine Z80 ?_)
  have e' : ((-(k : Int) % ((18446744073709551616 : Nat) : Int)).toNat % 18446744073709551616 &&& 31 % 18446744073709551616) = 32 - k := e
  rw [e']
  have e2 : (32 + (18446744073709551616 - (32 - k) % 18446744073709551616)) % 18446744073709551616 = k := by omega
  rw [e2]
  repeat (first
    |refine Z01 ?_|refine Z02 ?_|refine Z03 ?_|refine Z04 ?_|refine Z05 ?_|refine Z06 ?_|refine Z07 ?_|refine Z08 ?_|refine Z09 ?_|refine Z10 ?_|refine Z11 ?_
    |refine Z12 ?_|refine Z13 ?_|refine Z14 ?_|refine Z34 ?_|refine Z40 ?_|refine Z41 ?_|refine Z42 ?_|refine Z43 ?_|refine Z44 ?_|refine Z45 ?_|refine Z74 ?_
    |refine Z80 ?_)
  refine Ze1 fun _ hw => post_of hw SubW.nil ⟨?_, rfl⟩
  rw [show (4294967296 : Nat) = 2 ^ 32 from rfl, Nat.mod_mod, Nat.mod_eq_of_lt (shr_lt k hx), Nat.or_comm]
  unfold rr; rfl

theorem turn_spec (x k : Nat) (hx : x < 4294967296) (hk : k < 32) :
    Spec Try.prog 106 [N .u32 x, N .u64 k] NoPre [] (IsV (N .u32 (rr x k))) := by
  refine mk_spec Try.func106 rfl rfl rfl fun w _ => ?_
  repeat (first
    |refine Z01 ?_|refine Z02 ?_|refine Z03 ?_|refine Z04 ?_|refine Z05 ?_|refine Z06 ?_|refine Z07 ?_|refine Z08 ?_|refine Z09 ?_|refine Z10 ?_|refine Z11 ?_
    |refine Z12 ?_|refine Z13 ?_|refine Z14 ?_|refine Z34 ?_|refine Z41 ?_|refine Z42 ?_|refine Z43 ?_)
  have e2 : (32 + (18446744073709551616 - k % 18446744073709551616)) % 18446744073709551616 = 32 - k := by omega
  rw [e2]
  repeat (first
    |refine Z01 ?_|refine Z02 ?_|refine Z03 ?_|refine Z04 ?_|refine Z05 ?_|refine Z06 ?_|refine Z07 ?_|refine Z08 ?_|refine Z09 ?_|refine Z10 ?_|refine Z11 ?_
    |refine Z12 ?_|refine Z13 ?_|refine Z14 ?_|refine Z34 ?_|refine Z41 ?_|refine Z42 ?_|refine Z43 ?_)
  refine Ze1 fun _ hw => post_of hw SubW.nil ⟨?_, rfl⟩
  rw [Nat.mod_mod, Nat.mod_eq_of_lt (shr_lt k hx)]
  unfold rr; rfl

theorem mixed_spec (x p q r : Nat) (hx : x < 4294967296) (hp : 0 < p ∧ p < 32) (hq : 0 < q ∧ q < 32) (hr : r < 32) :
    Spec Try.prog 111 [N .u32 x, N .i64 p, N .i64 q, N .i64 r] NoPre [] (IsV (N .u32 (rr x p ^^^ rr x q ^^^ (x >>> r)))) := by
  refine mk_spec Try.func111 rfl rfl rfl fun w _ => ?_
  repeat (first
    |refine Z01 ?_|refine Z02 ?_|refine Z03 ?_|refine Z04 ?_|refine Z05 ?_|refine Z06 ?_|refine Z07 ?_|refine Z08 ?_|refine Z09 ?_|refine Z10 ?_|refine Z11 ?_
    |refine Z12 ?_|refine Z13 ?_|refine Z14 ?_|refine Z39 ?_|refine Z42 ?_|refine Z72 ?_|refine Z73 ?_)
  refine st_draw1 (by rfl) ?_
  repeat (first
    |refine Zqf (by intro _ _ _;(first
      |refine Z01 ?_|refine Z02 ?_|refine Z39 ?_|refine Z42 ?_|refine Z72 ?_|refine Z73 ?_
      |(refine st_callV (by rfl) (by rfl) (by rfl) (rotl_spec x p hx hp.1 hp.2) (fun _ _ => trivial) (by rfl) ?_)
      |(refine st_callV (by rfl) (by rfl) (by rfl) (rotl_spec x q hx hq.1 hq.2) (fun _ _ => trivial) (by rfl) ?_));exact Zq) ?_
    |refine Zqn ?_)
  refine Zq0 ?_ (by kernel_rfl)
  repeat (first
    |refine Z01 ?_|refine Z02 ?_|refine Z03 ?_|refine Z04 ?_|refine Z05 ?_|refine Z06 ?_|refine Z07 ?_|refine Z08 ?_|refine Z09 ?_|refine Z10 ?_|refine Z11 ?_
    |refine Z12 ?_|refine Z13 ?_|refine Z14 ?_|refine Z39 ?_|refine Z42 ?_|refine Z72 ?_|refine Z73 ?_)
  refine Ze1 fun _ hw => post_of hw SubW.nil ⟨?_, rfl⟩
  rw [Nat.mod_eq_of_lt (rr_lt p hx), Nat.mod_eq_of_lt (rr_lt q hx), Nat.mod_eq_of_lt (xor_lt (rr_lt p hx) (rr_lt q hx)), Nat.mod_eq_of_lt (shr_lt r hx)]

theorem big_spec (x p q r : Nat) (hx : x < 4294967296) (hp : 0 < p ∧ p < 32) (hq : 0 < q ∧ q < 32) (hr : 0 < r ∧ r < 32) :
    Spec Try.prog 101 [N .u32 x, N .i64 p, N .i64 q, N .i64 r] NoPre [] (IsV (N .u32 (rr x p ^^^ rr x q ^^^ rr x r))) := by
  refine mk_spec Try.func101 rfl rfl rfl fun w _ => ?_
  repeat (first
    |(refine st_callV (by rfl) (by rfl) (by rfl) (rotl_spec x p hx hp.1 hp.2) (fun _ _ => trivial) (by rfl) ?_)
    |(refine st_callV (by rfl) (by rfl) (by rfl) (rotl_spec x q hx hq.1 hq.2) (fun _ _ => trivial) (by rfl) ?_)
    |(refine st_callV (by rfl) (by rfl) (by rfl) (rotl_spec x r hx hr.1 hr.2) (fun _ _ => trivial) (by rfl) ?_)|refine Z01 ?_|refine Z02 ?_|refine Z03 ?_|refine Z04 ?_
    |refine Z05 ?_|refine Z06 ?_|refine Z07 ?_|refine Z08 ?_|refine Z09 ?_|refine Z10 ?_|refine Z11 ?_|refine Z12 ?_|refine Z13 ?_|refine Z14 ?_|refine Z39 ?_
    |refine Z72 ?_|refine Z73 ?_)
  refine Ze1 fun _ hw => post_of hw SubW.nil ⟨?_, rfl⟩
  rw [Nat.mod_eq_of_lt (rr_lt p hx), Nat.mod_eq_of_lt (rr_lt q hx), Nat.mod_eq_of_lt (xor_lt (rr_lt p hx) (rr_lt q hx)), Nat.mod_eq_of_lt (rr_lt r hx)]

theorem begin_spec : Spec Try.prog 90 [] NoPre [] (IsV (LV .u32 H0)) := by
  refine mk_spec Try.func90 rfl rfl rfl fun w _ => ?_
  repeat (first
    |(refine st_alloc (v := LV .u32 (List.replicate 8 0)) (by rfl) (by rfl) fun _ => ?_)
    |(refine st_build_arr (vs := H0.map (N .u32)) (by rfl) (by rfl) (by rfl) (by rfl) (by rfl) (by rfl) (by rfl) (by rfl) (by rfl) ?_)|refine Z03 ?_|refine Z04 ?_
    |refine Z05 ?_|refine Z06 ?_|refine Z07 ?_|refine Z08 ?_|refine Z09 ?_|refine Z10 ?_|refine Z11 ?_|refine Z12 ?_|refine Z13 ?_|refine Z14 ?_|refine Z29 ?_
    |refine Z30 ?_|refine Z31 ?_|refine Z32 ?_|refine Z65 ?_|refine Z82 fun _ => ?_)
  refine Zec fun _ hw => post_of hw SubW.nil ⟨?_, rfl⟩
  rfl

theorem rbegin_spec : Spec Try.prog 97 [] NoPre [] (IsV (LV .u32 H0)) := by
  refine mk_spec Try.func97 rfl rfl rfl fun w _ => ?_
  repeat (first
    |(refine st_alloc (v := LV .u32 (List.replicate 8 0)) (by rfl) (by rfl) fun _ => ?_)
    |(refine st_build_arr (vs := H0.map (N .u32)) (by rfl) (by rfl) (by rfl) (by rfl) (by rfl) (by rfl) (by rfl) (by rfl) (by rfl) ?_)|refine Z03 ?_|refine Z04 ?_
    |refine Z05 ?_|refine Z06 ?_|refine Z07 ?_|refine Z08 ?_|refine Z09 ?_|refine Z10 ?_|refine Z11 ?_|refine Z12 ?_|refine Z13 ?_|refine Z14 ?_|refine Z29 ?_
    |refine Z30 ?_|refine Z31 ?_|refine Z32 ?_|refine Z65 ?_|refine Z82 fun _ => ?_)
  refine Zec fun _ hw => post_of hw SubW.nil ⟨?_, rfl⟩
  rfl

theorem k_spec (t : Nat) (ht : t < 64) : Spec Try.prog 107 [N .i64 t] NoPre [] (IsV (N .u32 (Kt.getD t 0))) := by
  refine mk_spec Try.func107 rfl rfl rfl fun w _ => ?_
  have hK := Kt_len
  repeat (first
    |(refine st_alloc (v := LV .u32 (List.replicate 64 0)) (by rfl) (by rfl) fun _ => ?_)
    |(refine st_build_arr (vs := Kt.map (N .u32)) (by rfl) (by rfl) (by rfl) (by rfl) (by rfl) (by rfl) (by rfl) (by rfl) (by rfl) ?_)|refine Z01 ?_|refine Z02 ?_
    |refine Z03 ?_|refine Z04 ?_|refine Z05 ?_|refine Z06 ?_|refine Z07 ?_|refine Z08 ?_|refine Z09 ?_|refine Z10 ?_|refine Z11 ?_|refine Z12 ?_|refine Z13 ?_
    |refine Z14 ?_|refine Z22 ?_|refine Z23 ?_|refine Z24 ?_|refine Z25 ?_|refine Z26 ?_|refine Z27 ?_|refine Z28 ?_|refine Z29 ?_|refine Z30 ?_|refine Z31 ?_
    |refine Z32 ?_|refine Z65 ?_|refine Z67 ?_|refine Z82 fun _ => ?_)
  refine Ze1 fun _ hw => post_of hw SubW.nil ⟨?_, rfl⟩
  rfl
end Go.Proofs.Ytbjfjkmidhfgcaa.L
