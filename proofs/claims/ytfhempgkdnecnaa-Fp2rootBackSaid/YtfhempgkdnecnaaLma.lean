/- Numbers of many words: the walks of sums, differences, orders and products. Conditions: as each statement says. -/
import Derived.Test.YtfhempgkdnecnaaAuto
import Derived.Test.YtfhempgkdnecnaaPerm
import Derived.Test.YtfhempgkdnecnaaMore
import Derived.Test.YtfhempgkdnecnaaProg
import Derived.Test.YtfhempgkdnecnaaNum
import Derived.Test.YtfhempgkdnecnaaLmb
import Derived.Test.YtfhempgkdnecnaaLmd
import Derived.Test.YtfhempgkdnecnaaScope
namespace Go.Proofs.Ytfhempgkdnecnaa.L
open Go Go.Proofs
set_option maxRecDepth 100000
attribute [local irreducible] Code.wp wpList Af bodyPost L.Go
open Num

/-! ## Words -/
theorem add64X (x y c : Nat) (hc : c ≤ 1) : ExtV Try.prog 61 [N .u64 x, N .u64 y, N .u64 c] (.tuple [N .u64 ((x + y + c) % 18446744073709551616), N .u64 ((x + y + c) / 18446744073709551616)].toArray) :=
  ext_add64 Try.func61 (by kernel_rfl) (by kernel_rfl) (by kernel_rfl) (by kernel_rfl) x y c hc
theorem sub64X (x y c : Nat) (hc : c ≤ 1) : ExtV Try.prog 95 [N .u64 x, N .u64 y, N .u64 c] (.tuple [N .u64 ((x + 18446744073709551616 - y - c) % 18446744073709551616), N .u64 (if x < y + c then 1 else 0)].toArray) :=
  ext_sub64 Try.func95 (by kernel_rfl) (by kernel_rfl) (by kernel_rfl) (by kernel_rfl) x y c hc

theorem add64X0 (x y : Nat) : ExtV Try.prog 61 [N .u64 x, N .u64 y, N .u64 0] (.tuple [N .u64 ((x + y) % 18446744073709551616), N .u64 ((x + y) / 18446744073709551616)].toArray) := add64X x y 0 (by decide)

theorem and32 (x : Nat) : x % 18446744073709551616 &&& 4294967295 % 18446744073709551616 = x % 4294967296 := by
  have := Nat.and_two_pow_sub_one_eq_mod (x % 18446744073709551616) 32
  rw [show (4294967295 : Nat) % 18446744073709551616 = 2 ^ 32 - 1 from rfl, this]; omega
theorem shr32 (x : Nat) : x >>> 32 = x / 4294967296 := Nat.shiftRight_eq_div_pow x 32

set_option maxHeartbeats 1000000 in
theorem mul64_spec (x y : Nat) (hx : x < 18446744073709551616) (hy : y < 18446744073709551616) :
    Spec Try.prog 103 [N .u64 x, N .u64 y] NoPre [] (IsV (.tuple [N .u64 (x * y / 18446744073709551616), N .u64 (x * y % 18446744073709551616)].toArray)) := by
  refine mk_spec Try.func103 rfl rfl rfl fun w _ => ?_
  obtain ⟨h1, h2, h3, h4⟩ := mul64_hi x y hx hy
  have hxm : x % 18446744073709551616 = x := Nat.mod_eq_of_lt hx
  have hym : y % 18446744073709551616 = y := Nat.mod_eq_of_lt hy
  repeat (first
    |refine Z01 ?_|refine Z02 ?_|refine Z03 ?_|refine Z04 ?_|refine Z05 ?_|refine Z06 ?_|refine Z07 ?_|refine Z08 ?_|refine Z09 ?_|refine Z10 ?_|refine Z11 ?_
    |refine Z12 ?_|refine Z13 ?_|refine Z14 ?_|refine Z33 ?_|refine Z35 ?_|refine Z40 ?_|refine Z42 ?_)
  refine Ze2 fun _ hw => post_of hw SubW.nil ⟨?_, rfl⟩
  refine congrArg (fun z => Value.tuple [N .u64 z, N .u64 (x * y % 18446744073709551616)].toArray) ?_
  simp only [and32, shr32]
  have h5 : x * y / 18446744073709551616 < 18446744073709551616 := by have := mul_bound hx hy; omega
  exact mul64_mod h1 h2 h3 h4 h5

theorem at_spec (s : Value) (xs : List Nat) (i : Nat) (_ : xs.length < 4294967296) :
    Spec Try.prog 132 [s, N .i64 i] (fun w => Rd w s (xs.map (N .u64))) [] (IsV (N .u64 (xs.getD i 0))) := by
  refine mk_spec Try.func132 rfl rfl rfl fun w hr => ?_
  have hr := RdC.mk0 hr
  repeat (first
    |refine Z01 ?_|refine Z02 ?_|refine Z03 ?_|refine Z04 ?_|refine Z05 ?_|refine Z06 ?_|refine Z07 ?_|refine Z08 ?_|refine Z09 ?_|refine Z10 ?_|refine Z11 ?_
    |refine Z12 ?_|refine Z13 ?_|refine Z14 ?_|refine Z17 ?_|refine Z18 ?_|refine Z20 ?_|refine Z21 ?_|refine Z22 ?_|refine Z23 ?_|refine Z24 ?_|refine Z25 ?_
    |refine Z26 ?_|refine Z27 ?_|refine Z28 ?_|refine Z58 ?_|refine Z59 ?_|refine Z67 ?_)
  refine st_cond (by rfl) (fun h => ?_) (fun h => ?_)
  · repeat (first
      |refine Z01 ?_|refine Z02 ?_|refine Z03 ?_|refine Z04 ?_|refine Z05 ?_|refine Z06 ?_|refine Z07 ?_|refine Z08 ?_|refine Z09 ?_|refine Z10 ?_|refine Z11 ?_
      |refine Z12 ?_|refine Z13 ?_|refine Z14 ?_|refine Z17 ?_|refine Z18 ?_|refine Z20 ?_|refine Z21 ?_|refine Z22 ?_|refine Z23 ?_|refine Z24 ?_|refine Z25 ?_
      |refine Z26 ?_|refine Z27 ?_|refine Z28 ?_|refine Z58 ?_|refine Z59 ?_|refine Z67 ?_)
    refine Ze1 fun _ hw => post_of hw SubW.nil ⟨?_, rfl⟩
    rfl
  · repeat (first
      |refine Z01 ?_|refine Z02 ?_|refine Z03 ?_|refine Z04 ?_|refine Z05 ?_|refine Z06 ?_|refine Z07 ?_|refine Z08 ?_|refine Z09 ?_|refine Z10 ?_|refine Z11 ?_
      |refine Z12 ?_|refine Z13 ?_|refine Z14 ?_|refine Z17 ?_|refine Z18 ?_|refine Z20 ?_|refine Z21 ?_|refine Z22 ?_|refine Z23 ?_|refine Z24 ?_|refine Z25 ?_
      |refine Z26 ?_|refine Z27 ?_|refine Z28 ?_|refine Z58 ?_|refine Z59 ?_|refine Z67 ?_)
    refine Ze1 fun _ hw => post_of hw SubW.nil ⟨?_, rfl⟩
    rw [getD_out (by omega)]

end Go.Proofs.Ytfhempgkdnecnaa.L
