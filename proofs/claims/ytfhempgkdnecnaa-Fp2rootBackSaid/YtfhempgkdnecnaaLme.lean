/- Divisions of two words by one: the walks of the library's functions. Conditions: as each statement says. -/
import Derived.Test.YtfhempgkdnecnaaAuto
import Derived.Test.YtfhempgkdnecnaaPerm
import Derived.Test.YtfhempgkdnecnaaMore
import Derived.Test.YtfhempgkdnecnaaProg
import Derived.Test.YtfhempgkdnecnaaNum
import Derived.Test.YtfhempgkdnecnaaLmb
import Derived.Test.YtfhempgkdnecnaaLmd
import Derived.Test.YtfhempgkdnecnaaScope
import Derived.Test.YtfhempgkdnecnaaLma
namespace Go.Proofs.Ytfhempgkdnecnaa.L
open Go Go.Proofs
set_option maxRecDepth 100000
attribute [local irreducible] Code.wp wpList Af bodyPost L.Go
open Num

theorem len64_spec (x : Nat) (hx : x < 18446744073709551616) : Spec Try.prog 150 [N .u64 x] NoPre [] (IsV (N .i64 (bl x))) := by
  refine mk_spec Try.func150 rfl rfl rfl fun w _ => ?_
  repeat (first
    |refine Z01 ?_|refine Z02 ?_|refine Z03 ?_|refine Z04 ?_|refine Z05 ?_|refine Z06 ?_|refine Z07 ?_|refine Z08 ?_|refine Z09 ?_|refine Z10 ?_|refine Z11 ?_
    |refine Z12 ?_|refine Z13 ?_|refine Z14 ?_|refine Z15 ?_|refine Z17 ?_|refine Z18 ?_|refine Z42 ?_|refine Z44 ?_|refine Z45 ?_|refine Z57 ?_|refine Z70 ?_
    |refine Z74 ?_|refine Z80 ?_)
  refine st_cond (by rfl) (fun h32 => ?_) (fun h32 => ?_)
  · have e32 := bl_shift x 32 h32
    have l32 : x >>> 32 < 4294967296 := by rw [Nat.shiftRight_eq_div_pow]; omega
    repeat (first
      |refine Z01 ?_|refine Z02 ?_|refine Z03 ?_|refine Z04 ?_|refine Z05 ?_|refine Z06 ?_|refine Z07 ?_|refine Z08 ?_|refine Z09 ?_|refine Z10 ?_|refine Z11 ?_
      |refine Z12 ?_|refine Z13 ?_|refine Z14 ?_|refine Z15 ?_|refine Z17 ?_|refine Z18 ?_|refine Z42 ?_|refine Z44 ?_|refine Z45 ?_|refine Z57 ?_|refine Z70 ?_
      |refine Z74 ?_|refine Z80 ?_)
    refine st_cond (by rfl) (fun h16 => ?_) (fun h16 => ?_)
    · have e16 := bl_shift (x >>> 32) 16 h16
      have l16 : x >>> 32 >>> 16 < 65536 := by rw [Nat.shiftRight_eq_div_pow (x >>> 32)]; omega
      repeat (first
        |refine Z01 ?_|refine Z02 ?_|refine Z03 ?_|refine Z04 ?_|refine Z05 ?_|refine Z06 ?_|refine Z07 ?_|refine Z08 ?_|refine Z09 ?_|refine Z10 ?_|refine Z11 ?_
        |refine Z12 ?_|refine Z13 ?_|refine Z14 ?_|refine Z15 ?_|refine Z17 ?_|refine Z18 ?_|refine Z42 ?_|refine Z44 ?_|refine Z45 ?_|refine Z57 ?_|refine Z70 ?_
        |refine Z74 ?_|refine Z80 ?_)
      refine st_cond (by rfl) (fun h8 => ?_) (fun h8 => ?_)
      · have e8 := bl_shift (x >>> 32 >>> 16) 8 (by omega)
        have l8 : (x >>> 32 >>> 16) >>> 8 < 256 := by rw [Nat.shiftRight_eq_div_pow]; omega
        have hx8 : (x >>> 32 >>> 16) >>> 8 % 256 = (x >>> 32 >>> 16) >>> 8 := Nat.mod_eq_of_lt (by omega)
        have hbl := bl_le ((x >>> 32 >>> 16) >>> 8) 8 (by omega)
        repeat (first
          |(rw [hx8])|(refine st_index_tab bl (by rfl) (by rfl) (by rfl) (by omega) (by kernel_rfl) (by kernel_rfl) (by rfl) ?_)|refine Z01 ?_|refine Z02 ?_|refine Z03 ?_
          |refine Z04 ?_|refine Z05 ?_|refine Z06 ?_|refine Z07 ?_|refine Z08 ?_|refine Z09 ?_|refine Z10 ?_|refine Z11 ?_|refine Z12 ?_|refine Z13 ?_|refine Z14 ?_
          |refine Z15 ?_|refine Z17 ?_|refine Z18 ?_|refine Z42 ?_|refine Z44 ?_|refine Z45 ?_|refine Z57 ?_|refine Z70 ?_|refine Z74 ?_|refine Z80 ?_)
        refine Ze1 fun _ hw => post_of hw SubW.nil ⟨?_, rfl⟩
        exact congrArg (N .i64) (by omega)
      · have hx8 : x >>> 32 >>> 16 % 256 = x >>> 32 >>> 16 := Nat.mod_eq_of_lt (by omega)
        have hbl := bl_le (x >>> 32 >>> 16) 8 (by omega)
        repeat (first
          |(rw [hx8])|(refine st_index_tab bl (by rfl) (by rfl) (by rfl) (by omega) (by kernel_rfl) (by kernel_rfl) (by rfl) ?_)|refine Z01 ?_|refine Z02 ?_|refine Z03 ?_
          |refine Z04 ?_|refine Z05 ?_|refine Z06 ?_|refine Z07 ?_|refine Z08 ?_|refine Z09 ?_|refine Z10 ?_|refine Z11 ?_|refine Z12 ?_|refine Z13 ?_|refine Z14 ?_
          |refine Z15 ?_|refine Z17 ?_|refine Z18 ?_|refine Z42 ?_|refine Z44 ?_|refine Z45 ?_|refine Z57 ?_|refine Z70 ?_|refine Z74 ?_|refine Z80 ?_)
        refine Ze1 fun _ hw => post_of hw SubW.nil ⟨?_, rfl⟩
        exact congrArg (N .i64) (by omega)
    · repeat (first
        |refine Z01 ?_|refine Z02 ?_|refine Z03 ?_|refine Z04 ?_|refine Z05 ?_|refine Z06 ?_|refine Z07 ?_|refine Z08 ?_|refine Z09 ?_|refine Z10 ?_|refine Z11 ?_
        |refine Z12 ?_|refine Z13 ?_|refine Z14 ?_|refine Z15 ?_|refine Z17 ?_|refine Z18 ?_|refine Z42 ?_|refine Z44 ?_|refine Z45 ?_|refine Z57 ?_|refine Z70 ?_
        |refine Z74 ?_|refine Z80 ?_)
      refine st_cond (by rfl) (fun h8 => ?_) (fun h8 => ?_)
      · have e8 := bl_shift (x >>> 32) 8 (by omega)
        have l8 : (x >>> 32) >>> 8 < 256 := by rw [Nat.shiftRight_eq_div_pow]; omega
        have hx8 : (x >>> 32) >>> 8 % 256 = (x >>> 32) >>> 8 := Nat.mod_eq_of_lt (by omega)
        have hbl := bl_le ((x >>> 32) >>> 8) 8 (by omega)
        repeat (first
          |(rw [hx8])|(refine st_index_tab bl (by rfl) (by rfl) (by rfl) (by omega) (by kernel_rfl) (by kernel_rfl) (by rfl) ?_)|refine Z01 ?_|refine Z02 ?_|refine Z03 ?_
          |refine Z04 ?_|refine Z05 ?_|refine Z06 ?_|refine Z07 ?_|refine Z08 ?_|refine Z09 ?_|refine Z10 ?_|refine Z11 ?_|refine Z12 ?_|refine Z13 ?_|refine Z14 ?_
          |refine Z15 ?_|refine Z17 ?_|refine Z18 ?_|refine Z42 ?_|refine Z44 ?_|refine Z45 ?_|refine Z57 ?_|refine Z70 ?_|refine Z74 ?_|refine Z80 ?_)
        refine Ze1 fun _ hw => post_of hw SubW.nil ⟨?_, rfl⟩
        exact congrArg (N .i64) (by omega)
      · have hx8 : x >>> 32 % 256 = x >>> 32 := Nat.mod_eq_of_lt (by omega)
        have hbl := bl_le (x >>> 32) 8 (by omega)
        repeat (first
          |(rw [hx8])|(refine st_index_tab bl (by rfl) (by rfl) (by rfl) (by omega) (by kernel_rfl) (by kernel_rfl) (by rfl) ?_)|refine Z01 ?_|refine Z02 ?_|refine Z03 ?_
          |refine Z04 ?_|refine Z05 ?_|refine Z06 ?_|refine Z07 ?_|refine Z08 ?_|refine Z09 ?_|refine Z10 ?_|refine Z11 ?_|refine Z12 ?_|refine Z13 ?_|refine Z14 ?_
          |refine Z15 ?_|refine Z17 ?_|refine Z18 ?_|refine Z42 ?_|refine Z44 ?_|refine Z45 ?_|refine Z57 ?_|refine Z70 ?_|refine Z74 ?_|refine Z80 ?_)
        refine Ze1 fun _ hw => post_of hw SubW.nil ⟨?_, rfl⟩
        exact congrArg (N .i64) (by omega)
  · repeat (first
      |refine Z01 ?_|refine Z02 ?_|refine Z03 ?_|refine Z04 ?_|refine Z05 ?_|refine Z06 ?_|refine Z07 ?_|refine Z08 ?_|refine Z09 ?_|refine Z10 ?_|refine Z11 ?_
      |refine Z12 ?_|refine Z13 ?_|refine Z14 ?_|refine Z15 ?_|refine Z17 ?_|refine Z18 ?_|refine Z42 ?_|refine Z44 ?_|refine Z45 ?_|refine Z57 ?_|refine Z70 ?_
      |refine Z74 ?_|refine Z80 ?_)
    refine st_cond (by rfl) (fun h16 => ?_) (fun h16 => ?_)
    · have e16 := bl_shift x 16 h16
      have l16 : x >>> 16 < 65536 := by rw [Nat.shiftRight_eq_div_pow]; omega
      repeat (first
        |refine Z01 ?_|refine Z02 ?_|refine Z03 ?_|refine Z04 ?_|refine Z05 ?_|refine Z06 ?_|refine Z07 ?_|refine Z08 ?_|refine Z09 ?_|refine Z10 ?_|refine Z11 ?_
        |refine Z12 ?_|refine Z13 ?_|refine Z14 ?_|refine Z15 ?_|refine Z17 ?_|refine Z18 ?_|refine Z42 ?_|refine Z44 ?_|refine Z45 ?_|refine Z57 ?_|refine Z70 ?_
        |refine Z74 ?_|refine Z80 ?_)
      refine st_cond (by rfl) (fun h8 => ?_) (fun h8 => ?_)
      · have e8 := bl_shift (x >>> 16) 8 (by omega)
        have l8 : (x >>> 16) >>> 8 < 256 := by rw [Nat.shiftRight_eq_div_pow]; omega
        have hx8 : (x >>> 16) >>> 8 % 256 = (x >>> 16) >>> 8 := Nat.mod_eq_of_lt (by omega)
        have hbl := bl_le ((x >>> 16) >>> 8) 8 (by omega)
        repeat (first
          |(rw [hx8])|(refine st_index_tab bl (by rfl) (by rfl) (by rfl) (by omega) (by kernel_rfl) (by kernel_rfl) (by rfl) ?_)|refine Z01 ?_|refine Z02 ?_|refine Z03 ?_
          |refine Z04 ?_|refine Z05 ?_|refine Z06 ?_|refine Z07 ?_|refine Z08 ?_|refine Z09 ?_|refine Z10 ?_|refine Z11 ?_|refine Z12 ?_|refine Z13 ?_|refine Z14 ?_
          |refine Z15 ?_|refine Z17 ?_|refine Z18 ?_|refine Z42 ?_|refine Z44 ?_|refine Z45 ?_|refine Z57 ?_|refine Z70 ?_|refine Z74 ?_|refine Z80 ?_)
        refine Ze1 fun _ hw => post_of hw SubW.nil ⟨?_, rfl⟩
        exact congrArg (N .i64) (by omega)
      · have hx8 : x >>> 16 % 256 = x >>> 16 := Nat.mod_eq_of_lt (by omega)
        have hbl := bl_le (x >>> 16) 8 (by omega)
        repeat (first
          |(rw [hx8])|(refine st_index_tab bl (by rfl) (by rfl) (by rfl) (by omega) (by kernel_rfl) (by kernel_rfl) (by rfl) ?_)|refine Z01 ?_|refine Z02 ?_|refine Z03 ?_
          |refine Z04 ?_|refine Z05 ?_|refine Z06 ?_|refine Z07 ?_|refine Z08 ?_|refine Z09 ?_|refine Z10 ?_|refine Z11 ?_|refine Z12 ?_|refine Z13 ?_|refine Z14 ?_
          |refine Z15 ?_|refine Z17 ?_|refine Z18 ?_|refine Z42 ?_|refine Z44 ?_|refine Z45 ?_|refine Z57 ?_|refine Z70 ?_|refine Z74 ?_|refine Z80 ?_)
        refine Ze1 fun _ hw => post_of hw SubW.nil ⟨?_, rfl⟩
        exact congrArg (N .i64) (by omega)
    · repeat (first
        |refine Z01 ?_|refine Z02 ?_|refine Z03 ?_|refine Z04 ?_|refine Z05 ?_|refine Z06 ?_|refine Z07 ?_|refine Z08 ?_|refine Z09 ?_|refine Z10 ?_|refine Z11 ?_
        |refine Z12 ?_|refine Z13 ?_|refine Z14 ?_|refine Z15 ?_|refine Z17 ?_|refine Z18 ?_|refine Z42 ?_|refine Z44 ?_|refine Z45 ?_|refine Z57 ?_|refine Z70 ?_
        |refine Z74 ?_|refine Z80 ?_)
      refine st_cond (by rfl) (fun h8 => ?_) (fun h8 => ?_)
      · have e8 := bl_shift (x) 8 (by omega)
        have l8 : (x) >>> 8 < 256 := by rw [Nat.shiftRight_eq_div_pow]; omega
        have hx8 : (x) >>> 8 % 256 = (x) >>> 8 := Nat.mod_eq_of_lt (by omega)
        have hbl := bl_le ((x) >>> 8) 8 (by omega)
        repeat (first
          |(rw [hx8])|(refine st_index_tab bl (by rfl) (by rfl) (by rfl) (by omega) (by kernel_rfl) (by kernel_rfl) (by rfl) ?_)|refine Z01 ?_|refine Z02 ?_|refine Z03 ?_
          |refine Z04 ?_|refine Z05 ?_|refine Z06 ?_|refine Z07 ?_|refine Z08 ?_|refine Z09 ?_|refine Z10 ?_|refine Z11 ?_|refine Z12 ?_|refine Z13 ?_|refine Z14 ?_
          |refine Z15 ?_|refine Z17 ?_|refine Z18 ?_|refine Z42 ?_|refine Z44 ?_|refine Z45 ?_|refine Z57 ?_|refine Z70 ?_|refine Z74 ?_|refine Z80 ?_)
        refine Ze1 fun _ hw => post_of hw SubW.nil ⟨?_, rfl⟩
        exact congrArg (N .i64) (by omega)
      · have hx8 : x % 256 = x := Nat.mod_eq_of_lt (by omega)
        have hbl := bl_le (x) 8 (by omega)
        repeat (first
          |(rw [hx8])|(refine st_index_tab bl (by rfl) (by rfl) (by rfl) (by omega) (by kernel_rfl) (by kernel_rfl) (by rfl) ?_)|refine Z01 ?_|refine Z02 ?_|refine Z03 ?_
          |refine Z04 ?_|refine Z05 ?_|refine Z06 ?_|refine Z07 ?_|refine Z08 ?_|refine Z09 ?_|refine Z10 ?_|refine Z11 ?_|refine Z12 ?_|refine Z13 ?_|refine Z14 ?_
          |refine Z15 ?_|refine Z17 ?_|refine Z18 ?_|refine Z42 ?_|refine Z44 ?_|refine Z45 ?_|refine Z57 ?_|refine Z70 ?_|refine Z74 ?_|refine Z80 ?_)
        refine Ze1 fun _ hw => post_of hw SubW.nil ⟨?_, rfl⟩
        exact congrArg (N .i64) (by omega)

theorem lz64_spec (x : Nat) (hx : x < 18446744073709551616) : Spec Try.prog 146 [N .u64 x] NoPre [] (IsV (N .i64 (64 - bl x))) := by
  refine mk_spec Try.func146 rfl rfl rfl fun w _ => ?_
  have hb := bl_le x 64 hx
  repeat (first
    |(refine st_callV (by rfl) (by rfl) (by rfl) (len64_spec x hx) (fun _ _ => trivial) (by rfl) ?_)|refine Z01 ?_|refine Z02 ?_|refine Z03 ?_|refine Z04 ?_|refine Z05 ?_
    |refine Z06 ?_|refine Z07 ?_|refine Z08 ?_|refine Z09 ?_|refine Z10 ?_|refine Z11 ?_|refine Z12 ?_|refine Z13 ?_|refine Z14 ?_|refine Z16 ?_|refine Z71 ?_)
  refine Ze1 fun _ hw => post_of hw SubW.nil ⟨?_, rfl⟩
  rfl
end Go.Proofs.Ytfhempgkdnecnaa.L
