/- What the proof of the statement about H2cTurns stands on, part D. Conditions: as each statement says. -/
import Derived.Test.YtbpmbdlgmmabcaaH2cTurnsC
import Derived.Test.YtbpmbdlgmmabcaaProg
namespace Go.Proofs.Ytbpmbdlgmmabcaa.L
open Go Go.Proofs
set_option maxRecDepth 100000
attribute [local irreducible] Code.wp wpList Af bodyPost L.Go
open Num
attribute [local simp] D_len
abbrev Fq := Fin p
abbrev kp (a : Nat) : Fq := Kf.κ p a
theorem kp_val (x : Fq) : kp x.val = x := Kf.κ_val x
theorem val_lt (x : Fq) : x.val < W ^ 6 := Nat.lt_trans x.isLt p_lt
theorem p_3 : Kf.P3 p := ⟨p_prime, by decide +kernel⟩
theorem kadd_eq (a b : Nat) : (a + b) % p = (kp a + kp b).val := by rw [← Kf.κ_add, Kf.val_κ]
theorem kmul_eq (a b : Nat) : a * b % p = (kp a * kp b).val := by rw [← Kf.κ_mul, Kf.val_κ]
theorem kneg_eq (a : Nat) : (p - a % p) % p = (- kp a).val := by rw [← Kf.val_κ (n := p), Kf.κ_neg (Nat.le_of_lt (Nat.mod_lt _ p_pos)), Kf.κ_mod]
theorem ksub_eq (a b : Nat) : (a + (p - b % p) % p) % p = (kp a - kp b).val := by
 rw [← Kf.val_κ (n := p), Kf.κ_add, Kf.κ_mod, Kf.κ_neg (Nat.le_of_lt (Nat.mod_lt _ p_pos)), Kf.κ_mod]
 exact congrArg Fin.val (by grind)
theorem kpow_eq (a e : Nat) : a ^ e % p = (kp a ^ e).val := by rw [← Kf.κ_pow, Kf.val_κ]
theorem kinv_eq (a : Nat) : a ^ (p - 2) % p = (Kf.inv (kp a)).val := by rw [kpow_eq]; rfl
theorem kred_spec {a : Nat} (ha : a < W ^ 6) : Spec Try.prog 59 [LV .u64 (D 6 a)] NoPre [] (IsV (LV .u64 (D 6 (kp a).val))) := preduce_spec ha
theorem kadd_spec {a b : Nat} (ha : a < W ^ 6) (hb : b < W ^ 6) : Spec Try.prog 24 [LV .u64 (D 6 a), LV .u64 (D 6 b)] NoPre [] (IsV (LV .u64 (D 6 (kp a + kp b).val))) := by
 rw [← kadd_eq]; exact padd_spec ha hb
theorem kmul_spec {a b : Nat} (ha : a < W ^ 6) (hb : b < W ^ 6) : Spec Try.prog 25 [LV .u64 (D 6 a), LV .u64 (D 6 b)] NoPre [] (IsV (LV .u64 (D 6 (kp a * kp b).val))) := by
 rw [← kmul_eq]; exact pmul_spec ha hb
theorem ksub_spec {a b : Nat} (ha : a < W ^ 6) (hb : b < W ^ 6) : Spec Try.prog 54 [LV .u64 (D 6 a), LV .u64 (D 6 b)] NoPre [] (IsV (LV .u64 (D 6 (kp a - kp b).val))) := by
 rw [← ksub_eq]; exact psub_spec ha hb
theorem kneg_spec {a : Nat} (ha : a < W ^ 6) : Spec Try.prog 52 [LV .u64 (D 6 a)] NoPre [] (IsV (LV .u64 (D 6 (- kp a).val))) := by
 rw [← kneg_eq]; exact pneg_spec ha
theorem kinv_spec {a : Nat} (ha : a < W ^ 6) : Spec Try.prog 58 [LV .u64 (D 6 a)] NoPre [] (IsV (LV .u64 (D 6 (Kf.inv (kp a)).val))) := by
 rw [← kinv_eq]; exact pinv_spec ha
theorem kpow_spec {a : Nat} (ha : a < W ^ 6) (s : Value) (xs : List Nat) (hx : Lt 18446744073709551616 xs) (hl : xs.length < 65536) :
  Spec Try.prog 97 [LV .u64 (D 6 a), s] (fun w => Rd w s (xs.map (N .u64))) [] (IsV (LV .u64 (D 6 (kp a ^ V xs).val))) := by
 rw [← kpow_eq]; exact ppow_spec ha s xs hx hl
theorem fadd_spec' (x y : Fq) : Spec Try.prog 24 [LV .u64 (D 6 x.val), LV .u64 (D 6 y.val)] NoPre [] (IsV (LV .u64 (D 6 (x + y).val))) := by
 have := kadd_spec (val_lt x) (val_lt y); rwa [kp_val, kp_val] at this
theorem fmul_spec' (x y : Fq) : Spec Try.prog 25 [LV .u64 (D 6 x.val), LV .u64 (D 6 y.val)] NoPre [] (IsV (LV .u64 (D 6 (x * y).val))) := by
 have := kmul_spec (val_lt x) (val_lt y); rwa [kp_val, kp_val] at this
theorem fsub_spec' (x y : Fq) : Spec Try.prog 54 [LV .u64 (D 6 x.val), LV .u64 (D 6 y.val)] NoPre [] (IsV (LV .u64 (D 6 (x - y).val))) := by
 have := ksub_spec (val_lt x) (val_lt y); rwa [kp_val, kp_val] at this
theorem fneg_spec' (x : Fq) : Spec Try.prog 52 [LV .u64 (D 6 x.val)] NoPre [] (IsV (LV .u64 (D 6 (-x).val))) := by
 have := kneg_spec (val_lt x); rwa [kp_val] at this
theorem finv_spec' (x : Fq) : Spec Try.prog 58 [LV .u64 (D 6 x.val)] NoPre [] (IsV (LV .u64 (D 6 (Kf.inv x).val))) := by
 have := kinv_spec (val_lt x); rwa [kp_val] at this
theorem D6_iff (x y : Fq) : (D 6 x.val = D 6 y.val) = (x = y) := by rw [D6_eq (val_lt x) (val_lt y)]; exact propext ⟨Fin.ext, fun h => h ▸ rfl⟩
theorem val_0 : (0 : Fq).val = 0 := rfl
theorem quarter_lit : ([17185665809301629611, 552535377879302143, 15693976698673184137, 15644892545385841839, 10576397981472451381, 468449654411884966] : List Nat) = D 6 ((p + 1) / 4) := by decide +kernel
theorem fsign_spec {a : Nat} (ha : a < W ^ 6) : Spec Try.prog 60 [LV .u64 (D 6 a)] NoPre [] (IsV (N .i64 (Kf.sg (kp a)))) := by
 refine mk_spec Try.func60 rfl rfl rfl fun w _ => ?_
 have hl0 := fun x => D_len 6 x
 have hla := hl0 (kp a).val
 have hb := low_bit (val_lt (kp a))
 repeat (first|refine y_2 (kred_spec ha) ?_|rw [hb]|refine Z02 ?_|refine Z03 ?_|refine Z04 ?_|refine Z05 ?_|refine Z06 ?_|refine Z07 ?_|refine Z08 ?_|refine Z09 ?_|refine Z10 ?_|refine Z11 ?_|refine Z12 ?_|refine Z13 ?_|refine Z14 ?_|refine Z24 ?_|refine Z25 ?_|refine Z26 ?_|refine Z27 ?_|refine Z28 ?_|refine Z40 ?_|refine Z44 ?_|refine Z45 ?_|refine Z57 ?_|refine Z67 ?_|refine Z74 ?_|refine Z80 ?_|refine Z81 fun _ => ?_)
 refine Ze1 fun _ hw => post_of hw SubW.nil ⟨?_, rfl⟩
 rfl
theorem quarter_spec : Spec Try.prog 96 [] NoPre [] (IsV (LV .u64 (D 6 ((p + 1) / 4)))) := by
 refine mk_spec Try.func96 rfl rfl rfl fun w _ => ?_
 repeat (first|(refine y_25 ?_;intro _)|refine st_buildP (kk := .u64) (vs := [17185665809301629611, 552535377879302143, 15693976698673184137, 15644892545385841839, 10576397981472451381, 468449654411884966]) (by rfl) (by rfl) (by rfl) (by rfl) (by rfl) (by rfl) (by rfl) (by rfl) ?_|refine Z03 ?_|refine Z04 ?_|refine Z05 ?_|refine Z06 ?_|refine Z07 ?_|refine Z08 ?_|refine Z09 ?_|refine Z10 ?_|refine Z11 ?_|refine Z12 ?_|refine Z13 ?_|refine Z14 ?_|refine Z29 ?_|refine Z30 ?_|refine Z31 ?_|refine Z32 ?_|refine Z65 ?_|refine Z82 fun _ => ?_)
 refine Zec fun _ hw => post_of hw SubW.nil ⟨?_, rfl⟩
 rw [← quarter_lit]; rfl
theorem y_47 {a b : Prop} (k : b) (h : Rm b → a := by intro k;(first|refine Z03 ?_|refine Z04 ?_|refine Z05 ?_|refine Z06 ?_|refine Z07 ?_|refine Z08 ?_|refine Z09 ?_|refine Z10 ?_|refine Z11 ?_|refine Z12 ?_|refine Z13 ?_|refine Z14 ?_|refine Z17 ?_|refine Z18 ?_|refine Z24 ?_|refine Z25 ?_|refine Z26 ?_|refine Z27 ?_|refine Z28 ?_|refine Z29 ?_|refine Z30 ?_|refine Z31 ?_|refine Z32 ?_|refine Z67 ?_);exact k.h) : a := h ⟨k⟩
theorem evn_spec (x : Fq) : Spec Try.prog 98 [LV .u64 (D 6 x.val)] NoPre [] (IsV (LV .u64 (D 6 (Kf.evn x).val))) := by
 refine mk_spec Try.func98 rfl rfl rfl fun w _ => ?_
 have hl0 := fun x => D_len 6 x
 have hs := fsign_spec (val_lt x)
 rw [kp_val] at hs
 repeat (first|(refine y_25 ?_;intro _)|refine y_2 hs ?_|refine y_47 ?_|refine Z81 fun _ => ?_|refine Z82 fun _ => ?_)
 refine st_cond (by rfl) (fun h => ?_) (fun h => ?_)
 ·have he : Kf.evn x = -x := if_pos h
  repeat (first|refine y_2 (fneg_spec' x) ?_|refine y_47 ?_|refine Z81 fun _ => ?_|refine Z82 fun _ => ?_)
  refine Zec fun _ hw => post_of hw SubW.nil ⟨?_, rfl⟩
  rw [he]
 ·have he : Kf.evn x = x := if_neg h
  repeat (first|refine y_47 ?_|refine Z81 fun _ => ?_|refine Z82 fun _ => ?_)
  refine Zec fun _ hw => post_of hw SubW.nil ⟨?_, rfl⟩
  rw [he]
theorem rt_eq (a : Nat) : kp a ^ V (D 6 ((p + 1) / 4)) = Kf.rt (kp a) := by
 rw [V_D' (by have := p_lt; omega)]; rfl
theorem y_48 {a b : Prop} (k : b) (h : Rm b → a := by intro k;(first|refine Z01 ?_|refine Z02 ?_|refine Z62 ?_|refine Z63 ?_|refine Z64 ?_|refine Z65 ?_|refine Z77 ?_|refine Z78 ?_|refine Z79 ?_);exact k.h) : a := h ⟨k⟩
theorem y_49 {a b : Prop} (k : b) (h : Rm b → a := by intro k;refine R.Zpb (by rfl) (by intro _ _ _;refine st_alloc (v := LV .u64 (List.replicate 6 0)) (by rfl) (by rfl) fun _ => ?_;exact R.Zpbx) ?_;exact k.h) : a := h ⟨k⟩
theorem y_50 {a b : Prop} (k : b) (h : Rm b → a := by intro k;refine R.Zpn (by rfl) (by intro _ _ _;(first|refine Z81 fun _ => ?_|refine Z82 fun _ => ?_);exact R.Zpx) ?_;exact k.h) : a := h ⟨k⟩
theorem y_51 {a b : Prop} (k : b) (h : Rm b → a := by intro k;(first|refine Z01 ?_|refine Z02 ?_|refine Z03 ?_|refine Z04 ?_|refine Z05 ?_|refine Z06 ?_|refine Z07 ?_|refine Z08 ?_|refine Z09 ?_|refine Z10 ?_|refine Z11 ?_|refine Z12 ?_|refine Z13 ?_|refine Z14 ?_|refine Z24 ?_|refine Z25 ?_|refine Z26 ?_|refine Z27 ?_|refine Z28 ?_|refine Z29 ?_|refine Z30 ?_|refine Z31 ?_|refine Z32 ?_|refine Z62 ?_|refine Z63 ?_|refine Z64 ?_|refine Z65 ?_|refine Z67 ?_|refine Z77 ?_|refine Z78 ?_|refine Z79 ?_);exact k.h) : a := h ⟨k⟩
theorem y_144 {a b : Prop} (k : b) (h : Rm b → a := by intro k;refine R.Zpp (by rfl) (by intro _ _ _;(first|refine y_46 ?_);exact Zq) ?_;exact k.h) : a := h ⟨k⟩
theorem y_145 {a b : Prop} (k : b) (h : Rm b → a := by intro k;refine R.Zps (by rfl) (by intro _ _ _;(first|refine y_8 ?_);exact Zqq) ?_;exact k.h) : a := h ⟨k⟩
theorem fsqrt_spec {a : Nat} (ha : a < W ^ 6) : Spec Try.prog 55 [LV .u64 (D 6 a)] NoPre [] (IsV (.tuple [LV .u64 (D 6 (Kf.K2.fsq (kp a)).1.val), .bool (Kf.K2.fsq (kp a)).2].toArray)) := by
 refine mk_spec Try.func55 rfl rfl rfl fun w _ => ?_
 have hl0 := fun x => D_len 6 x
 have hlq := hl0 ((p + 1) / 4)
 have hpw := fun s => kpow_spec ha s (D 6 ((p + 1) / 4)) (D_lt _ _) (by omega)
 rw [rt_eq] at hpw
 repeat (first|(refine y_25 ?_;intro _)|refine st_callV (by rfl) (by rfl) (by rfl) (quarter_spec) (fun _ _ => trivial) (by rfl) ?_|refine Z01 ?_|refine Z02 ?_|refine Z03 ?_|refine Z04 ?_|refine Z05 ?_|refine Z06 ?_|refine Z07 ?_|refine Z08 ?_|refine Z09 ?_|refine Z10 ?_|refine Z11 ?_|refine Z12 ?_|refine Z13 ?_|refine Z14 ?_|refine Z24 ?_|refine Z25 ?_|refine Z26 ?_|refine Z27 ?_|refine Z28 ?_|refine Z29 ?_|refine Z30 ?_|refine Z31 ?_|refine Z32 ?_|refine Z62 ?_|refine Z63 ?_|refine Z64 ?_|refine Z65 ?_|refine Z67 ?_|refine Z77 ?_|refine Z78 ?_|refine Z79 ?_|refine Z81 fun _ => ?_|refine Z82 fun _ => ?_)
 refine R.st_perm [0, 1, 2, 3, 4] (by rfl) ?_
 repeat (first|(refine R.Zpf (by rfl) (by intro _ _ _;(first|refine y_48 ?_);exact Zq) ?_)|refine y_144 ?_|(refine R.Zpp (by rfl) (by intro _ _ _;refine st_callV (by rfl) (by rfl) (by rfl) (hpw _) (RdW.arrAll (m := 6) (by repeat first|apply Find.here|apply Find.there) hlq) (by rfl) ?_;exact Zq) ?_)|refine y_145 ?_|(refine y_49 ?_;intro _)|(refine y_50 ?_;intro _)|refine R.Zpo (by rfl) ?_)
 refine R.Zp0 ?_
 repeat (first|refine y_51 ?_|refine Z81 fun _ => ?_|refine Z82 fun _ => ?_)
 refine st_draw1 (by rfl) ?_
 repeat (first|(refine Zqf (by intro _ _ _;(first|refine y_48 ?_);exact Zq) ?_)|refine y_31 (fmul_spec' (Kf.rt (kp a)) (Kf.rt (kp a))) ?_|refine y_31 (kred_spec ha) ?_|refine y_177 ?_)
 refine Zq0 ?_ (by kernel_rfl)
 repeat (first|refine y_51 ?_|refine Z81 fun _ => ?_|refine Z82 fun _ => ?_)
 by_cases h2 : Kf.rt (kp a) * Kf.rt (kp a) = kp a
 ·have hq : Kf.K2.fsq (kp a) = (Kf.evn (Kf.rt (kp a)), true) := if_pos h2
  have hb : (!decide (D 6 (Kf.rt (kp a) * Kf.rt (kp a)).val = D 6 (kp a).val)) = false := by rw [h2]; simp
  rw [hq, hb]
  have hle := hl0 (Kf.evn (Kf.rt (kp a))).val
  repeat (first|refine y_2 (evn_spec (Kf.rt (kp a))) ?_|refine y_51 ?_|refine Z81 fun _ => ?_|refine Z82 fun _ => ?_)
  refine st_endc2_LV (by rfl) (by rfl) (by rfl) (by repeat first|apply Find.here|apply Find.there) (by rfl) (by rfl) (by first | with_reducible assumption | (simp [*]; done)) fun _ hw => post_of hw SubW.nil ⟨?_, rfl⟩
  rfl
 ·have hq : Kf.K2.fsq (kp a) = (0, false) := if_neg h2
  have hb : (!decide (D 6 (Kf.rt (kp a) * Kf.rt (kp a)).val = D 6 (kp a).val)) = true := by simp [D6_iff, h2]
  rw [hq, hb]
  repeat (first|refine y_43 ?_|refine Z01 ?_|refine Z02 ?_|refine Z03 ?_|refine Z04 ?_|refine Z05 ?_|refine Z06 ?_|refine Z07 ?_|refine Z08 ?_|refine Z09 ?_|refine Z10 ?_|refine Z11 ?_|refine Z12 ?_|refine Z13 ?_|refine Z14 ?_|refine Z24 ?_|refine Z25 ?_|refine Z26 ?_|refine Z27 ?_|refine Z28 ?_|refine Z29 ?_|refine Z30 ?_|refine Z31 ?_|refine Z32 ?_|refine Z62 ?_|refine Z63 ?_|refine Z64 ?_|refine Z65 ?_|refine Z67 ?_|refine Z77 ?_|refine Z78 ?_|refine Z79 ?_|refine Z81 fun _ => ?_|refine Z82 fun _ => ?_)
  refine st_endc2_LV (by rfl) (by rfl) (by rfl) (by repeat first|apply Find.here|apply Find.there) (by rfl) (by rfl) (by first | with_reducible assumption | (simp [*]; done)) fun _ hw => post_of hw SubW.nil ⟨?_, rfl⟩
  rfl
end Go.Proofs.Ytbpmbdlgmmabcaa.L
namespace Go.Proofs.Ytbpmbdlgmmabcaa.L
open Go Go.Proofs
set_option maxRecDepth 100000
attribute [local irreducible] Code.wp wpList Af bodyPost L.Go
open Num
attribute [local simp] D_len
abbrev F2 := Kf.K2 p
abbrev k2 (a b : Nat) : F2 := ⟨kp a, kp b⟩
abbrev E2 (x : F2) : List Nat := D 6 x.re.val ++ D 6 x.im.val
theorem k2_val (x : F2) : k2 x.re.val x.im.val = x := by unfold k2; rw [kp_val, kp_val]
theorem E2_len (x : F2) : (E2 x).length = 12 := by simp
theorem y_52 {a b : Prop} (k : b) (h : Rm b → a := by intro k;refine st_alloc (v := LV .u64 (List.replicate 12 0)) (by rfl) (by rfl) ?_;exact k.h) : a := h ⟨k⟩
theorem y_53 {a b : Prop} (k : b) (h : Rm b → a := by intro k;(first|refine Z03 ?_|refine Z04 ?_|refine Z05 ?_|refine Z06 ?_|refine Z07 ?_|refine Z08 ?_|refine Z09 ?_|refine Z10 ?_|refine Z11 ?_|refine Z12 ?_|refine Z13 ?_|refine Z14 ?_|refine Z24 ?_|refine Z25 ?_|refine Z26 ?_|refine Z27 ?_|refine Z28 ?_|refine Z29 ?_|refine Z30 ?_|refine Z31 ?_|refine Z32 ?_|refine Z65 ?_|refine Z67 ?_);exact k.h) : a := h ⟨k⟩
theorem y_54 {a b : Prop} (k : b) (h : Rm b → a := by intro k;refine st_fld (by rfl) (by first | exact (show _ = some (0, 6) from rfl) | exact (show _ = some (6, 6) from rfl) | exact (show _ = some (0, 12) from rfl) | exact (show _ = some (12, 12) from rfl) | exact (show _ = some (24, 1) from rfl)) (by rfl) (by rfl) ?_;exact k.h) : a := h ⟨k⟩
theorem y_55 {a b : Prop} (k : b) (h : Rm b → a := by intro k;refine st_build2 (by rfl) (by rfl) (by rfl) (by rfl) (by simp; done) (by simp; done) (by rfl) ?_;exact k.h) : a := h ⟨k⟩
theorem y_56 {a b : Prop} (k : b) (h : Rm b → a := by intro k;refine Zqp (by intro _ _ _;(refine st_ldp (by rfl) (by repeat first|apply Find.here|apply Find.there) (by rfl) (by rfl) (by first | (refine PartAt.l ?_; (simp; done)) | (refine PartAt.r ?_ ?_ <;> (simp; done)) | (refine PartAt.all ?_; (simp; done))) (by rfl) ?_);exact Zq) ?_;exact k.h) : a := h ⟨k⟩
theorem y_146 {a b : Prop} (k : b) (h : Rm b → a := by intro k;(first|refine y_54 ?_|refine y_55 ?_|refine Z65 ?_);exact k.h) : a := h ⟨k⟩
theorem y_178 {a b : Prop} (k : b) (h : Rm b → a := by intro k;refine Zqf (by intro _ _ _;(first|refine y_146 ?_);exact Zq) ?_;exact k.h) : a := h ⟨k⟩
theorem y_187 {a b : Prop} (k : b) (h : Rm b → a := by intro k;(first|refine y_178 ?_|refine y_56 ?_);exact k.h) : a := h ⟨k⟩
theorem sred_spec {a b : Nat} (ha : a < W ^ 6) (hb : b < W ^ 6) : Spec Try.prog 20 [LV .u64 (D 6 a ++ D 6 b)] NoPre [] (IsV (LV .u64 (E2 (k2 a b)))) := by
 refine mk_spec Try.func20 rfl rfl rfl fun w _ => ?_
 have hl0 := fun x => D_len 6 x
 repeat (first|(refine y_52 ?_;intro _)|refine y_53 ?_|refine Z81 fun _ => ?_|refine Z82 fun _ => ?_)
 refine st_draw1 (by rfl) ?_
 repeat (first|refine y_187 ?_|refine y_31 (kred_spec ha) ?_|refine y_31 (kred_spec hb) ?_|refine y_176 ?_)
 refine Zq0 ?_ (by kernel_rfl)
 repeat (first|refine y_53 ?_|refine Z81 fun _ => ?_|refine Z82 fun _ => ?_)
 refine Zec fun _ hw => post_of hw SubW.nil ⟨?_, rfl⟩
 rfl
theorem sadd_spec {a b e f : Nat} (ha : a < W ^ 6) (hb : b < W ^ 6) (he : e < W ^ 6) (hf : f < W ^ 6) : Spec Try.prog 31 [LV .u64 (D 6 a ++ D 6 b), LV .u64 (D 6 e ++ D 6 f)] NoPre [] (IsV (LV .u64 (E2 (Kf.K2.add (k2 a b) (k2 e f))))) := by
 refine mk_spec Try.func31 rfl rfl rfl fun w _ => ?_
 have hl0 := fun x => D_len 6 x
 repeat (first|(refine y_52 ?_;intro _)|refine y_53 ?_|refine Z81 fun _ => ?_|refine Z82 fun _ => ?_)
 refine st_draw1 (by rfl) ?_
 repeat (first|refine y_187 ?_|refine y_31 (kadd_spec ha he) ?_|refine y_31 (kadd_spec hb hf) ?_|refine y_176 ?_)
 refine Zq0 ?_ (by kernel_rfl)
 repeat (first|refine y_53 ?_|refine Z81 fun _ => ?_|refine Z82 fun _ => ?_)
 refine Zec fun _ hw => post_of hw SubW.nil ⟨?_, rfl⟩
 rfl
theorem sneg_spec {a b : Nat} (ha : a < W ^ 6) (hb : b < W ^ 6) : Spec Try.prog 22 [LV .u64 (D 6 a ++ D 6 b)] NoPre [] (IsV (LV .u64 (E2 (Kf.K2.neg (k2 a b))))) := by
 refine mk_spec Try.func22 rfl rfl rfl fun w _ => ?_
 have hl0 := fun x => D_len 6 x
 repeat (first|(refine y_52 ?_;intro _)|refine y_53 ?_|refine Z81 fun _ => ?_|refine Z82 fun _ => ?_)
 refine st_draw1 (by rfl) ?_
 repeat (first|refine y_187 ?_|refine y_31 (kneg_spec ha) ?_|refine y_31 (kneg_spec hb) ?_|refine y_176 ?_)
 refine Zq0 ?_ (by kernel_rfl)
 repeat (first|refine y_53 ?_|refine Z81 fun _ => ?_|refine Z82 fun _ => ?_)
 refine Zec fun _ hw => post_of hw SubW.nil ⟨?_, rfl⟩
 rfl
theorem ssub_spec {a b e f : Nat} (ha : a < W ^ 6) (hb : b < W ^ 6) (he : e < W ^ 6) (hf : f < W ^ 6) : Spec Try.prog 81 [LV .u64 (D 6 a ++ D 6 b), LV .u64 (D 6 e ++ D 6 f)] NoPre [] (IsV (LV .u64 (E2 (Kf.K2.sub (k2 a b) (k2 e f))))) := by
 refine mk_spec Try.func81 rfl rfl rfl fun w _ => ?_
 have hl0 := fun x => D_len 6 x
 repeat (first|(refine y_52 ?_;intro _)|refine y_53 ?_|refine Z81 fun _ => ?_|refine Z82 fun _ => ?_)
 refine st_draw1 (by rfl) ?_
 repeat (first|refine y_187 ?_|refine y_31 (ksub_spec ha he) ?_|refine y_31 (ksub_spec hb hf) ?_|refine y_176 ?_)
 refine Zq0 ?_ (by kernel_rfl)
 repeat (first|refine y_53 ?_|refine Z81 fun _ => ?_|refine Z82 fun _ => ?_)
 refine Zec fun _ hw => post_of hw SubW.nil ⟨?_, rfl⟩
 rfl
theorem sconj_spec {a b : Nat} (ha : a < W ^ 6) (hb : b < W ^ 6) : Spec Try.prog 105 [LV .u64 (D 6 a ++ D 6 b)] NoPre [] (IsV (LV .u64 (E2 (Kf.K2.conj (k2 a b))))) := by
 refine mk_spec Try.func105 rfl rfl rfl fun w _ => ?_
 have hl0 := fun x => D_len 6 x
 repeat (first|(refine y_52 ?_;intro _)|refine y_53 ?_|refine Z81 fun _ => ?_|refine Z82 fun _ => ?_)
 refine st_draw1 (by rfl) ?_
 repeat (first|refine y_187 ?_|refine y_31 (kred_spec ha) ?_|refine y_31 (kneg_spec hb) ?_|refine y_176 ?_)
 refine Zq0 ?_ (by kernel_rfl)
 repeat (first|refine y_53 ?_|refine Z81 fun _ => ?_|refine Z82 fun _ => ?_)
 refine Zec fun _ hw => post_of hw SubW.nil ⟨?_, rfl⟩
 rfl
theorem sscale_spec {a b e : Nat} (ha : a < W ^ 6) (hb : b < W ^ 6) (he : e < W ^ 6) : Spec Try.prog 104 [LV .u64 (D 6 a ++ D 6 b), LV .u64 (D 6 e)] NoPre [] (IsV (LV .u64 (E2 (Kf.K2.scale (k2 a b) (kp e))))) := by
 refine mk_spec Try.func104 rfl rfl rfl fun w _ => ?_
 have hl0 := fun x => D_len 6 x
 repeat (first|(refine y_52 ?_;intro _)|refine y_53 ?_|refine Z81 fun _ => ?_|refine Z82 fun _ => ?_)
 refine st_draw1 (by rfl) ?_
 repeat (first|refine y_187 ?_|refine y_31 (kmul_spec ha he) ?_|refine y_31 (kmul_spec hb he) ?_|refine y_176 ?_)
 refine Zq0 ?_ (by kernel_rfl)
 repeat (first|refine y_53 ?_|refine Z81 fun _ => ?_|refine Z82 fun _ => ?_)
 refine Zec fun _ hw => post_of hw SubW.nil ⟨?_, rfl⟩
 rfl
theorem smix_spec (u v a b e f : Nat) (ha : a < W ^ 6) (hb : b < W ^ 6) (he : e < W ^ 6) (hf : f < W ^ 6) : Spec Try.prog 53 [pt u 0, pt v 0] (fun w => HasB w u (LV .u64 (D 6 a ++ D 6 b)) 26 ∧ HasB w v (LV .u64 (D 6 e ++ D 6 f)) 26) [] (IsV (LV .u64 (D 6 ((kp a + kp b) * (kp e + kp f)).val))) := by
 refine mk_spec Try.func53 rfl rfl rfl fun w hr => ?_
 have h1 := OldB.mk0 hr.1
 have h2 := OldB.mk0 hr.2
 have hl0 := fun x => D_len 6 x
 repeat (first|(refine y_25 ?_;intro _)|refine y_36 ?_|refine Z82 fun _ => ?_)
 refine st_draw1 (by rfl) ?_
 repeat (first|(refine Zqf (by intro _ _ _;(first|(refine st_ldo (by rfl) ((h1).shift (by assumption)) (by rfl) (by rfl) (by first | (refine PartAt.l ?_; (simp; done)) | (refine PartAt.r ?_ ?_ <;> (simp; done)) | (refine PartAt.all ?_; (simp; done))) (by rfl) ?_)|(refine st_ldo (by rfl) ((h2).shift (by assumption)) (by rfl) (by rfl) (by first | (refine PartAt.l ?_; (simp; done)) | (refine PartAt.r ?_ ?_ <;> (simp; done)) | (refine PartAt.all ?_; (simp; done))) (by rfl) ?_)|refine y_54 ?_);exact Zq) ?_)|refine y_56 ?_|refine y_31 (kadd_spec ha hb) ?_|refine y_31 (kadd_spec he hf) ?_|refine y_31 (fmul_spec' (kp a + kp b) (kp e + kp f)) ?_|refine y_176 ?_)
 refine Zq0 ?_ (by kernel_rfl)
 repeat (first|refine y_36 ?_|refine Z82 fun _ => ?_)
 refine Zec fun _ hw => post_of hw SubW.nil ⟨?_, rfl⟩
 rfl
end Go.Proofs.Ytbpmbdlgmmabcaa.L
namespace Go.Proofs.Ytbpmbdlgmmabcaa.L
open Go Go.Proofs
set_option maxRecDepth 100000
attribute [local irreducible] Code.wp wpList Af bodyPost L.Go
open Num
attribute [local simp] D_len
theorem y_57 {a b : Prop} (k : b) (h : Rm b → a := by intro k;(first|refine Z01 ?_|refine Z02 ?_|refine Z03 ?_|refine Z04 ?_|refine Z05 ?_|refine Z06 ?_|refine Z07 ?_|refine Z08 ?_|refine Z09 ?_|refine Z10 ?_|refine Z11 ?_|refine Z12 ?_|refine Z13 ?_|refine Z14 ?_|refine Z24 ?_|refine Z25 ?_|refine Z26 ?_|refine Z27 ?_|refine Z28 ?_|refine Z29 ?_|refine Z30 ?_|refine Z31 ?_|refine Z32 ?_|refine Z48 ?_|refine Z65 ?_|refine Z67 ?_);exact k.h) : a := h ⟨k⟩
theorem y_58 {a b : Prop} (k : b) (h : Rm b → a := by intro k;refine R.Zpp (by rfl) (by intro _ _ _;(refine st_ldp (by rfl) (by repeat first|apply Find.here|apply Find.there) (by rfl) (by rfl) (by first | (refine PartAt.l ?_; (simp; done)) | (refine PartAt.r ?_ ?_ <;> (simp; done)) | (refine PartAt.all ?_; (simp; done))) (by rfl) ?_);exact Zq) ?_;exact k.h) : a := h ⟨k⟩
theorem y_59 {S1 a b : Prop} (s1 : S1) (k : b) (h : S1 → Rm b → a := by intro s1 k;refine R.Zpp (by rfl) (by intro _ _ _;refine st_callV (by rfl) (by rfl) (by rfl) s1 (fun _ _ => trivial) (by rfl) ?_;exact Zq) ?_;exact k.h) : a := h s1 ⟨k⟩
theorem y_147 {a b : Prop} (k : b) (h : Rm b → a := by intro k;(first|refine y_54 ?_|refine y_55 ?_|refine Z01 ?_|refine Z02 ?_|refine Z48 ?_|refine Z65 ?_);exact k.h) : a := h ⟨k⟩
theorem y_148 {a b : Prop} (k : b) (h : Rm b → a := by intro k;refine R.Zpp (by rfl) (by intro _ _ _;(first|refine y_37 ?_);exact Zq) ?_;exact k.h) : a := h ⟨k⟩
set_option maxHeartbeats 4000000 in
theorem smul_spec {a b e f : Nat} (ha : a < W ^ 6) (hb : b < W ^ 6) (he : e < W ^ 6) (hf : f < W ^ 6) : Spec Try.prog 18 [LV .u64 (D 6 a ++ D 6 b), LV .u64 (D 6 e ++ D 6 f)] NoPre [] (IsV (LV .u64 (E2 (Kf.K2.mul (k2 a b) (k2 e f))))) := by
 refine mk_spec Try.func18 rfl rfl rfl fun w _ => ?_
 have hl0 := fun x => D_len 6 x
 have hmix : (kp a + kp b) * (kp e + kp f) - (kp a * kp e + kp b * kp f) = kp a * kp f + kp b * kp e := by grind
 repeat (first|(refine y_52 ?_;intro _)|refine y_57 ?_|refine Z81 fun _ => ?_|refine Z82 fun _ => ?_)
 refine R.st_perm [0, 1, 2, 3, 4, 5, 6, 7, 8, 9, 10, 11, 12, 13] (by rfl) ?_
 repeat (first|(refine R.Zpf (by rfl) (by intro _ _ _;(first|refine y_147 ?_);exact Zq) ?_)|refine y_148 ?_|refine y_58 ?_|refine y_59 (kmul_spec ha he) ?_|refine y_59 (kmul_spec hb hf) ?_|refine y_145 ?_|(refine R.Zpbb (by rfl) (by rfl) (by intro _ _ _;refine st_alloc (v := LV .u64 (List.replicate 6 0)) (by rfl) (by rfl) fun _ => ?_;exact R.Zpbx) (by intro _ _ _;refine st_alloc (v := LV .u64 (List.replicate 6 0)) (by rfl) (by rfl) fun _ => ?_;exact R.Zpbx) (fun _ => ?_) (fun _ => ?_))|(refine y_49 ?_;intro _)|(refine y_50 ?_;intro _)|refine R.Zpo (by rfl) ?_)
 all_goals
  repeat (first|(refine R.Zpf (by rfl) (by intro _ _ _;(first|refine y_147 ?_);exact Zq) ?_)|refine y_148 ?_|refine y_58 ?_|refine y_59 (kmul_spec ha he) ?_|refine y_59 (kmul_spec hb hf) ?_|refine y_145 ?_|(refine R.Zpbb (by rfl) (by rfl) (by intro _ _ _;refine st_alloc (v := LV .u64 (List.replicate 6 0)) (by rfl) (by rfl) fun _ => ?_;exact R.Zpbx) (by intro _ _ _;refine st_alloc (v := LV .u64 (List.replicate 6 0)) (by rfl) (by rfl) fun _ => ?_;exact R.Zpbx) (fun _ => ?_) (fun _ => ?_))|(refine y_49 ?_;intro _)|(refine y_50 ?_;intro _)|refine R.Zpo (by rfl) ?_)
 all_goals refine R.Zp0 ?_
 all_goals
  repeat (first|refine y_57 ?_|refine Z81 fun _ => ?_|refine Z82 fun _ => ?_)
  refine st_draw1 (by rfl) ?_
  repeat (first|(refine Zqf (by intro _ _ _;(first|refine y_147 ?_);exact Zq) ?_)|refine y_56 ?_|refine y_31 (fsub_spec' (kp a * kp e) (kp b * kp f)) ?_|refine y_31 (fadd_spec' (kp a * kp e) (kp b * kp f)) ?_|(refine Zqp (by intro _ _ _;refine st_callV (by rfl) (by rfl) (by rfl) (smix_spec _ _ a b e f ha hb he hf) (fun w hw => ⟨HasB.own (by repeat first|apply Find.here|apply Find.there) w hw, HasB.own (by repeat first|apply Find.here|apply Find.there) w hw⟩) (by rfl) ?_;exact Zq) ?_)|(refine Zqp (by intro _ _ _;(refine st_callV (by rfl) (by rfl) (by rfl) (fsub_spec' ((kp a + kp b) * (kp e + kp f)) (kp a * kp e + kp b * kp f)) (fun _ _ => trivial) (by rfl) ?_; rw [hmix]);exact Zq) ?_)|refine y_176 ?_)
  refine Zq0 ?_ (by kernel_rfl)
  repeat (first|refine y_57 ?_|refine Z81 fun _ => ?_|refine Z82 fun _ => ?_)
  refine Zec fun _ hw => post_of hw SubW.nil ⟨?_, rfl⟩
  rfl
theorem smulE (x y : F2) : Spec Try.prog 18 [LV .u64 (E2 x), LV .u64 (E2 y)] NoPre [] (IsV (LV .u64 (E2 (Kf.K2.mul x y)))) := by
 have := smul_spec (val_lt x.re) (val_lt x.im) (val_lt y.re) (val_lt y.im); rwa [k2_val, k2_val] at this
theorem saddE (x y : F2) : Spec Try.prog 31 [LV .u64 (E2 x), LV .u64 (E2 y)] NoPre [] (IsV (LV .u64 (E2 (Kf.K2.add x y)))) := by
 have := sadd_spec (val_lt x.re) (val_lt x.im) (val_lt y.re) (val_lt y.im); rwa [k2_val, k2_val] at this
theorem ssubE (x y : F2) : Spec Try.prog 81 [LV .u64 (E2 x), LV .u64 (E2 y)] NoPre [] (IsV (LV .u64 (E2 (Kf.K2.sub x y)))) := by
 have := ssub_spec (val_lt x.re) (val_lt x.im) (val_lt y.re) (val_lt y.im); rwa [k2_val, k2_val] at this
theorem snegE (x : F2) : Spec Try.prog 22 [LV .u64 (E2 x)] NoPre [] (IsV (LV .u64 (E2 (Kf.K2.neg x)))) := by
 have := sneg_spec (val_lt x.re) (val_lt x.im); rwa [k2_val] at this
theorem sscaleE (x : F2) (k : Fq) : Spec Try.prog 104 [LV .u64 (E2 x), LV .u64 (D 6 k.val)] NoPre [] (IsV (LV .u64 (E2 (Kf.K2.scale x k)))) := by
 have := sscale_spec (val_lt x.re) (val_lt x.im) (val_lt k); rwa [k2_val, kp_val] at this
theorem E2_iff (x y : F2) : (decide (D 6 x.re.val = D 6 y.re.val) && decide (D 6 x.im.val = D 6 y.im.val)) = decide (x = y) := by
 rw [← Bool.decide_and]
 refine decide_eq_decide.2 ?_
 rw [D6_iff, D6_iff]
 exact ⟨fun h => Kf.K2.ext' h.1 h.2, fun h => h ▸ ⟨rfl, rfl⟩⟩
set_option maxHeartbeats 4000000 in
theorem sinv_spec {a b : Nat} (ha : a < W ^ 6) (hb : b < W ^ 6) : Spec Try.prog 67 [LV .u64 (D 6 a ++ D 6 b)] NoPre [] (IsV (LV .u64 (E2 (Kf.K2.inv (k2 a b))))) := by
 refine mk_spec Try.func67 rfl rfl rfl fun w _ => ?_
 have hl0 := fun x => D_len 6 x
 repeat (first|(refine y_52 ?_;intro _)|refine y_36 ?_|refine Z81 fun _ => ?_|refine Z82 fun _ => ?_)
 refine R.st_perm [0, 1, 2, 3, 4, 5, 6, 7, 8, 9, 10, 11, 12] (by rfl) ?_
 repeat (first|(refine R.Zpf (by rfl) (by intro _ _ _;(first|refine y_54 ?_);exact Zq) ?_)|refine y_148 ?_|refine y_58 ?_|refine y_59 (kmul_spec ha ha) ?_|refine y_59 (kmul_spec hb hb) ?_|refine y_59 (fadd_spec' (kp a * kp a) (kp b * kp b)) ?_|refine y_145 ?_|(refine y_49 ?_;intro _)|(refine y_50 ?_;intro _)|refine R.Zpo (by rfl) ?_)
 refine R.Zp0 ?_
 repeat (first|refine y_36 ?_|refine Z81 fun _ => ?_|refine Z82 fun _ => ?_)
 refine st_draw1 (by rfl) ?_
 repeat (first|(refine Zqf (by intro _ _ _;(first|refine y_54 ?_);exact Zq) ?_)|refine y_56 ?_|refine y_31 (sconj_spec ha hb) ?_|refine y_31 (finv_spec' (kp a * kp a + kp b * kp b)) ?_|refine y_31 (sscaleE (Kf.K2.conj (k2 a b)) (Kf.inv (kp a * kp a + kp b * kp b))) ?_|refine y_176 ?_)
 refine Zq0 ?_ (by kernel_rfl)
 repeat (first|refine y_36 ?_|refine Z81 fun _ => ?_|refine Z82 fun _ => ?_)
 refine Zec fun _ hw => post_of hw SubW.nil ⟨?_, rfl⟩
 rfl
theorem sinvE (x : F2) : Spec Try.prog 67 [LV .u64 (E2 x)] NoPre [] (IsV (LV .u64 (E2 (Kf.K2.inv x)))) := by
 have := sinv_spec (val_lt x.re) (val_lt x.im); rwa [k2_val] at this
end Go.Proofs.Ytbpmbdlgmmabcaa.L
namespace Go.Proofs.Ytbpmbdlgmmabcaa.L
open Go Go.Proofs
set_option maxRecDepth 100000
attribute [local irreducible] Code.wp wpList Af bodyPost L.Go
open Num
theorem y_60 {a b : Prop} (k : b) (h : Rm b → a := by intro k;(first|refine Z01 ?_|refine Z02 ?_|refine Z03 ?_|refine Z04 ?_|refine Z05 ?_|refine Z06 ?_|refine Z07 ?_|refine Z08 ?_|refine Z09 ?_|refine Z10 ?_|refine Z11 ?_|refine Z12 ?_|refine Z13 ?_|refine Z14 ?_|refine Z15 ?_|refine Z17 ?_|refine Z18 ?_|refine Z42 ?_|refine Z44 ?_|refine Z45 ?_|refine Z57 ?_|refine Z70 ?_|refine Z74 ?_|refine Z80 ?_);exact k.h) : a := h ⟨k⟩
theorem y_61 {a b : Prop} (k : b) (h : Rm b → a := by intro k;refine st_index_tab bl (by rfl) (by rfl) (by rfl) (by omega) (by kernel_rfl) (by kernel_rfl) (by rfl) ?_;exact k.h) : a := h ⟨k⟩
theorem y_149 {a b : Prop} (k : b) (h : Rm b → a := by intro k;(first|refine y_61 ?_|refine Z01 ?_|refine Z02 ?_|refine Z03 ?_|refine Z04 ?_|refine Z05 ?_|refine Z06 ?_|refine Z07 ?_|refine Z08 ?_|refine Z09 ?_|refine Z10 ?_|refine Z11 ?_|refine Z12 ?_|refine Z13 ?_|refine Z14 ?_|refine Z15 ?_|refine Z17 ?_|refine Z18 ?_|refine Z42 ?_|refine Z44 ?_|refine Z45 ?_|refine Z57 ?_|refine Z70 ?_|refine Z74 ?_|refine Z80 ?_);exact k.h) : a := h ⟨k⟩
theorem len64_spec (x : Nat) (hx : x < 18446744073709551616) : Spec Try.prog 150 [N .u64 x] NoPre [] (IsV (N .i64 (bl x))) := by
 refine mk_spec Try.func150 rfl rfl rfl fun w _ => ?_
 repeat (first|refine y_60 ?_)
 refine st_cond (by rfl) (fun h32 => ?_) (fun h32 => ?_)
 ·have e32 := bl_shift x 32 h32
  have l32 : x >>> 32 < 4294967296 := by rw [Nat.shiftRight_eq_div_pow]; omega
  repeat (first|refine y_60 ?_)
  refine st_cond (by rfl) (fun h16 => ?_) (fun h16 => ?_)
  ·have e16 := bl_shift (x >>> 32) 16 h16
   have l16 : x >>> 32 >>> 16 < 65536 := by rw [Nat.shiftRight_eq_div_pow (x >>> 32)]; omega
   repeat (first|refine y_60 ?_)
   refine st_cond (by rfl) (fun h8 => ?_) (fun h8 => ?_)
   ·have e8 := bl_shift (x >>> 32 >>> 16) 8 (by omega)
    have l8 : (x >>> 32 >>> 16) >>> 8 < 256 := by rw [Nat.shiftRight_eq_div_pow]; omega
    have hx8 : (x >>> 32 >>> 16) >>> 8 % 256 = (x >>> 32 >>> 16) >>> 8 := Nat.mod_eq_of_lt (by omega)
    have hbl := bl_le ((x >>> 32 >>> 16) >>> 8) 8 (by omega)
    repeat (first|rw [hx8]|refine y_149 ?_)
    refine Ze1 fun _ hw => post_of hw SubW.nil ⟨?_, rfl⟩
    exact congrArg (N .i64) (by omega)
   ·have hx8 : x >>> 32 >>> 16 % 256 = x >>> 32 >>> 16 := Nat.mod_eq_of_lt (by omega)
    have hbl := bl_le (x >>> 32 >>> 16) 8 (by omega)
    repeat (first|rw [hx8]|refine y_149 ?_)
    refine Ze1 fun _ hw => post_of hw SubW.nil ⟨?_, rfl⟩
    exact congrArg (N .i64) (by omega)
  ·repeat (first|refine y_60 ?_)
   refine st_cond (by rfl) (fun h8 => ?_) (fun h8 => ?_)
   ·have e8 := bl_shift (x >>> 32) 8 (by omega)
    have l8 : (x >>> 32) >>> 8 < 256 := by rw [Nat.shiftRight_eq_div_pow]; omega
    have hx8 : (x >>> 32) >>> 8 % 256 = (x >>> 32) >>> 8 := Nat.mod_eq_of_lt (by omega)
    have hbl := bl_le ((x >>> 32) >>> 8) 8 (by omega)
    repeat (first|rw [hx8]|refine y_149 ?_)
    refine Ze1 fun _ hw => post_of hw SubW.nil ⟨?_, rfl⟩
    exact congrArg (N .i64) (by omega)
   ·have hx8 : x >>> 32 % 256 = x >>> 32 := Nat.mod_eq_of_lt (by omega)
    have hbl := bl_le (x >>> 32) 8 (by omega)
    repeat (first|rw [hx8]|refine y_149 ?_)
    refine Ze1 fun _ hw => post_of hw SubW.nil ⟨?_, rfl⟩
    exact congrArg (N .i64) (by omega)
 ·repeat (first|refine y_60 ?_)
  refine st_cond (by rfl) (fun h16 => ?_) (fun h16 => ?_)
  ·have e16 := bl_shift x 16 h16
   have l16 : x >>> 16 < 65536 := by rw [Nat.shiftRight_eq_div_pow]; omega
   repeat (first|refine y_60 ?_)
   refine st_cond (by rfl) (fun h8 => ?_) (fun h8 => ?_)
   ·have e8 := bl_shift (x >>> 16) 8 (by omega)
    have l8 : (x >>> 16) >>> 8 < 256 := by rw [Nat.shiftRight_eq_div_pow]; omega
    have hx8 : (x >>> 16) >>> 8 % 256 = (x >>> 16) >>> 8 := Nat.mod_eq_of_lt (by omega)
    have hbl := bl_le ((x >>> 16) >>> 8) 8 (by omega)
    repeat (first|rw [hx8]|refine y_149 ?_)
    refine Ze1 fun _ hw => post_of hw SubW.nil ⟨?_, rfl⟩
    exact congrArg (N .i64) (by omega)
   ·have hx8 : x >>> 16 % 256 = x >>> 16 := Nat.mod_eq_of_lt (by omega)
    have hbl := bl_le (x >>> 16) 8 (by omega)
    repeat (first|rw [hx8]|refine y_149 ?_)
    refine Ze1 fun _ hw => post_of hw SubW.nil ⟨?_, rfl⟩
    exact congrArg (N .i64) (by omega)
  ·repeat (first|refine y_60 ?_)
   refine st_cond (by rfl) (fun h8 => ?_) (fun h8 => ?_)
   ·have e8 := bl_shift (x) 8 (by omega)
    have l8 : (x) >>> 8 < 256 := by rw [Nat.shiftRight_eq_div_pow]; omega
    have hx8 : (x) >>> 8 % 256 = (x) >>> 8 := Nat.mod_eq_of_lt (by omega)
    have hbl := bl_le ((x) >>> 8) 8 (by omega)
    repeat (first|rw [hx8]|refine y_149 ?_)
    refine Ze1 fun _ hw => post_of hw SubW.nil ⟨?_, rfl⟩
    exact congrArg (N .i64) (by omega)
   ·have hx8 : x % 256 = x := Nat.mod_eq_of_lt (by omega)
    have hbl := bl_le (x) 8 (by omega)
    repeat (first|rw [hx8]|refine y_149 ?_)
    refine Ze1 fun _ hw => post_of hw SubW.nil ⟨?_, rfl⟩
    exact congrArg (N .i64) (by omega)
theorem lz64_spec (x : Nat) (hx : x < 18446744073709551616) : Spec Try.prog 146 [N .u64 x] NoPre [] (IsV (N .i64 (64 - bl x))) := by
 refine mk_spec Try.func146 rfl rfl rfl fun w _ => ?_
 have hb := bl_le x 64 hx
 repeat (first|refine y_2 (len64_spec x hx) ?_|refine Z01 ?_|refine Z02 ?_|refine Z03 ?_|refine Z04 ?_|refine Z05 ?_|refine Z06 ?_|refine Z07 ?_|refine Z08 ?_|refine Z09 ?_|refine Z10 ?_|refine Z11 ?_|refine Z12 ?_|refine Z13 ?_|refine Z14 ?_|refine Z16 ?_|refine Z71 ?_)
 refine Ze1 fun _ hw => post_of hw SubW.nil ⟨?_, rfl⟩
 rfl
end Go.Proofs.Ytbpmbdlgmmabcaa.L
namespace Go.Proofs.Ytbpmbdlgmmabcaa.L
open Go Go.Proofs
set_option maxRecDepth 100000
attribute [local irreducible] Code.wp wpList Af bodyPost L.Go
open Num
theorem y_62 {a b : Prop} (k : b) (h : Rm b → a := by intro k;(first|refine Z01 ?_|refine Z02 ?_|refine Z03 ?_|refine Z04 ?_|refine Z05 ?_|refine Z06 ?_|refine Z07 ?_|refine Z08 ?_|refine Z09 ?_|refine Z10 ?_|refine Z11 ?_|refine Z12 ?_|refine Z13 ?_|refine Z14 ?_|refine Z17 ?_|refine Z18 ?_|refine Z24 ?_|refine Z25 ?_|refine Z26 ?_|refine Z27 ?_|refine Z28 ?_|refine Z33 ?_|refine Z34 ?_|refine Z35 ?_|refine Z37 ?_|refine Z38 ?_|refine Z40 ?_|refine Z41 ?_|refine Z42 ?_|refine Z43 ?_|refine Z44 ?_|refine Z45 ?_|refine Z49 ?_|refine Z50 ?_|refine Z51 ?_|refine Z52 ?_|refine Z53 ?_|refine Z67 ?_|refine Z74 ?_|refine Z80 ?_);exact k.h) : a := h ⟨k⟩
set_option maxHeartbeats 4000000 in
theorem div64_spec (hi lo y : Nat) (hy : hi < y) (hlo : lo < 18446744073709551616) (hyW : y < 18446744073709551616) :
  Spec Try.prog 140 [N .u64 hi, N .u64 lo, N .u64 y] NoPre [] (IsV (.tuple [N .u64 ((hi * 18446744073709551616 + lo) / y), N .u64 ((hi * 18446744073709551616 + lo) % y)].toArray)) := by
 refine mk_spec Try.func140 rfl rfl rfl fun w _ => ?_
 repeat (first|refine y_16 ?_|refine Z01 ?_|refine Z02 ?_|refine Z03 ?_|refine Z04 ?_|refine Z05 ?_|refine Z06 ?_|refine Z07 ?_|refine Z08 ?_|refine Z09 ?_|refine Z10 ?_|refine Z11 ?_|refine Z12 ?_|refine Z13 ?_|refine Z14 ?_|refine Z17 ?_|refine Z18 ?_|refine Z24 ?_|refine Z25 ?_|refine Z26 ?_|refine Z27 ?_|refine Z28 ?_|refine Z33 ?_|refine Z34 ?_|refine Z35 ?_|refine Z37 ?_|refine Z38 ?_|refine Z40 ?_|refine Z41 ?_|refine Z42 ?_|refine Z43 ?_|refine Z44 ?_|refine Z45 ?_|refine Z49 ?_|refine Z50 ?_|refine Z51 ?_|refine Z52 ?_|refine Z53 ?_|refine Z67 ?_|refine Z74 ?_|refine Z80 ?_)
 refine st_cond (by rfl) (fun h0 => ?_) (fun h0 => ?_)
 ·subst h0
  repeat (first|refine y_62 ?_)
  refine st_draw1 (by rfl) ?_
  repeat (first|(refine Zqf (by intro _ _ _;(first|refine st_udiv (by rfl) (by rfl) (by rfl) (by omega) (by omega) (by rfl) ?_|refine st_umod (by rfl) (by rfl) (by omega) (by rfl) ?_|refine Z01 ?_|refine Z02 ?_|refine Z17 ?_|refine Z18 ?_|refine Z33 ?_|refine Z34 ?_|refine Z35 ?_|refine Z37 ?_|refine Z38 ?_|refine Z40 ?_|refine Z41 ?_|refine Z42 ?_|refine Z43 ?_|refine Z44 ?_|refine Z45 ?_|refine Z49 ?_|refine Z50 ?_|refine Z74 ?_|refine Z80 ?_);exact Zq) ?_)|refine y_141 ?_|refine Zqn ?_)
  refine Zq0 ?_ (by kernel_rfl)
  repeat (first|refine y_62 ?_)
  refine Ze2 fun _ hw => post_of hw SubW.nil ⟨?_, rfl⟩
  rw [Nat.zero_mul, Nat.zero_add]
 obtain ⟨hb1, hb2, hb3⟩ := bl_spec y (by omega)
 have hb4 := bl_le y 64 hyW
 obtain ⟨s, hs⟩ : ∃ s, s = 64 - bl y := ⟨_, rfl⟩
 have hsl : s ≤ 63 := by omega
 obtain ⟨Y, hYs⟩ : ∃ Y, Y = y * 2 ^ s := ⟨_, rfl⟩
 have hYW : Y < 18446744073709551616 := by
  have := Nat.mul_lt_mul_of_pos_right hb1 (Nat.two_pow_pos s)
  rw [← Nat.pow_add, show bl y + s = 64 by omega] at this
  rw [hYs]; exact this
 have hYb : 9223372036854775808 ≤ Y := by
  have := Nat.mul_le_mul_right (2 ^ s) hb2
  rw [← Nat.pow_add, show bl y - 1 + s = 63 by omega] at this
  rw [hYs]; exact this
 have hYp : 0 < Y := by omega
 obtain ⟨v1, hv1⟩ : ∃ v1, v1 = Y / 4294967296 := ⟨_, rfl⟩
 obtain ⟨v0, hv0⟩ : ∃ v0, v0 = Y % 4294967296 := ⟨_, rfl⟩
 have hYv : Y = v1 * 4294967296 + v0 := by omega
 have hv1p : 0 < v1 := by omega
 have hv1l : v1 < 4294967296 := by omega
 have hv0l : v0 < 4294967296 := by omega
 obtain ⟨u, hu⟩ : ∃ u, u = hi * 2 ^ s + lo / 2 ^ (64 - s) := ⟨_, rfl⟩
 obtain ⟨u10, hu10'⟩ : ∃ u10, u10 = lo * 2 ^ s % 18446744073709551616 := ⟨_, rfl⟩
 obtain ⟨hN, huY⟩ := norm_div (s := s) hy hlo (by omega)
 rw [← hu, ← hu10'] at hN
 rw [← hu, ← hYs] at huY
 obtain ⟨u1, hu1'⟩ : ∃ u1, u1 = u10 / 4294967296 := ⟨_, rfl⟩
 obtain ⟨u0, hu0'⟩ : ∃ u0, u0 = u10 % 4294967296 := ⟨_, rfl⟩
 have hu10l : u10 < 18446744073709551616 := by rw [hu10']; exact Nat.mod_lt _ (by decide)
 have hu1 : u1 < 4294967296 := by omega
 have hu0 : u0 < 4294967296 := by omega
 have hu10 : u1 * 4294967296 + u0 = u10 := by rw [hu1', hu0', Nat.mul_comm]; exact Nat.div_add_mod _ _
 have e1 : (64 - bl y) % 18446744073709551616 = s := by omega
 have e2 : y <<< s % 18446744073709551616 = Y := by rw [Nat.shiftLeft_eq, ← hYs, Nat.mod_eq_of_lt hYW]
 have e3 : Y >>> 32 = v1 := by rw [shr32, hv1]
 have e4 : Y % 18446744073709551616 &&& 4294967295 % 18446744073709551616 = v0 := by rw [and32, hv0]
 have hlq : lo / 2 ^ (64 - s) < 2 ^ s := by
  rw [Nat.div_lt_iff_lt_mul (Nat.two_pow_pos _), ← Nat.pow_add, show s + (64 - s) = 64 by omega]; exact hlo
 have hhs : hi * 2 ^ s < 18446744073709551616 := Nat.lt_of_le_of_lt (by rw [hu]; exact Nat.le_add_right _ _) (Nat.lt_trans huY hYW)
 have e5 : (64 + (18446744073709551616 - s % 18446744073709551616)) % 18446744073709551616 = 64 - s := by omega
 have e6 : hi <<< s % 18446744073709551616 % 18446744073709551616 ||| lo >>> (64 - s) % 18446744073709551616 = u := by
  rw [Nat.shiftLeft_eq, Nat.shiftRight_eq_div_pow, Nat.mod_mod, Nat.mod_eq_of_lt hhs, Nat.mod_eq_of_lt (a := lo / 2 ^ (64 - s)) (Nat.lt_of_le_of_lt (Nat.div_le_self _ _) hlo), or_plus hlq, hu]
 have e7 : lo <<< s % 18446744073709551616 = u10 := by rw [Nat.shiftLeft_eq, hu10']
 have e8 : u10 >>> 32 = u1 := by rw [shr32, hu1']
 have e9 : u10 % 18446744073709551616 &&& 4294967295 % 18446744073709551616 = u0 := by rw [and32, hu0']
 have hwr := wrap_sub1 (a := u) (c := u / v1 * v1) (d := u % v1) (div_rem_eq _ _) (Nat.lt_trans (Nat.mod_lt _ hv1p) (by omega))
 obtain ⟨q1, hq1⟩ : ∃ q1, q1 = (u * 4294967296 + u1) / Y := ⟨_, rfl⟩
 repeat (first|refine y_2 (lz64_spec y hyW) ?_|refine st_shr (by rfl) (by rfl) (show 64 - s ≤ 64 by omega) (by rfl) ?_|rw [e1]|rw [e2]|rw [e3]|rw [e4]|rw [e5]|rw [e6]|rw [e7]|rw [e8]|rw [e9]|refine st_udiv (by rfl) (by rfl) (by rfl) hv1p (by omega) (by rfl) ?_|rw [hwr]|refine st_block_join (ι := Unit) (fun _ => True) (fun _ => [(2, N .u64 Y), (8, N .u64 s), (9, N .u64 v1), (10, N .u64 v0), (11, N .u64 u), (13, N .u64 u1), (14, N .u64 u0), (15, N .u64 q1)]) (fun _ => []) ?_ ?_|refine y_62 ?_)
 ·clear e1 e2 e3 e4 e5 e6 e7 e8 e9 hwr hN hu10' hu1' hu0' hlq hhs hu hs hb1 hb2 hb3 hb4 hYs hu10 hu10l
  refine st_loop (ι := Nat × Nat) (fun p => p.1 * v1 + p.2 = u ∧ p.2 < 4294967296 ∧ (u * 4294967296 + u1) / Y ≤ p.1)
   (fun p => [(2, N .u64 Y), (8, N .u64 s), (9, N .u64 v1), (10, N .u64 v0), (11, N .u64 u), (13, N .u64 u1), (14, N .u64 u0), (15, N .u64 p.1), (16, N .u64 p.2)]) (fun p => []) (fun p => p.1) (u / v1, u % v1)
   ⟨(div_rem_eq _ _).symm, by simp only; have := Nat.mod_lt u hv1p; omega, by simp only; rw [hYv]; exact qhat_ge hv1p hu1⟩ (by repeat (first|apply subL.nil|refine subL.cons (by rfl) ?_)) (by repeat (first|apply SubW.nil|refine y_6 ?_)) ?_
  rintro ⟨q, r⟩ ⟨hqr, hr, hqq⟩
  simp only at hqr hr hqq ⊢
  have hqle : q ≤ u := Nat.le_trans (Nat.le_mul_of_pos_right q hv1p) (by omega)
  by_cases hbig : 4294967296 ≤ q
  ·have hlt := qhat_step (v0 := v0) (u1 := u1) (by rw [← hYv]; exact huY) hqr hu1 (.inl hbig)
   rw [← hYv] at hlt
   have hqpos : 0 < q := Nat.lt_of_le_of_lt (Nat.zero_le _) hlt
   have hdq := wrap_dec (q := q) hqpos (by omega)
   have hrr : (r + v1) % 18446744073709551616 = r + v1 := Nat.mod_eq_of_lt (by omega)
   have hqr' : (q - 1) * v1 + (r + v1) = u := by
    obtain ⟨k, rfl⟩ : ∃ k, q = k + 1 := ⟨q - 1, by omega⟩
    rw [Nat.add_mul, Nat.one_mul] at hqr
    simp only [Nat.add_sub_cancel]; omega
   repeat (first|refine y_20 ?_|refine y_16 ?_|rw [hdq]|rw [hrr]|rw [hp2]|rw [hp3]|refine y_62 ?_)
   refine st_cond (by rfl) (fun hbr => ?_) (fun hbr => ?_)
   ·have hend : q - 1 = q1 := by rw [hq1, hYv]; rw [hYv] at hlt; exact qhat_stop (by omega) hqr' (qhat_break (by omega) (by rw [← hYv]; exact huY) hqr' hbr) (by omega)
    repeat (first|refine y_62 ?_)
    rw [hend]
    exact st_met () trivial (by repeat (first|apply subL.nil|refine subL.cons (by rfl) ?_)) (by repeat (first|apply SubW.nil|refine y_6 ?_))
   ·repeat (first|refine y_62 ?_)
    exact st_round (q - 1, r + v1) ⟨hqr', by simp only; omega, by simp only; omega⟩ (by simp only; omega) (by repeat (first|apply subL.nil|refine subL.cons (by rfl) ?_)) (by repeat (first|apply SubW.nil|refine y_6 ?_))
  ·have hp1 : q * v0 < 18446744073709551616 := Nat.lt_of_le_of_lt (Nat.mul_le_mul (show q ≤ 4294967295 by omega) (show v0 ≤ 4294967295 by omega)) (by decide)
   have hp2 : q * v0 % 18446744073709551616 = q * v0 := Nat.mod_eq_of_lt hp1
   have hp3 : (4294967296 * r % 18446744073709551616 + u1) % 18446744073709551616 = r * 4294967296 + u1 := by omega
   by_cases hc : r * 4294967296 + u1 < q * v0
   ·have hlt := qhat_step (v0 := v0) (u1 := u1) (by rw [← hYv]; exact huY) hqr hu1 (.inr hc)
    rw [← hYv] at hlt
    have hqpos : 0 < q := Nat.lt_of_le_of_lt (Nat.zero_le _) hlt
    have hdq := wrap_dec (q := q) hqpos (by omega)
    have hrr : (r + v1) % 18446744073709551616 = r + v1 := Nat.mod_eq_of_lt (by omega)
    have hqr' : (q - 1) * v1 + (r + v1) = u := by
     obtain ⟨k, rfl⟩ : ∃ k, q = k + 1 := ⟨q - 1, by omega⟩
     rw [Nat.add_mul, Nat.one_mul] at hqr
     simp only [Nat.add_sub_cancel]; omega
    repeat (first|refine y_20 ?_|refine y_16 ?_|rw [hdq]|rw [hrr]|rw [hp2]|rw [hp3]|refine y_62 ?_)
    refine st_cond (by rfl) (fun hbr => ?_) (fun hbr => ?_)
    ·have hend : q - 1 = q1 := by rw [hq1, hYv]; rw [hYv] at hlt; exact qhat_stop (by omega) hqr' (qhat_break (by omega) (by rw [← hYv]; exact huY) hqr' hbr) (by omega)
     repeat (first|refine y_62 ?_)
     rw [hend]
     exact st_met () trivial (by repeat (first|apply subL.nil|refine subL.cons (by rfl) ?_)) (by repeat (first|apply SubW.nil|refine y_6 ?_))
    ·repeat (first|refine y_62 ?_)
     exact st_round (q - 1, r + v1) ⟨hqr', by simp only; omega, by simp only; omega⟩ (by simp only; omega) (by repeat (first|apply subL.nil|refine subL.cons (by rfl) ?_)) (by repeat (first|apply SubW.nil|refine y_6 ?_))
   ·have hend : q = q1 := by rw [hq1, hYv]; rw [hYv] at hqq; exact qhat_stop (by omega) hqr (by omega) hqq
    repeat (first|refine y_16 ?_|rw [hp2]|rw [hp3]|refine y_62 ?_)
    rw [hend]
    exact st_met () trivial (by repeat (first|apply subL.nil|refine subL.cons (by rfl) ?_)) (by repeat (first|apply SubW.nil|refine y_6 ?_))
 intro _ _
 clear e1 e2 e3 e4 e5 e6 e7 e8 e9 hwr
 have hq1l : q1 < 4294967296 := by rw [hq1]; exact qhat_lt huY hu1
 obtain ⟨un21, hun21⟩ : ∃ z, z = (u * 4294967296 + u1) % Y := ⟨_, rfl⟩
 have h21Y : un21 < Y := by rw [hun21]; exact Nat.mod_lt _ hYp
 have hw21 := wrap_sub (a := u * 4294967296) (b := u1) (c := q1 * Y) (d := un21) (by rw [hq1, hun21]; exact div_rem_eq _ _) (by omega)
 have hd1 : un21 / v1 < 18446744073709551616 := Nat.lt_of_le_of_lt (Nat.div_le_self _ _) (by omega)
 have hwr := wrap_sub1 (a := un21) (c := un21 / v1 * v1) (d := un21 % v1) (div_rem_eq _ _) (Nat.lt_trans (Nat.mod_lt _ hv1p) (by omega))
 obtain ⟨q0, hq0⟩ : ∃ q0, q0 = (un21 * 4294967296 + u0) / Y := ⟨_, rfl⟩
 repeat (first|rw [hw21]|refine st_udiv (by rfl) (by rfl) (by rfl) hv1p (by omega) (by rfl) ?_|rw [hwr]|refine st_block_join (ι := Unit) (fun _ => True) (fun _ => [(2, N .u64 Y), (8, N .u64 s), (14, N .u64 u0), (15, N .u64 q1), (17, N .u64 un21), (18, N .u64 q0)]) (fun _ => []) ?_ ?_|refine y_62 ?_)
 ·clear hwr hN hu10' hu1' hu0' hlq hhs hu hs hb1 hb2 hb3 hb4 hYs hu10 hu10l hq1 hun21 hw21 huY
  refine st_loop (ι := Nat × Nat) (fun p => p.1 * v1 + p.2 = un21 ∧ p.2 < 4294967296 ∧ (un21 * 4294967296 + u0) / Y ≤ p.1)
   (fun p => [(2, N .u64 Y), (8, N .u64 s), (9, N .u64 v1), (10, N .u64 v0), (14, N .u64 u0), (15, N .u64 q1), (16, N .u64 p.2), (17, N .u64 un21), (18, N .u64 p.1)]) (fun p => []) (fun p => p.1) (un21 / v1, un21 % v1)
   ⟨(div_rem_eq _ _).symm, by simp only; have := Nat.mod_lt un21 hv1p; omega, by simp only; rw [hYv]; exact qhat_ge hv1p hu0⟩ (by repeat (first|apply subL.nil|refine subL.cons (by rfl) ?_)) (by repeat (first|apply SubW.nil|refine y_6 ?_)) ?_
  rintro ⟨q, r⟩ ⟨hqr, hr, hqq⟩
  simp only at hqr hr hqq ⊢
  have hqle : q ≤ un21 := Nat.le_trans (Nat.le_mul_of_pos_right q hv1p) (by omega)
  by_cases hbig : 4294967296 ≤ q
  ·have hlt := qhat_step (v0 := v0) (u1 := u0) (by rw [← hYv]; exact h21Y) hqr hu0 (.inl hbig)
   rw [← hYv] at hlt
   have hqpos : 0 < q := Nat.lt_of_le_of_lt (Nat.zero_le _) hlt
   have hdq := wrap_dec (q := q) hqpos (by omega)
   have hrr : (r + v1) % 18446744073709551616 = r + v1 := Nat.mod_eq_of_lt (by omega)
   have hqr' : (q - 1) * v1 + (r + v1) = un21 := by
    obtain ⟨k, rfl⟩ : ∃ k, q = k + 1 := ⟨q - 1, by omega⟩
    rw [Nat.add_mul, Nat.one_mul] at hqr
    simp only [Nat.add_sub_cancel]; omega
   repeat (first|refine y_20 ?_|refine y_16 ?_|rw [hdq]|rw [hrr]|rw [hp2]|rw [hp3]|refine y_62 ?_)
   refine st_cond (by rfl) (fun hbr => ?_) (fun hbr => ?_)
   ·have hend : q - 1 = q0 := by rw [hq0, hYv]; rw [hYv] at hlt; exact qhat_stop (by omega) hqr' (qhat_break (by omega) (by rw [← hYv]; exact h21Y) hqr' hbr) (by omega)
    repeat (first|refine y_62 ?_)
    rw [hend]
    exact st_met () trivial (by repeat (first|apply subL.nil|refine subL.cons (by rfl) ?_)) (by repeat (first|apply SubW.nil|refine y_6 ?_))
   ·repeat (first|refine y_62 ?_)
    exact st_round (q - 1, r + v1) ⟨hqr', by simp only; omega, by simp only; omega⟩ (by simp only; omega) (by repeat (first|apply subL.nil|refine subL.cons (by rfl) ?_)) (by repeat (first|apply SubW.nil|refine y_6 ?_))
  ·have hp1 : q * v0 < 18446744073709551616 := Nat.lt_of_le_of_lt (Nat.mul_le_mul (show q ≤ 4294967295 by omega) (show v0 ≤ 4294967295 by omega)) (by decide)
   have hp2 : q * v0 % 18446744073709551616 = q * v0 := Nat.mod_eq_of_lt hp1
   have hp3 : (4294967296 * r % 18446744073709551616 + u0) % 18446744073709551616 = r * 4294967296 + u0 := by omega
   by_cases hc : r * 4294967296 + u0 < q * v0
   ·have hlt := qhat_step (v0 := v0) (u1 := u0) (by rw [← hYv]; exact h21Y) hqr hu0 (.inr hc)
    rw [← hYv] at hlt
    have hqpos : 0 < q := Nat.lt_of_le_of_lt (Nat.zero_le _) hlt
    have hdq := wrap_dec (q := q) hqpos (by omega)
    have hrr : (r + v1) % 18446744073709551616 = r + v1 := Nat.mod_eq_of_lt (by omega)
    have hqr' : (q - 1) * v1 + (r + v1) = un21 := by
     obtain ⟨k, rfl⟩ : ∃ k, q = k + 1 := ⟨q - 1, by omega⟩
     rw [Nat.add_mul, Nat.one_mul] at hqr
     simp only [Nat.add_sub_cancel]; omega
    repeat (first|refine y_20 ?_|refine y_16 ?_|rw [hdq]|rw [hrr]|rw [hp2]|rw [hp3]|refine y_62 ?_)
    refine st_cond (by rfl) (fun hbr => ?_) (fun hbr => ?_)
    ·have hend : q - 1 = q0 := by rw [hq0, hYv]; rw [hYv] at hlt; exact qhat_stop (by omega) hqr' (qhat_break (by omega) (by rw [← hYv]; exact h21Y) hqr' hbr) (by omega)
     repeat (first|refine y_62 ?_)
     rw [hend]
     exact st_met () trivial (by repeat (first|apply subL.nil|refine subL.cons (by rfl) ?_)) (by repeat (first|apply SubW.nil|refine y_6 ?_))
    ·repeat (first|refine y_62 ?_)
     exact st_round (q - 1, r + v1) ⟨hqr', by simp only; omega, by simp only; omega⟩ (by simp only; omega) (by repeat (first|apply subL.nil|refine subL.cons (by rfl) ?_)) (by repeat (first|apply SubW.nil|refine y_6 ?_))
   ·have hend : q = q0 := by rw [hq0, hYv]; rw [hYv] at hqq; exact qhat_stop (by omega) hqr (by omega) hqq
    repeat (first|refine y_16 ?_|rw [hp2]|rw [hp3]|refine y_62 ?_)
    rw [hend]
    exact st_met () trivial (by repeat (first|apply subL.nil|refine subL.cons (by rfl) ?_)) (by repeat (first|apply SubW.nil|refine y_6 ?_))
 intro _ _
 have hr2 := wrap_sub (a := un21 * 4294967296) (b := u0) (c := q0 * Y) (d := (un21 * 4294967296 + u0) % Y) (by rw [hq0]; exact div_rem_eq _ _) (Nat.lt_trans (Nat.mod_lt _ hYp) hYW)
 have hQ0 : q0 < 4294967296 := by rw [hq0]; exact qhat_lt h21Y hu0
 have hqq : q1 * 4294967296 % 18446744073709551616 = q1 * 4294967296 := Nat.mod_eq_of_lt (by omega)
 have hqs : (q1 * 4294967296 + q0) % 18446744073709551616 = q1 * 4294967296 + q0 := Nat.mod_eq_of_lt (by omega)
 repeat (first|rw [hr2]|rw [hqq]|rw [hqs]|refine st_shr (by rfl) (by rfl) (show s ≤ 64 by omega) (by rfl) ?_|refine y_62 ?_)
 refine Ze2 fun _ hw => post_of hw SubW.nil ⟨?_, rfl⟩
 obtain ⟨g1, g2⟩ := div_two (u := u) (u1 := u1) (u0 := u0) hYp
 rw [← hq1, ← hun21] at g1
 rw [← hun21] at g2
 rw [← hq0] at g1
 rw [hu10, hN, hYs, Nat.mul_div_mul_right _ _ (Nat.two_pow_pos s)] at g1
 rw [hu10, hN, hYs, Nat.mul_mod_mul_right] at g2
 rw [g1, hYs, g2, Nat.shiftRight_eq_div_pow, Nat.mul_div_cancel _ (Nat.two_pow_pos s)]
end Go.Proofs.Ytbpmbdlgmmabcaa.L
namespace Go.Proofs.Ytbpmbdlgmmabcaa.L.Kf.K2
open Pr
variable {n : Nat} [NeZero n]
theorem tryP_0 {a : K2 n} {m : Fin n} {s : Fin n × Bool} {o : K2 n} (hs : s = fsq ((a.re + m) * hv n)) (h : s.1 = 0) (ho : o = ⟨s.1, (fsq (-a.re)).1⟩) :
  tryP a m = (evn2 o, (fsq (-a.re)).2 && decide (mul (evn2 o) (evn2 o) = a)) := by
 subst hs
 subst ho
 rw [h, tryP, if_pos h]
theorem tryP_1 {a : K2 n} {m : Fin n} {s : Fin n × Bool} {o : K2 n} (hs : s = fsq ((a.re + m) * hv n)) (h : ¬ s.1 = 0) (ho : o = ⟨s.1, a.im * hv n * Kf.inv s.1⟩) :
  tryP a m = (evn2 o, s.2 && decide (mul (evn2 o) (evn2 o) = a)) := by
 subst hs
 subst ho
 rw [tryP, if_neg h]
theorem evn2_1 {a : K2 n} {g : Nat} (hg : g = sgn a) (h : g = 1) : evn2 a = neg a := if_pos (hg.symm.trans h)
theorem evn2_0 {a : K2 n} {g : Nat} (hg : g = sgn a) (h : ¬ g = 1) : evn2 a = a := if_neg fun e => h (hg.trans e)
theorem sqrtP_0 {a : K2 n} {s : Fin n × Bool} (hs : s = fsq (norm a)) (h : s.2 = false) : sqrtP a = (zero, false) := by
 subst hs
 rw [sqrtP, if_neg (by rw [h]; decide)]
theorem sqrtP_1 {a : K2 n} {s : Fin n × Bool} {t : K2 n × Bool} (hs : s = fsq (norm a)) (h : s.2 = true) (ht : t = tryP a s.1) (h1 : t.2 = true) : sqrtP a = (t.1, true) := by
 subst hs
 subst ht
 rw [sqrtP, if_pos h, if_pos h1]
theorem sqrtP_2 {a : K2 n} {s : Fin n × Bool} {t v : K2 n × Bool} (hs : s = fsq (norm a)) (h : s.2 = true) (ht : t = tryP a s.1) (h1 : t.2 = false) (hv : v = tryP a (-s.1)) (h2 : v.2 = true) : sqrtP a = (v.1, true) := by
 subst hs
 subst ht
 subst hv
 rw [sqrtP, if_pos h, if_neg (by rw [h1]; decide), if_pos h2]
theorem sqrtP_3 {a : K2 n} {s : Fin n × Bool} {t v : K2 n × Bool} (hs : s = fsq (norm a)) (h : s.2 = true) (ht : t = tryP a s.1) (h1 : t.2 = false) (hv : v = tryP a (-s.1)) (h2 : v.2 = false) : sqrtP a = (zero, false) := by
 subst hs
 subst ht
 subst hv
 rw [sqrtP, if_pos h, if_neg (by rw [h1]; decide), if_neg (by rw [h2]; decide)]
theorem isq2_def (a : K2 n) : isq2 a = (sqrtP a).2 := rfl
end Go.Proofs.Ytbpmbdlgmmabcaa.L.Kf.K2
namespace Go.Proofs.Ytbpmbdlgmmabcaa.L
open Go Go.Proofs
set_option maxRecDepth 100000
attribute [local irreducible] Code.wp wpList Af bodyPost L.Go
open Num
attribute [local simp] D_len
abbrev hv : Fq := Kf.K2.hv p
theorem half_lit : ([15924587544893707606, 1105070755758604287, 12941209323636816658, 12843041017062132063, 2706051889235351147, 936899308823769933] : List Nat) = D 6 ((p + 1) / 2 % p) := by decide +kernel
theorem half2_spec : Spec Try.prog 57 [] NoPre [] (IsV (LV .u64 (D 6 hv.val))) := by
 refine mk_spec Try.func57 rfl rfl rfl fun w _ => ?_
 repeat (first|(refine y_25 ?_;intro _)|refine st_buildP (kk := .u64) (vs := [15924587544893707606, 1105070755758604287, 12941209323636816658, 12843041017062132063, 2706051889235351147, 936899308823769933]) (by rfl) (by rfl) (by rfl) (by rfl) (by rfl) (by rfl) (by rfl) (by rfl) ?_|refine Z03 ?_|refine Z04 ?_|refine Z05 ?_|refine Z06 ?_|refine Z07 ?_|refine Z08 ?_|refine Z09 ?_|refine Z10 ?_|refine Z11 ?_|refine Z12 ?_|refine Z13 ?_|refine Z14 ?_|refine Z29 ?_|refine Z30 ?_|refine Z31 ?_|refine Z32 ?_|refine Z65 ?_|refine Z82 fun _ => ?_)
 refine Zec fun _ hw => post_of hw SubW.nil ⟨?_, rfl⟩
 rw [show hv.val = (p + 1) / 2 % p from rfl, ← half_lit]; rfl
theorem zero6F : ([] ++ List.replicate (6 - ([] : List Nat).length) 0 : List Nat) = D 6 (0 : Fq).val := by rw [val_0]; exact zero6
theorem fsqrtF (x : Fq) : Spec Try.prog 55 [LV .u64 (D 6 x.val)] NoPre [] (IsV (.tuple [LV .u64 (D 6 (Kf.K2.fsq x).1.val), .bool (Kf.K2.fsq x).2].toArray)) := by
 have := fsqrt_spec (val_lt x); rwa [kp_val] at this
theorem y_63 {a b : Prop} (k : b) (h : Rm b → a := by intro k;refine st_buildP (kk := .u64) (vs := []) (by rfl) (by rfl) (by rfl) (by rfl) (by rfl) (by rfl) (by rfl) (by rfl) ?_; rw [zero6F];exact k.h) : a := h ⟨k⟩
theorem y_64 {a b : Prop} (k : b) (h : Rm b → a := by intro k;refine st_ldp (by rfl) (by repeat first|apply Find.here|apply Find.there) (by rfl) (by rfl) (by first | (refine PartAt.l ?_; (simp; done)) | (refine PartAt.r ?_ ?_ <;> (simp; done)) | (refine PartAt.all ?_; (simp; done))) (by rfl) ?_;exact k.h) : a := h ⟨k⟩
theorem y_65 {a b : Prop} (k : b) (h : Rm b → a := by intro k;refine st_build20 (by rfl) (by rfl) (by rfl) (by rfl) ?_;exact k.h) : a := h ⟨k⟩
theorem y_66 {a b : Prop} (k : b) (h : Rm b → a := by intro k;refine st_eq2 (by rfl) (by rfl) (by rfl) (by kernel_rfl) (by rfl) (by rfl) (by rfl) (by rfl) (by rfl) (by rfl) (by rfl) (by rfl) (by rfl) (by rfl) (by kernel_rfl) (by simp; done) (by simp; done) (by simp; done) (by simp; done) (by rfl) ?_;exact k.h) : a := h ⟨k⟩
theorem y_67 {a b : Prop} (k : b) (h : Rm b → a := by intro k;(first|refine Z02 ?_|refine Z03 ?_|refine Z04 ?_|refine Z05 ?_|refine Z06 ?_|refine Z07 ?_|refine Z08 ?_|refine Z09 ?_|refine Z10 ?_|refine Z11 ?_|refine Z12 ?_|refine Z13 ?_|refine Z14 ?_|refine Z24 ?_|refine Z25 ?_|refine Z26 ?_|refine Z27 ?_|refine Z28 ?_|refine Z65 ?_|refine Z67 ?_|refine Z77 ?_|refine Z78 ?_|refine Z79 ?_);exact k.h) : a := h ⟨k⟩
theorem ssign_spec {a b : Nat} (ha : a < W ^ 6) (hb : b < W ^ 6) : Spec Try.prog 23 [LV .u64 (D 6 a ++ D 6 b)] NoPre [] (IsV (N .i64 (Kf.K2.sgn (k2 a b)))) := by
 refine mk_spec Try.func23 rfl rfl rfl fun w _ => ?_
 have hl0 := fun x => D_len 6 x
 repeat (first|refine y_63 ?_|refine y_54 ?_|refine y_64 ?_|refine y_65 ?_|refine y_66 ?_|refine y_2 (kred_spec ha) ?_|refine y_67 ?_|refine Z81 fun _ => ?_)
 refine st_cond (by rfl) (fun h => ?_) (fun h => ?_)
 ·rw [D6_iff] at h
  have hs : Kf.K2.sgn (k2 a b) = Kf.sg (kp b) := if_pos h
  repeat (first|refine y_54 ?_|refine y_64 ?_|refine y_65 ?_|refine y_66 ?_|refine y_2 (fsign_spec hb) ?_|refine y_67 ?_|refine Z81 fun _ => ?_)
  refine Ze1 fun _ hw => post_of hw SubW.nil ⟨?_, rfl⟩
  rw [hs]
 ·rw [D6_iff] at h
  have hs : Kf.K2.sgn (k2 a b) = Kf.sg (kp a) := if_neg h
  repeat (first|refine y_54 ?_|refine y_64 ?_|refine y_65 ?_|refine y_66 ?_|refine y_2 (fsign_spec ha) ?_|refine y_67 ?_|refine Z81 fun _ => ?_)
  refine Ze1 fun _ hw => post_of hw SubW.nil ⟨?_, rfl⟩
  rw [hs]
theorem ssignE (x : F2) : Spec Try.prog 23 [LV .u64 (E2 x)] NoPre [] (IsV (N .i64 (Kf.K2.sgn x))) := by
 have := ssign_spec (val_lt x.re) (val_lt x.im); rwa [k2_val] at this
theorem E2_congr {x y : F2} (h : x = y) : E2 x = E2 y := by rw [h]
theorem E2_mk {a b : Fq} {o : F2} (ho : o = ⟨a, b⟩) : D 6 a.val ++ D 6 b.val = E2 o := by rw [ho]
end Go.Proofs.Ytbpmbdlgmmabcaa.L
namespace Go.Proofs.Ytbpmbdlgmmabcaa.L
open Go Go.Proofs
set_option maxRecDepth 100000
attribute [local irreducible] Code.wp wpList Af bodyPost L.Go
open Num
attribute [local simp] D_len
theorem y_68 {S1 a b : Prop} (s1 : S1) (k : b) (h : S1 → Rm b → a := by intro s1 k;refine st_ldo (by rfl) s1 (by rfl) (by rfl) (by first | (refine PartAt.l ?_; (simp; done)) | (refine PartAt.r ?_ ?_ <;> (simp; done)) | (refine PartAt.all ?_; (simp; done))) (by rfl) ?_;exact k.h) : a := h s1 ⟨k⟩
theorem y_69 {a b : Prop} (k : b) (h : Rm b → a := by intro k;(first|refine Z01 ?_|refine Z02 ?_|refine Z03 ?_|refine Z04 ?_|refine Z05 ?_|refine Z06 ?_|refine Z07 ?_|refine Z08 ?_|refine Z09 ?_|refine Z10 ?_|refine Z11 ?_|refine Z12 ?_|refine Z13 ?_|refine Z14 ?_|refine Z17 ?_|refine Z18 ?_|refine Z19 ?_|refine Z24 ?_|refine Z25 ?_|refine Z26 ?_|refine Z27 ?_|refine Z28 ?_|refine Z29 ?_|refine Z30 ?_|refine Z31 ?_|refine Z32 ?_|refine Z49 ?_|refine Z50 ?_|refine Z51 ?_|refine Z52 ?_|refine Z53 ?_|refine Z65 ?_|refine Z67 ?_|refine Z77 ?_|refine Z78 ?_|refine Z79 ?_);exact k.h) : a := h ⟨k⟩
theorem y_70 {a b : Prop} (k : b) (h : Rm b → a := by intro k;(first|refine Z01 ?_|refine Z02 ?_|refine Z17 ?_|refine Z18 ?_|refine Z19 ?_|refine Z49 ?_|refine Z50 ?_|refine Z65 ?_|refine Z77 ?_|refine Z78 ?_|refine Z79 ?_);exact k.h) : a := h ⟨k⟩
theorem y_150 {a b : Prop} (k : b) (h : Rm b → a := by intro k;(first|refine y_54 ?_|refine y_64 ?_|refine y_55 ?_|refine y_65 ?_|refine y_66 ?_);exact k.h) : a := h ⟨k⟩
theorem y_151 {a b : Prop} (k : b) (h : Rm b → a := by intro k;(first|refine y_54 ?_|refine y_55 ?_|refine y_65 ?_|refine y_66 ?_|refine Z01 ?_|refine Z02 ?_|refine Z17 ?_|refine Z18 ?_|refine Z19 ?_|refine Z49 ?_|refine Z50 ?_|refine Z65 ?_|refine Z77 ?_|refine Z78 ?_|refine Z79 ?_);exact k.h) : a := h ⟨k⟩
theorem y_152 {a b : Prop} (k : b) (h : Rm b → a := by intro k;(first|refine y_54 ?_|refine y_55 ?_|refine y_65 ?_|refine y_66 ?_);exact k.h) : a := h ⟨k⟩
theorem y_179 {a b : Prop} (k : b) (h : Rm b → a := by intro k;refine Zqf (by intro _ _ _;(first|refine y_151 ?_);exact Zq) ?_;exact k.h) : a := h ⟨k⟩
theorem y_188 {a b : Prop} (k : b) (h : Rm b → a := by intro k;(first|refine y_179 ?_|refine y_56 ?_|refine y_141 ?_|refine y_131 ?_|refine Zqn ?_);exact k.h) : a := h ⟨k⟩
set_option maxHeartbeats 4000000 in
theorem try_spec (u : Nat) (x : F2) (m : Fq) : Spec Try.prog 56 [LV .u64 (D 6 m.val), pt u 0] (fun w => HasB w u (LV .u64 (E2 x)) 26) [] (IsV (.tuple [LV .u64 (E2 (Kf.K2.tryP x m).1), .bool (Kf.K2.tryP x m).2].toArray)) := by
 refine mk_spec Try.func56 rfl rfl rfl fun w hr => ?_
 have h1 := OldB.mk0 hr
 have hl0 := fun x => D_len 6 x
 repeat (first|(refine y_52 ?_;intro _)|(refine y_25 ?_;intro _)|refine y_68 h1 ?_|refine y_150 ?_|refine y_2 (fadd_spec' x.re m) ?_|refine st_callV (by rfl) (by rfl) (by rfl) (half2_spec) (fun _ _ => trivial) (by rfl) ?_|refine y_2 (fmul_spec' (x.re + m) hv) ?_|refine y_2 (fsqrtF ((x.re + m) * hv)) ?_|refine y_69 ?_|refine Z81 fun _ => ?_|refine Z82 fun _ => ?_)
 obtain ⟨s, hs⟩ : ∃ s, s = Kf.K2.fsq ((x.re + m) * hv) := ⟨_, rfl⟩
 rw [← hs]
 refine R.st_perm [0, 1, 2, 3, 4, 5, 6, 7, 8] (by rfl) ?_
 repeat (first|(refine R.Zpf (by rfl) (by intro _ _ _;(first|(refine st_ldo (by rfl) ((h1).shift (by assumption)) (by rfl) (by rfl) (by first | (refine PartAt.l ?_; (simp; done)) | (refine PartAt.r ?_ ?_ <;> (simp; done)) | (refine PartAt.all ?_; (simp; done))) (by rfl) ?_)|refine y_151 ?_);exact Zq) ?_)|refine y_148 ?_|refine y_58 ?_|(refine R.Zpp (by rfl) (by intro _ _ _;refine st_callV (by rfl) (by rfl) (by rfl) (half2_spec) (fun _ _ => trivial) (by rfl) ?_;exact Zq) ?_)|refine y_59 (fmul_spec' x.im hv) ?_|refine y_59 (finv_spec' s.1) ?_|refine y_59 (fmul_spec' (x.im * hv) (Kf.inv s.1)) ?_|refine y_145 ?_|(refine y_49 ?_;intro _)|(refine y_50 ?_;intro _)|refine R.Zpo (by rfl) ?_)
 refine R.Zp0 ?_
 repeat (first|refine y_63 ?_|refine Z01 ?_|refine Z02 ?_|refine Z03 ?_|refine Z04 ?_|refine Z05 ?_|refine Z06 ?_|refine Z07 ?_|refine Z08 ?_|refine Z09 ?_|refine Z10 ?_|refine Z11 ?_|refine Z12 ?_|refine Z13 ?_|refine Z14 ?_|refine Z17 ?_|refine Z18 ?_|refine Z19 ?_|refine Z24 ?_|refine Z25 ?_|refine Z26 ?_|refine Z27 ?_|refine Z28 ?_|refine Z29 ?_|refine Z30 ?_|refine Z31 ?_|refine Z32 ?_|refine Z49 ?_|refine Z50 ?_|refine Z51 ?_|refine Z52 ?_|refine Z53 ?_|refine Z65 ?_|refine Z67 ?_|refine Z77 ?_|refine Z78 ?_|refine Z79 ?_|refine Z81 fun _ => ?_|refine Z82 fun _ => ?_)
 refine st_cond (by rfl) (fun h => ?_) (fun h => ?_)
 ·rw [D6_iff] at h
  obtain ⟨o, ho⟩ : ∃ o : F2, o = ⟨s.1, (Kf.K2.fsq (-x.re)).1⟩ := ⟨_, rfl⟩
  have hv0 := E2_mk ho
  have hT := Kf.K2.tryP_0 hs h ho
  have hsg := ssignE o
  obtain ⟨g, hg⟩ : ∃ g, g = Kf.K2.sgn o := ⟨_, rfl⟩
  rw [← hg] at hsg
  have hlo := E2_len o
  have hln := E2_len (Kf.K2.neg o)
  have hle := E2_len (Kf.K2.evn2 o)
  clear hs ho
  repeat (first|(refine st_build2 (by rfl) (by rfl) (by rfl) (by rfl) (by simp; done) (by simp; done) (by rfl) ?_; rw [hv0])|refine y_150 ?_|(refine y_52 ?_;intro _)|(refine y_25 ?_;intro _)|refine y_2 hsg ?_|refine y_2 (fneg_spec' x.re) ?_|refine y_2 (fsqrtF (-x.re)) ?_|refine y_68 h1 ?_|refine y_69 ?_|refine Z81 fun _ => ?_|refine Z82 fun _ => ?_)
  refine st_cond (by rfl) (fun hc => ?_) (fun hc => ?_)
  ·have he := Kf.K2.evn2_1 hg hc
   repeat (first|refine y_2 (snegE o) ?_|refine y_69 ?_|refine Z81 fun _ => ?_|refine Z82 fun _ => ?_)
   rw [← he]
   cases hB : (Kf.K2.fsq (-x.re)).2 with
   | false =>
    rw [hB] at hT
    rw [hT]
    repeat (first|refine y_69 ?_|refine Z81 fun _ => ?_|refine Z82 fun _ => ?_)
    refine st_draw1 (by rfl) ?_
    repeat (first|refine y_188 ?_)
    refine Zq0 ?_ (by kernel_rfl)
    repeat (first|refine y_69 ?_|refine Z81 fun _ => ?_|refine Z82 fun _ => ?_)
    refine st_endc2_LV (by rfl) (by rfl) (by rfl) (by repeat first|apply Find.here|apply Find.there) (by rfl) (by rfl) (by first | with_reducible assumption | (simp [*]; done)) fun _ hw => post_of hw SubW.nil ⟨?_, rfl⟩
    rfl
   | true =>
    rw [hB] at hT
    rw [hT]
    have hE2 := E2_iff (Kf.K2.mul (Kf.K2.evn2 o) (Kf.K2.evn2 o)) x
    repeat (first|refine y_69 ?_|refine Z81 fun _ => ?_|refine Z82 fun _ => ?_)
    refine st_draw1 (by rfl) ?_
    repeat (first|(refine Zqf (by intro _ _ _;(first|refine y_152 ?_|(refine st_ldo (by rfl) ((h1).shift (by assumption)) (by rfl) (by rfl) (by first | (refine PartAt.l ?_; (simp; done)) | (refine PartAt.r ?_ ?_ <;> (simp; done)) | (refine PartAt.all ?_; (simp; done))) (by rfl) ?_)|refine y_70 ?_);exact Zq) ?_)|refine y_56 ?_|refine y_31 (smulE (Kf.K2.evn2 o) (Kf.K2.evn2 o)) ?_|refine y_176 ?_)
    refine Zq0 ?_ (by kernel_rfl)
    rw [hE2]
    repeat (first|refine y_69 ?_|refine Z81 fun _ => ?_|refine Z82 fun _ => ?_)
    refine st_endc2_LV (by rfl) (by rfl) (by rfl) (by repeat first|apply Find.here|apply Find.there) (by rfl) (by rfl) (by first | with_reducible assumption | (simp [*]; done)) fun _ hw => post_of hw SubW.nil ⟨?_, rfl⟩
    rfl
  ·have he := (Kf.K2.evn2_0 hg hc).symm
   repeat (first|refine y_69 ?_|refine Z81 fun _ => ?_|refine Z82 fun _ => ?_)
   have hE0 := E2_congr he
   rw [hE0]
   cases hB : (Kf.K2.fsq (-x.re)).2 with
   | false =>
    rw [hB] at hT
    rw [hT]
    repeat (first|refine y_69 ?_|refine Z81 fun _ => ?_|refine Z82 fun _ => ?_)
    refine st_draw1 (by rfl) ?_
    repeat (first|refine y_188 ?_)
    refine Zq0 ?_ (by kernel_rfl)
    repeat (first|refine y_69 ?_|refine Z81 fun _ => ?_|refine Z82 fun _ => ?_)
    refine st_endc2_LV (by rfl) (by rfl) (by rfl) (by repeat first|apply Find.here|apply Find.there) (by rfl) (by rfl) (by first | with_reducible assumption | (simp [*]; done)) fun _ hw => post_of hw SubW.nil ⟨?_, rfl⟩
    rfl
   | true =>
    rw [hB] at hT
    rw [hT]
    have hE2 := E2_iff (Kf.K2.mul (Kf.K2.evn2 o) (Kf.K2.evn2 o)) x
    repeat (first|refine y_69 ?_|refine Z81 fun _ => ?_|refine Z82 fun _ => ?_)
    refine st_draw1 (by rfl) ?_
    repeat (first|(refine Zqf (by intro _ _ _;(first|refine y_152 ?_|(refine st_ldo (by rfl) ((h1).shift (by assumption)) (by rfl) (by rfl) (by first | (refine PartAt.l ?_; (simp; done)) | (refine PartAt.r ?_ ?_ <;> (simp; done)) | (refine PartAt.all ?_; (simp; done))) (by rfl) ?_)|refine y_70 ?_);exact Zq) ?_)|refine y_56 ?_|refine y_31 (smulE (Kf.K2.evn2 o) (Kf.K2.evn2 o)) ?_|refine y_176 ?_)
    refine Zq0 ?_ (by kernel_rfl)
    rw [hE2]
    repeat (first|refine y_69 ?_|refine Z81 fun _ => ?_|refine Z82 fun _ => ?_)
    refine st_endc2_LV (by rfl) (by rfl) (by rfl) (by repeat first|apply Find.here|apply Find.there) (by rfl) (by rfl) (by first | with_reducible assumption | (simp [*]; done)) fun _ hw => post_of hw SubW.nil ⟨?_, rfl⟩
    rfl
 ·rw [D6_iff] at h
  obtain ⟨o, ho⟩ : ∃ o : F2, o = ⟨s.1, x.im * hv * Kf.inv s.1⟩ := ⟨_, rfl⟩
  have hv0 := E2_mk ho
  have hT := Kf.K2.tryP_1 hs h ho
  have hsg := ssignE o
  obtain ⟨g, hg⟩ : ∃ g, g = Kf.K2.sgn o := ⟨_, rfl⟩
  rw [← hg] at hsg
  have hlo := E2_len o
  have hln := E2_len (Kf.K2.neg o)
  have hle := E2_len (Kf.K2.evn2 o)
  clear hs ho
  repeat (first|(refine st_build2 (by rfl) (by rfl) (by rfl) (by rfl) (by simp; done) (by simp; done) (by rfl) ?_; rw [hv0])|refine y_150 ?_|(refine y_52 ?_;intro _)|(refine y_25 ?_;intro _)|refine y_2 hsg ?_|(skip; fail)|refine y_69 ?_|refine Z81 fun _ => ?_|refine Z82 fun _ => ?_)
  refine st_cond (by rfl) (fun hc => ?_) (fun hc => ?_)
  ·have he := Kf.K2.evn2_1 hg hc
   repeat (first|refine y_2 (snegE o) ?_|refine y_69 ?_|refine Z81 fun _ => ?_|refine Z82 fun _ => ?_)
   rw [← he]
   cases hB : s.2 with
   | false =>
    rw [hB] at hT
    rw [hT]
    repeat (first|refine y_69 ?_|refine Z81 fun _ => ?_|refine Z82 fun _ => ?_)
    refine st_draw1 (by rfl) ?_
    repeat (first|refine y_188 ?_)
    refine Zq0 ?_ (by kernel_rfl)
    repeat (first|refine y_69 ?_|refine Z81 fun _ => ?_|refine Z82 fun _ => ?_)
    refine st_endc2_LV (by rfl) (by rfl) (by rfl) (by repeat first|apply Find.here|apply Find.there) (by rfl) (by rfl) (by first | with_reducible assumption | (simp [*]; done)) fun _ hw => post_of hw SubW.nil ⟨?_, rfl⟩
    rfl
   | true =>
    rw [hB] at hT
    rw [hT]
    have hE2 := E2_iff (Kf.K2.mul (Kf.K2.evn2 o) (Kf.K2.evn2 o)) x
    repeat (first|refine y_69 ?_|refine Z81 fun _ => ?_|refine Z82 fun _ => ?_)
    refine st_draw1 (by rfl) ?_
    repeat (first|(refine Zqf (by intro _ _ _;(first|refine y_152 ?_|(refine st_ldo (by rfl) ((h1).shift (by assumption)) (by rfl) (by rfl) (by first | (refine PartAt.l ?_; (simp; done)) | (refine PartAt.r ?_ ?_ <;> (simp; done)) | (refine PartAt.all ?_; (simp; done))) (by rfl) ?_)|refine y_70 ?_);exact Zq) ?_)|refine y_56 ?_|refine y_31 (smulE (Kf.K2.evn2 o) (Kf.K2.evn2 o)) ?_|refine y_176 ?_)
    refine Zq0 ?_ (by kernel_rfl)
    rw [hE2]
    repeat (first|refine y_69 ?_|refine Z81 fun _ => ?_|refine Z82 fun _ => ?_)
    refine st_endc2_LV (by rfl) (by rfl) (by rfl) (by repeat first|apply Find.here|apply Find.there) (by rfl) (by rfl) (by first | with_reducible assumption | (simp [*]; done)) fun _ hw => post_of hw SubW.nil ⟨?_, rfl⟩
    rfl
  ·have he := (Kf.K2.evn2_0 hg hc).symm
   repeat (first|refine y_69 ?_|refine Z81 fun _ => ?_|refine Z82 fun _ => ?_)
   have hE0 := E2_congr he
   rw [hE0]
   cases hB : s.2 with
   | false =>
    rw [hB] at hT
    rw [hT]
    repeat (first|refine y_69 ?_|refine Z81 fun _ => ?_|refine Z82 fun _ => ?_)
    refine st_draw1 (by rfl) ?_
    repeat (first|refine y_188 ?_)
    refine Zq0 ?_ (by kernel_rfl)
    repeat (first|refine y_69 ?_|refine Z81 fun _ => ?_|refine Z82 fun _ => ?_)
    refine st_endc2_LV (by rfl) (by rfl) (by rfl) (by repeat first|apply Find.here|apply Find.there) (by rfl) (by rfl) (by first | with_reducible assumption | (simp [*]; done)) fun _ hw => post_of hw SubW.nil ⟨?_, rfl⟩
    rfl
   | true =>
    rw [hB] at hT
    rw [hT]
    have hE2 := E2_iff (Kf.K2.mul (Kf.K2.evn2 o) (Kf.K2.evn2 o)) x
    repeat (first|refine y_69 ?_|refine Z81 fun _ => ?_|refine Z82 fun _ => ?_)
    refine st_draw1 (by rfl) ?_
    repeat (first|(refine Zqf (by intro _ _ _;(first|refine y_152 ?_|(refine st_ldo (by rfl) ((h1).shift (by assumption)) (by rfl) (by rfl) (by first | (refine PartAt.l ?_; (simp; done)) | (refine PartAt.r ?_ ?_ <;> (simp; done)) | (refine PartAt.all ?_; (simp; done))) (by rfl) ?_)|refine y_70 ?_);exact Zq) ?_)|refine y_56 ?_|refine y_31 (smulE (Kf.K2.evn2 o) (Kf.K2.evn2 o)) ?_|refine y_176 ?_)
    refine Zq0 ?_ (by kernel_rfl)
    rw [hE2]
    repeat (first|refine y_69 ?_|refine Z81 fun _ => ?_|refine Z82 fun _ => ?_)
    refine st_endc2_LV (by rfl) (by rfl) (by rfl) (by repeat first|apply Find.here|apply Find.there) (by rfl) (by rfl) (by first | with_reducible assumption | (simp [*]; done)) fun _ hw => post_of hw SubW.nil ⟨?_, rfl⟩
    rfl
end Go.Proofs.Ytbpmbdlgmmabcaa.L
namespace Go.Proofs.Ytbpmbdlgmmabcaa.L
open Go Go.Proofs
set_option maxRecDepth 100000
attribute [local irreducible] Code.wp wpList Af bodyPost L.Go
open Num
attribute [local simp] D_len
theorem zero12 : (List.replicate 12 0 : List Nat) = E2 (Kf.K2.zero : F2) := by decide +kernel
theorem y_71 {a b : Prop} (k : b) (h : Rm b → a := by intro k;(first|refine Z01 ?_|refine Z02 ?_|refine Z03 ?_|refine Z04 ?_|refine Z05 ?_|refine Z06 ?_|refine Z07 ?_|refine Z08 ?_|refine Z09 ?_|refine Z10 ?_|refine Z11 ?_|refine Z12 ?_|refine Z13 ?_|refine Z14 ?_|refine Z19 ?_|refine Z24 ?_|refine Z25 ?_|refine Z26 ?_|refine Z27 ?_|refine Z28 ?_|refine Z29 ?_|refine Z30 ?_|refine Z31 ?_|refine Z32 ?_|refine Z48 ?_|refine Z54 ?_|refine Z65 ?_|refine Z67 ?_);exact k.h) : a := h ⟨k⟩
theorem y_72 {a b : Prop} (k : b) (h : Rm b → a := by intro k;refine st_build20 (k := .u64) (z := List.replicate 12 0) (by rfl) (by rfl) (by rfl) (by rfl) ?_; rw [zero12];exact k.h) : a := h ⟨k⟩
theorem y_73 {S1 a b : Prop} (s1 : S1) (k : b) (h : S1 → Rm b → a := by intro s1 k;refine st_callV (by rfl) (by rfl) (by rfl) s1 (HasB.own (by repeat first|apply Find.here|apply Find.there)) (by rfl) ?_;exact k.h) : a := h s1 ⟨k⟩
theorem y_153 {a b : Prop} (k : b) (h : Rm b → a := by intro k;(first|refine y_72 ?_|refine Z01 ?_|refine Z02 ?_|refine Z03 ?_|refine Z04 ?_|refine Z05 ?_|refine Z06 ?_|refine Z07 ?_|refine Z08 ?_|refine Z09 ?_|refine Z10 ?_|refine Z11 ?_|refine Z12 ?_|refine Z13 ?_|refine Z14 ?_|refine Z19 ?_|refine Z24 ?_|refine Z25 ?_|refine Z26 ?_|refine Z27 ?_|refine Z28 ?_|refine Z29 ?_|refine Z30 ?_|refine Z31 ?_|refine Z32 ?_|refine Z48 ?_|refine Z54 ?_|refine Z65 ?_|refine Z67 ?_);exact k.h) : a := h ⟨k⟩
set_option maxHeartbeats 4000000 in
theorem sqrt_spec {a b : Nat} (ha : a < W ^ 6) (hb : b < W ^ 6) : Spec Try.prog 19 [LV .u64 (D 6 a ++ D 6 b)] NoPre [] (IsV (.tuple [LV .u64 (E2 (Kf.K2.sqrtP (k2 a b)).1), .bool (Kf.K2.sqrtP (k2 a b)).2].toArray)) := by
 refine mk_spec Try.func19 rfl rfl rfl fun w _ => ?_
 have hl0 := fun x => D_len 6 x
 have hlz := E2_len (Kf.K2.zero : F2)
 have hred := sred_spec ha hb
 obtain ⟨x, hx⟩ : ∃ x : F2, x = k2 a b := ⟨_, rfl⟩
 rw [← hx] at hred ⊢
 clear hx
 have hlx := E2_len x
 have hadd : Spec Try.prog 24 [LV .u64 (D 6 (x.re * x.re).val), LV .u64 (D 6 (x.im * x.im).val)] NoPre [] (IsV (LV .u64 (D 6 (Kf.K2.norm x).val))) := fadd_spec' (x.re * x.re) (x.im * x.im)
 have hfs := fsqrtF (Kf.K2.norm x)
 obtain ⟨s, hs⟩ : ∃ s, s = Kf.K2.fsq (Kf.K2.norm x) := ⟨_, rfl⟩
 rw [← hs] at hfs
 obtain ⟨t, ht⟩ : ∃ t, t = Kf.K2.tryP x s.1 := ⟨_, rfl⟩
 have htry := fun u => try_spec u x s.1
 rw [← ht] at htry
 obtain ⟨v, hv⟩ : ∃ v, v = Kf.K2.tryP x (-s.1) := ⟨_, rfl⟩
 have htry2 := fun u => try_spec u x (-s.1)
 rw [← hv] at htry2
 have hneg := fneg_spec' s.1
 have hP0 := Kf.K2.sqrtP_0 hs
 have hP1 := Kf.K2.sqrtP_1 hs (t := t)
 have hP2 := Kf.K2.sqrtP_2 hs (t := t) (v := v)
 have hP3 := Kf.K2.sqrtP_3 hs (t := t) (v := v)
 obtain ⟨s1, s2⟩ := s
 obtain ⟨t1, t2⟩ := t
 obtain ⟨v1, v2⟩ := v
 have hlt := E2_len t1
 have hlv := E2_len v1
 simp only at *
 repeat (first|(refine y_52 ?_;intro _)|refine y_2 hred ?_|(refine y_25 ?_;intro _)|refine y_71 ?_|refine Z81 fun _ => ?_|refine Z82 fun _ => ?_)
 refine R.st_perm [0, 1, 2, 3, 4, 5, 6, 7, 8, 9, 10, 11, 12, 13, 14, 15, 16, 17] (by rfl) ?_
 repeat (first|(refine R.Zpf (by rfl) (by intro _ _ _;(first|refine y_54 ?_|refine y_65 ?_|refine Z01 ?_|refine Z02 ?_|refine Z19 ?_|refine Z48 ?_|refine Z54 ?_|refine Z65 ?_);exact Zq) ?_)|refine y_148 ?_|refine y_58 ?_|refine y_59 (fmul_spec' x.re x.re) ?_|refine y_59 (fmul_spec' x.im x.im) ?_|refine y_59 hadd ?_|refine y_59 hfs ?_|refine y_145 ?_|(refine y_49 ?_;intro _)|(refine y_50 ?_;intro _)|refine R.Zpo (by rfl) ?_)
 refine R.Zp0 ?_
 clear hfs hadd hred
 cases s2 with
 | false =>
  rw [hP0 rfl]
  repeat (first|refine y_153 ?_|refine Z81 fun _ => ?_|refine Z82 fun _ => ?_)
  refine st_endc2_LV (by rfl) (by rfl) (by rfl) (by repeat first|apply Find.here|apply Find.there) (by rfl) (by rfl) (by first | with_reducible assumption | (simp [*]; done)) fun _ hw => post_of hw SubW.nil ⟨?_, rfl⟩
  rfl
 | true =>
  cases t2 with
  | true =>
   rw [hP1 rfl ht rfl]
   clear hP0 hP1 hP2 hP3 hs ht hv
   repeat (first|(refine y_52 ?_;intro _)|refine y_73 (htry _) ?_|refine y_71 ?_|refine Z81 fun _ => ?_|refine Z82 fun _ => ?_)
   refine st_endc2_LV (by rfl) (by rfl) (by rfl) (by repeat first|apply Find.here|apply Find.there) (by rfl) (by rfl) (by first | with_reducible assumption | (simp [*]; done)) fun _ hw => post_of hw SubW.nil ⟨?_, rfl⟩
   rfl
  | false =>
   cases v2 with
   | true =>
    rw [hP2 rfl ht rfl hv rfl]
    clear hP0 hP1 hP2 hP3 hs ht hv
    repeat (first|(refine y_52 ?_;intro _)|refine y_73 (htry _) ?_|refine y_2 hneg ?_|refine y_73 (htry2 _) ?_|refine y_71 ?_|refine Z81 fun _ => ?_|refine Z82 fun _ => ?_)
    refine st_endc2_LV (by rfl) (by rfl) (by rfl) (by repeat first|apply Find.here|apply Find.there) (by rfl) (by rfl) (by first | with_reducible assumption | (simp [*]; done)) fun _ hw => post_of hw SubW.nil ⟨?_, rfl⟩
    rfl
   | false =>
    rw [hP3 rfl ht rfl hv rfl]
    clear hP0 hP1 hP2 hP3 hs ht hv
    repeat (first|(refine y_52 ?_;intro _)|refine y_73 (htry _) ?_|refine y_2 hneg ?_|refine y_73 (htry2 _) ?_|refine y_153 ?_|refine Z81 fun _ => ?_|refine Z82 fun _ => ?_)
    refine st_endc2_LV (by rfl) (by rfl) (by rfl) (by repeat first|apply Find.here|apply Find.there) (by rfl) (by rfl) (by first | with_reducible assumption | (simp [*]; done)) fun _ hw => post_of hw SubW.nil ⟨?_, rfl⟩
    rfl
theorem sqrtE (x : F2) : Spec Try.prog 19 [LV .u64 (E2 x)] NoPre [] (IsV (.tuple [LV .u64 (E2 (Kf.K2.sqrtP x).1), .bool (Kf.K2.sqrtP x).2].toArray)) := by
 have := sqrt_spec (val_lt x.re) (val_lt x.im); rwa [k2_val] at this
end Go.Proofs.Ytbpmbdlgmmabcaa.L
namespace Go.Proofs.Ytbpmbdlgmmabcaa.L
open Go Go.Proofs
set_option maxRecDepth 100000
attribute [local irreducible] Code.wp wpList Af bodyPost L.Go
open Num
attribute [local simp] D_len
theorem arr12 {y : List Nat} (n : y.length = 12) (h : Lt 18446744073709551616 y) : ∃ a b, a < W ^ 6 ∧ b < W ^ 6 ∧ y = D 6 a ++ D 6 b := by
 have h1 : (y.take 6).length = 6 := by rw [List.length_take]; omega
 have h2 : (y.drop 6).length = 6 := by rw [List.length_drop]; omega
 have l1 : Lt 18446744073709551616 (y.take 6) := fun x hx => h x (List.mem_of_mem_take hx)
 have l2 : Lt 18446744073709551616 (y.drop 6) := fun x hx => h x (List.mem_of_mem_drop hx)
 have b1 := V_lt l1
 have b2 := V_lt l2
 rw [h1] at b1
 rw [h2] at b2
 refine ⟨V (y.take 6), V (y.drop 6), b1, b2, ?_⟩
 have e1 := D_V l1
 have e2 := D_V l2
 rw [h1] at e1
 rw [h2] at e2
 rw [e1, e2, List.take_append_drop]
theorem E2_same (x : F2) : (decide (D 6 x.re.val = D 6 x.re.val) && decide (D 6 x.im.val = D 6 x.im.val)) = true := by rw [E2_iff]; exact decide_eq_true rfl
theorem E2_diff {x y : F2} (h : ¬ x = y) : (decide (D 6 x.re.val = D 6 y.re.val) && decide (D 6 x.im.val = D 6 y.im.val)) = false := by rw [E2_iff]; exact decide_eq_false h
theorem two6 : ([2] ++ List.replicate (6 - [2].length) 0 : List Nat) = D 6 2 := by decide +kernel
end Go.Proofs.Ytbpmbdlgmmabcaa.L
namespace Go.Proofs.Ytbpmbdlgmmabcaa.L
open Go Go.Proofs
set_option maxRecDepth 100000
attribute [local irreducible] Code.wp wpList Af bodyPost L.Go
open Num
attribute [local simp] D_len
theorem y_74 {a b : Prop} (k : b) (h : Rm b → a := by intro k;(first|refine Z01 ?_|refine Z02 ?_|refine Z03 ?_|refine Z04 ?_|refine Z05 ?_|refine Z06 ?_|refine Z07 ?_|refine Z08 ?_|refine Z09 ?_|refine Z10 ?_|refine Z11 ?_|refine Z12 ?_|refine Z13 ?_|refine Z14 ?_|refine Z15 ?_|refine Z16 ?_|refine Z17 ?_|refine Z18 ?_|refine Z19 ?_|refine Z20 ?_|refine Z21 ?_|refine Z22 ?_|refine Z23 ?_|refine Z24 ?_|refine Z25 ?_|refine Z26 ?_|refine Z27 ?_|refine Z28 ?_|refine Z29 ?_|refine Z30 ?_|refine Z31 ?_|refine Z32 ?_|refine Z33 ?_|refine Z58 ?_|refine Z59 ?_|refine Z60 ?_|refine Z67 ?_|refine Z70 ?_|refine Z71 ?_);exact k.h) : a := h ⟨k⟩
set_option maxHeartbeats 4000000 in
theorem take_spec (sl sm : Value) (T : TypeId) (ls0 ms : List Nat) (L n M : Nat) (hls0 : Lt 18446744073709551616 ls0) (hL0 : ls0.length = L) (hm : Lt 18446744073709551616 ms) (hml : ms.length = n) (hn : 0 < n) (hnL : n < L) (hLb : L < 16777216) (hmv' : V ms = M)
  (htop : ms.getD (n - 1) 0 ≠ 0) (hX0W : V ls0 < Num.W * M) :
  Spec Try.prog 139 [sl, sm, N .i64 n] (fun w => RdC ⟨w, fps [.sl sl (ls0.map (N .u64)) T]⟩ sm (ms.map (N .u64))) [.sl sl (ls0.map (N .u64)) T]
   (fun _ Wr => Wr = [.sl sl ((D L (V ls0 % M)).map (N .u64)) T]) := by
 refine mk_spec Try.func139 rfl rfl rfl fun w hrm => ?_
 have hMlo : Num.W ^ (n - 1) ≤ M := by rw [← hmv']; exact ge_top hm htop
 have hMp : 0 < M := Nat.lt_of_lt_of_le (W_pow_pos _) hMlo
 have hMhi : M < Num.W ^ n := by rw [← hmv', ← hml]; exact V_lt hm
 repeat (first|refine st_scope0 ?_|refine st_label ?_|refine Z01 ?_|refine Z02 ?_|refine Z03 ?_|refine Z04 ?_|refine Z05 ?_|refine Z06 ?_|refine Z07 ?_|refine Z08 ?_|refine Z09 ?_|refine Z10 ?_|refine Z11 ?_|refine Z12 ?_|refine Z13 ?_|refine Z14 ?_|refine Z15 ?_|refine Z16 ?_|refine Z17 ?_|refine Z18 ?_|refine Z19 ?_|refine Z20 ?_|refine Z21 ?_|refine Z22 ?_|refine Z23 ?_|refine Z24 ?_|refine Z25 ?_|refine Z26 ?_|refine Z27 ?_|refine Z28 ?_|refine Z29 ?_|refine Z30 ?_|refine Z31 ?_|refine Z32 ?_|refine Z33 ?_|refine Z58 ?_|refine Z59 ?_|refine Z60 ?_|refine Z67 ?_|refine Z70 ?_|refine Z71 ?_)
 refine st_loop (ι := List Nat) (fun ls => ls.length = L ∧ Lt 18446744073709551616 ls ∧ V ls % M = V ls0 % M ∧ V ls < Num.W * M) (fun ls => [(0, sl), (1, sm), (2, N .i64 n)]) (fun ls => [.sl sl (ls.map (N .u64)) T]) (fun ls => V ls) ls0 ⟨hL0, hls0, rfl, hX0W⟩ (by repeat (first|apply subL.nil|refine subL.cons (by rfl) ?_)) (by repeat (first|apply SubW.nil|refine y_6 ?_)) ?_
 rintro ls ⟨hL, hls, hX0, hXW⟩
 obtain ⟨X, hX⟩ : ∃ X, V ls = X := ⟨_, rfl⟩
 rw [hX] at hX0 hXW
 repeat (first|refine st_label ?_|refine st_callV (by rfl) (by rfl) (by rfl) (cmp_spec sl sm ls ms hls hm (by omega) (by omega)) (fun w hw => ⟨RdW.own (by repeat first|apply Find.here|apply Find.there) w hw, RdW.old hrm w hw⟩) (by rfl) ?_|refine y_74 ?_)
 rw [hX, hmv']
 refine st_cond (by rfl) (fun hge => ?_) (fun hlt => ?_)
 ·have hge : M ≤ X := by
   rcases Nat.lt_or_ge X M with h | h
   ·rw [ord3_lt h] at hge; exact absurd hge (by decide)
   ·exact h
  have hone : 1 * M ≤ X := by omega
  have htb := hm.getD (by decide) (n - 1)
  have htl : n - 1 < ms.length := by omega
  have hnl : n < ls.length := by omega
  have hn1 : n - 1 < ls.length := by omega
  have hlb := hls.getD (by decide) n
  have hlb1 := hls.getD (by decide) (n - 1)
  have hlv := V_getD hls n
  have hlv1 := V_getD hls (n - 1)
  have hmt := V_getD hm (n - 1)
  rw [hX] at hlv hlv1
  rw [hmv'] at hmt
  have hMtop : M < (ms.getD (n - 1) 0 + 1) * Num.W ^ (n - 1) := by rw [hmt]; exact top_word (by rw [show n - 1 + 1 = n by omega]; exact hMhi)
  have hB1 : True := trivial
  repeat (first|(refine st_block ?_; clear hB1)|refine st_block_join (ι := Nat) (fun q => q * M ≤ X ∧ q < 18446744073709551616) (fun q => [(0, sl), (1, sm), (2, N .i64 n), (6, N .u64 q)]) (fun _ => [.sl sl (ls.map (N .u64)) T]) ?_ ?_|refine y_74 ?_)
  ·repeat (first|refine y_74 ?_)
   refine st_cond (by rfl) (fun h0 => ?_) (fun h0 => ?_)
   ·repeat (first|refine y_74 ?_)
    exact st_met (ls.getD n 0) ⟨by rw [hlv]; exact Nat.le_trans (Nat.mul_le_mul (Nat.mod_le _ _) (Nat.le_of_lt hMhi)) (Nat.div_mul_le_self _ _), hlb⟩ (by repeat (first|apply subL.nil|refine subL.cons (by rfl) ?_)) (by repeat (first|apply SubW.nil|refine y_6 ?_))
   ·have ht1 : (ms.getD (n - 1) 0 + 1) % 18446744073709551616 = ms.getD (n - 1) 0 + 1 := by omega
    repeat (first|rw [ht1]|refine y_74 ?_)
    refine st_cond (by rfl) (fun h1 => ?_) (fun h1 => ?_)
    ·have hqb := quo_lt h1 hlb1
     have hq2 : (ls.getD n 0 * 18446744073709551616 + ls.getD (n - 1) 0) / (ms.getD (n - 1) 0 + 1) * M ≤ X := by
      refine qM_le_two (n := n - 1) hMtop ?_
      have := two_words X (n - 1)
      rw [show n - 1 + 1 = n by omega, ← hlv, ← hlv1] at this
      exact this
     repeat (first|refine y_74 ?_)
     refine st_draw1 (by rfl) ?_
     repeat (first|(refine Zqf (by intro _ _ _;(first|refine st_callV (by rfl) (by rfl) (by rfl) (div64_spec (ls.getD n 0) (ls.getD (n - 1) 0) (ms.getD (n - 1) 0 + 1) h1 hlb1 (by omega)) (fun _ _ => trivial) (by rfl) ?_|refine Z01 ?_|refine Z02 ?_|refine Z15 ?_|refine Z16 ?_|refine Z17 ?_|refine Z18 ?_|refine Z19 ?_|refine Z20 ?_|refine Z21 ?_|refine Z22 ?_|refine Z23 ?_|refine Z33 ?_|refine Z58 ?_|refine Z59 ?_|refine Z60 ?_|refine Z70 ?_|refine Z71 ?_);exact Zq) ?_)|refine y_135 ?_|refine y_131 ?_|refine Zqn ?_)
     refine Zq0 ?_ (by kernel_rfl)
     repeat (first|refine y_74 ?_)
     exact st_met _ ⟨hq2, hqb⟩ (by repeat (first|apply subL.nil|refine subL.cons (by rfl) ?_)) (by repeat (first|apply SubW.nil|refine y_6 ?_))
    ·repeat (first|refine y_74 ?_)
     exact st_met 0 ⟨by omega, by decide⟩ (by repeat (first|apply subL.nil|refine subL.cons (by rfl) ?_)) (by repeat (first|apply SubW.nil|refine y_6 ?_))
  ·rintro q0 ⟨hq0M, hq0W⟩
   obtain ⟨q, hqd⟩ : ∃ q, q = max q0 1 := ⟨_, rfl⟩
   have hqM : q * M ≤ X := by
    rcases Nat.le_total q0 1 with h | h
    ·rw [hqd, Nat.max_eq_right h]; exact hone
    ·rw [hqd, Nat.max_eq_left h]; exact hq0M
   have hqW : q < 18446744073709551616 := by omega
   have hq1 : 1 ≤ q := by rw [hqd]; exact Nat.le_max_right _ _
   repeat (first|rw [← hqd]|refine y_74 ?_)
   refine st_loop (ι := Nat) (fun i => i ≤ L) (fun i => [(0, sl), (1, sm), (2, N .i64 n), (6, N .u64 q), (8, N .u64 (bw X (q * M) i)), (9, N .i64 i), (10, N .u64 (q * (M % Num.W ^ i) / Num.W ^ i))])
    (fun i => [.sl sl ((D i (sb X (q * M) i) ++ ls.drop i).map (N .u64)) T]) (fun i => L - i) 0 (by omega) (by simp only [Nat.pow_zero, Nat.mod_one, Nat.mul_zero, Nat.zero_div, bw_0]; exact (by repeat (first|apply subL.nil|refine subL.cons (by rfl) ?_))) (by simp only [D_0, List.drop_zero, List.nil_append]; exact (by repeat (first|apply SubW.nil|refine y_6 ?_))) ?_
   intro i hi
   have hll : (D i (sb X (q * M) i) ++ ls.drop i).length = L := by rw [List.length_append, D_len, List.length_drop]; omega
   repeat (first|refine y_74 ?_)
   refine st_cond (by rfl) (fun h => ?_) (fun h => ?_)
   ·rw [hll] at h
    have hmi := hm.getD (by decide) i
    have hmv := V_getD hm i
    have hcl := mulw_lt q M i hqW
    have hc1 := mulw_next q M i
    have hc2 := mulw_word q M i
    have hbl := bw_le X (q * M) i
    have hgw := take_word (q := q) (M := M) hls hL hX h
    have hb1 := mul_bound hqW hmi
    rw [hmv'] at hmv
    rw [← hmv] at hc1 hc2
    have hw1 : (q * ms.getD i 0 % 18446744073709551616 + q * (M % Num.W ^ i) / Num.W ^ i) % 18446744073709551616 = q * M / Num.W ^ i % Num.W := by rw [hc2]; show _ = _ % 18446744073709551616; omega
    have hw2 : (q * ms.getD i 0 / 18446744073709551616 + (q * ms.getD i 0 % 18446744073709551616 + q * (M % Num.W ^ i) / Num.W ^ i) / 18446744073709551616) % 18446744073709551616 = q * (M % Num.W ^ (i + 1)) / Num.W ^ (i + 1) := by
     rw [hc1]
     have : q * (M % Num.W ^ i) / Num.W ^ i < 18446744073709551616 := hcl
     show _ = _ / 18446744073709551616
     generalize q * (M % Num.W ^ i) / Num.W ^ i = c at *
     generalize q * ms.getD i 0 = z at *
     omega
    have hsc := sub_carry X (q * M) i
    repeat (first|refine st_callV (by rfl) (by rfl) (by rfl) (at_spec sm ms i (by omega)) (RdW.old hrm) (by rfl) ?_|refine y_2 (mul64_spec q (ms.getD i 0) hqW hmi) ?_|refine y_34 ?_|rw [hw1]|rw [hw2]|rw [hgw]|refine st_callX (by rfl) (by rfl) (by rfl) (sub64X _ _ _ hbl) (by rfl) ?_|refine y_74 ?_)
    rw [take_set hL h rfl]
    refine st_round (i + 1) (by omega) (by omega) (by rw [hsc]; exact (by repeat (first|apply subL.nil|refine subL.cons (by rfl) ?_))) (by repeat (first|apply SubW.nil|refine y_6 ?_))
   ·rw [hll] at h
    have hie : i = L := by omega
    subst hie
    have hXL : X < Num.W ^ i := by rw [← hX, ← hL]; exact V_lt hls
    have hval : X - q * M < Num.W ^ i := by omega
    rw [take_end hqM hXL, List.drop_eq_nil_of_le (by omega), List.append_nil]
    repeat (first|refine y_74 ?_)
    refine st_round (D i (X - q * M)) ⟨D_len _ _, D_lt _ _, by rw [V_D' hval, mod_sub hqM, hX0], by rw [V_D' hval]; omega⟩ ?_ (by repeat (first|apply subL.nil|refine subL.cons (by rfl) ?_)) (by repeat (first|apply SubW.nil|refine y_6 ?_))
    rw [V_D' hval]
    have : M ≤ q * M := Nat.le_mul_of_pos_left M hq1
    omega
 ·have hlt : X < M := by
   rcases Nat.lt_or_ge X M with h | h
   ·exact h
   ·rcases Nat.eq_or_lt_of_le h with h | h
    ·rw [ord3_eq h.symm] at hlt; exact absurd (by decide) hlt
    ·rw [ord3_gt h] at hlt; exact absurd (by decide) hlt
  have hfin : ls = D L (V ls0 % M) := by
   refine D_of_V hls hL ?_
   rw [hX, ← hX0, Nat.mod_eq_of_lt hlt]
  rw [hfin]
  repeat (first|with_reducible refine st_ng_normal ?_|refine y_74 ?_)
  exact st_end0 rfl fun _ hw => post_of hw (Wout := [.sl sl ((D L (V ls0 % M)).map (N .u64)) T]) (by exact (by repeat (first|apply SubW.nil|refine y_6 ?_))) rfl
end Go.Proofs.Ytbpmbdlgmmabcaa.L
namespace Go.Proofs.Ytbpmbdlgmmabcaa.L
open Go Go.Proofs
set_option maxRecDepth 100000
attribute [local irreducible] Code.wp wpList Af bodyPost L.Go
open Num
attribute [local simp] D_len
theorem take_top {ms : List Nat} {n : Nat} (hn : n ≤ ms.length) (h : ∀ j, n ≤ j → ms.getD j 0 = 0) : V (ms.take n) = V ms := by
 have e : ms = ms.take n ++ List.replicate (ms.length - n) 0 := by
  apply List.ext_getElem?
  intro i
  rcases Nat.lt_or_ge i n with hi | hi
  ·rw [List.getElem?_append_left (by simp; omega), List.getElem?_take, if_pos hi]
  ·rw [List.getElem?_append_right (by simp; omega), List.getElem?_replicate]
   rcases Nat.lt_or_ge i ms.length with hl | hl
   ·have := h i hi
    rw [List.getD_eq_getElem?_getD, List.getElem?_eq_getElem hl] at this
    rw [List.getElem?_eq_getElem hl, if_pos (by simp; omega)]
    simpa using this
   ·rw [List.getElem?_eq_none hl, if_neg (by simp; omega)]
 conv => rhs; rw [e]
 rw [V_append, V_rep0, Nat.mul_zero, Nat.add_zero]
theorem y_75 {a b : Prop} (k : b) (h : Rm b → a := by intro k;(first|refine Z01 ?_|refine Z02 ?_|refine Z03 ?_|refine Z04 ?_|refine Z05 ?_|refine Z06 ?_|refine Z07 ?_|refine Z08 ?_|refine Z09 ?_|refine Z10 ?_|refine Z11 ?_|refine Z12 ?_|refine Z13 ?_|refine Z14 ?_|refine Z15 ?_|refine Z16 ?_|refine Z17 ?_|refine Z18 ?_|refine Z20 ?_|refine Z21 ?_|refine Z22 ?_|refine Z23 ?_|refine Z24 ?_|refine Z25 ?_|refine Z26 ?_|refine Z27 ?_|refine Z28 ?_|refine Z29 ?_|refine Z30 ?_|refine Z31 ?_|refine Z32 ?_|refine Z49 ?_|refine Z50 ?_|refine Z51 ?_|refine Z52 ?_|refine Z53 ?_|refine Z58 ?_|refine Z59 ?_|refine Z62 ?_|refine Z63 ?_|refine Z64 ?_|refine Z67 ?_|refine Z70 ?_|refine Z71 ?_|refine Z75 ?_|refine Z76 ?_);exact k.h) : a := h ⟨k⟩
theorem y_154 {a b : Prop} (k : b) (h : Rm b → a := by intro k;(first|refine y_16 ?_|refine Z01 ?_|refine Z02 ?_|refine Z03 ?_|refine Z04 ?_|refine Z05 ?_|refine Z06 ?_|refine Z07 ?_|refine Z08 ?_|refine Z09 ?_|refine Z10 ?_|refine Z11 ?_|refine Z12 ?_|refine Z13 ?_|refine Z14 ?_|refine Z15 ?_|refine Z16 ?_|refine Z17 ?_|refine Z18 ?_|refine Z20 ?_|refine Z21 ?_|refine Z22 ?_|refine Z23 ?_|refine Z24 ?_|refine Z25 ?_|refine Z26 ?_|refine Z27 ?_|refine Z28 ?_|refine Z29 ?_|refine Z30 ?_|refine Z31 ?_|refine Z32 ?_|refine Z49 ?_|refine Z50 ?_|refine Z51 ?_|refine Z52 ?_|refine Z53 ?_|refine Z58 ?_|refine Z59 ?_|refine Z62 ?_|refine Z63 ?_|refine Z64 ?_|refine Z67 ?_|refine Z70 ?_|refine Z71 ?_|refine Z75 ?_|refine Z76 ?_);exact k.h) : a := h ⟨k⟩
theorem y_155 {a b : Prop} (k : b) (h : Rm b → a := by intro k;(first|refine y_20 ?_|refine Z01 ?_|refine Z02 ?_|refine Z03 ?_|refine Z04 ?_|refine Z05 ?_|refine Z06 ?_|refine Z07 ?_|refine Z08 ?_|refine Z09 ?_|refine Z10 ?_|refine Z11 ?_|refine Z12 ?_|refine Z13 ?_|refine Z14 ?_|refine Z15 ?_|refine Z16 ?_|refine Z17 ?_|refine Z18 ?_|refine Z20 ?_|refine Z21 ?_|refine Z22 ?_|refine Z23 ?_|refine Z24 ?_|refine Z25 ?_|refine Z26 ?_|refine Z27 ?_|refine Z28 ?_|refine Z29 ?_|refine Z30 ?_|refine Z31 ?_|refine Z32 ?_|refine Z49 ?_|refine Z50 ?_|refine Z51 ?_|refine Z52 ?_|refine Z53 ?_|refine Z58 ?_|refine Z59 ?_|refine Z62 ?_|refine Z63 ?_|refine Z64 ?_|refine Z67 ?_|refine Z70 ?_|refine Z71 ?_|refine Z75 ?_|refine Z76 ?_);exact k.h) : a := h ⟨k⟩
set_option maxHeartbeats 4000000 in
theorem mod_spec (s t : Value) (xs ms : List Nat) (hx : Lt 18446744073709551616 xs) (hm : Lt 18446744073709551616 ms) (hl1 : xs.length < 1000000) (hl2 : ms.length < 1000000) :
  Spec Try.prog 126 [s, t] (fun w => Rd w s (xs.map (N .u64)) ∧ Rd w t (ms.map (N .u64))) []
   (fun v Wr => (V ms = 0 ∧ v = .tuple [.slice none 0 0, N .i64 30].toArray ∧ Wr = []) ∨ (0 < V ms ∧ ∃ u, v = .tuple [u, N .i64 0].toArray ∧ Wr = [.sl u ((D ms.length (V xs % V ms)).map (N .u64)) 22])) := by
 refine mk_spec Try.func126 rfl rfl rfl fun w hr => ?_
 have hr1 := RdC.mk0 hr.1
 have hr2 := RdC.mk0 hr.2
 repeat (first|refine st_block_join (ι := Nat) (fun n => n ≤ ms.length ∧ (∀ j, n ≤ j → ms.getD j 0 = 0) ∧ (n = 0 ∨ ms.getD (n - 1) 0 ≠ 0)) (fun n => [(0, s), (1, t), (6, N .i64 n)]) (fun _ => []) ?_ ?_|refine y_75 ?_|refine Z83 fun _ => ?_)
 ·refine st_loop (ι := Nat) (fun n => n ≤ ms.length ∧ ∀ j, n ≤ j → ms.getD j 0 = 0) (fun n => [(0, s), (1, t), (6, N .i64 n)]) (fun _ => []) (fun n => n) ms.length ⟨Nat.le_refl _, fun j hj => getD_out hj⟩ (by repeat (first|apply subL.nil|refine subL.cons (by rfl) ?_)) (by repeat (first|apply SubW.nil|refine y_6 ?_)) ?_
  rintro n ⟨hn, hz⟩
  by_cases h0 : n = 0
  ·repeat (first|refine y_154 ?_|refine Z83 fun _ => ?_)
   exact st_met n ⟨hn, hz, .inl h0⟩ (by repeat (first|apply subL.nil|refine subL.cons (by rfl) ?_)) (by repeat (first|apply SubW.nil|refine y_6 ?_))
  ·have hnl : n - 1 < ms.length := by omega
   by_cases hw : ms.getD (n - 1) 0 = 0
   ·repeat (first|refine y_155 ?_|refine Z83 fun _ => ?_)
    refine st_round (n - 1) ⟨by omega, fun j hj => ?_⟩ (by omega) (by repeat (first|apply subL.nil|refine subL.cons (by rfl) ?_)) (by repeat (first|apply SubW.nil|refine y_6 ?_))
    rcases Nat.eq_or_lt_of_le hj with h | h
    ·rw [← h]; exact hw
    ·exact hz j (by omega)
   ·repeat (first|refine y_20 ?_|rw [decide_eq_false hw]|refine y_75 ?_|refine Z83 fun _ => ?_)
    exact st_met n ⟨hn, hz, .inr hw⟩ (by repeat (first|apply subL.nil|refine subL.cons (by rfl) ?_)) (by repeat (first|apply SubW.nil|refine y_6 ?_))
 rintro n ⟨hn, hz, htop⟩
 by_cases h0 : n = 0
 ·repeat (first|refine y_155 ?_|refine Z83 fun _ => ?_)
  refine Ze2 fun _ hw => post_of hw SubW.nil (.inl ⟨?_, rfl, rfl⟩)
  have := take_top hn hz
  rw [h0, List.take_zero, V_nil] at this
  exact this.symm
 have htop : ms.getD (n - 1) 0 ≠ 0 := by rcases htop with h | h; exact absurd h h0; exact h
 obtain ⟨M, hM⟩ : ∃ M, V ms = M := ⟨_, rfl⟩
 have hMt : V (ms.take n) = M := by rw [take_top hn hz, hM]
 have htl : (ms.take n).length = n := by rw [List.length_take]; omega
 have htt : (ms.take n).getD (n - 1) 0 ≠ 0 := by
  rw [List.getD_eq_getElem?_getD, List.getElem?_take, if_pos (by omega), ← List.getD_eq_getElem?_getD]; exact htop
 have htb := hm.take n
 have hMp : 0 < M := by rw [← hMt]; exact Nat.lt_of_lt_of_le (W_pow_pos _) (ge_top htb htt)
 have hMW : M < Num.W ^ ms.length := by rw [← hM]; exact V_lt hm
 rw [hM]
 repeat (first|refine y_154 ?_|refine Z83 fun _ => ?_)
 rename_i u
 obtain ⟨L, hL⟩ : ∃ L, L = ms.length := ⟨_, rfl⟩
 refine st_loop (ι := Nat) (fun j => j ≤ xs.length) (fun j => [(0, s), (1, t), (6, N .i64 n), (7, u), (8, .int .i64 ((j : Int) - 1))]) (fun j => [.sl u ((D (ms.length + 1) (V xs / Num.W ^ j % M)).map (N .u64)) 22]) (fun j => j) xs.length (Nat.le_refl _) (by repeat (first|apply subL.nil|refine subL.cons (by rfl) ?_)) ?_ ?_
 ·rw [Nat.div_eq_of_lt (V_lt hx), Nat.zero_mod, D_zero]
  exact (by repeat (first|apply SubW.nil|refine y_6 ?_))
 intro j hj
 have hDl := D_len (ms.length + 1) (V xs / Num.W ^ j % M)
 repeat (first|refine y_75 ?_|refine Z83 fun _ => ?_)
 refine st_cond (by rfl) (fun h => ?_) (fun h => ?_)
 ·have hp : (0 : Int) ≤ (j : Int) - 1 := h
  obtain ⟨i, rfl⟩ : ∃ i, j = i + 1 := ⟨j - 1, by omega⟩
  rw [show ((i + 1 : Nat) : Int) - 1 = Int.ofNat i by simp]
  obtain ⟨R, hR⟩ : ∃ R, R = V xs / Num.W ^ (i + 1) % M := ⟨_, rfl⟩
  rw [← hR] at hDl ⊢
  have hRM : R < M := by rw [hR]; exact Nat.mod_lt _ hMp
  have hRW : R < Num.W ^ (ms.length + 1) := Nat.lt_of_lt_of_le (Nat.lt_trans hRM hMW) (W_le (Nat.le_succ _))
  have hxi := hx.getD (by decide) i
  have hil : i < xs.length := by omega
  have hDb := D_lt (ms.length + 1) R
  have hcl : (List.take 1 (D (ms.length + 1) R) ++ List.take ((D (ms.length + 1) R).length - 1) (D (ms.length + 1) R)).length = ms.length + 1 := by rw [List.length_append, List.length_take, List.length_take, hDl]; omega
  repeat (first|rw [List.length_map]|refine st_copy_selfN (lo := 1) (by rfl) (by rfl) (by repeat first|apply Find.here|apply Find.there) (by omega) (by rfl) (by rfl) (by rfl) ?_|refine Z01 ?_|refine Z02 ?_|refine Z03 ?_|refine Z04 ?_|refine Z05 ?_|refine Z06 ?_|refine Z07 ?_|refine Z08 ?_|refine Z09 ?_|refine Z10 ?_|refine Z11 ?_|refine Z12 ?_|refine Z13 ?_|refine Z14 ?_|refine Z15 ?_|refine Z16 ?_|refine Z17 ?_|refine Z18 ?_|refine Z20 ?_|refine Z21 ?_|refine Z22 ?_|refine Z23 ?_|refine Z24 ?_|refine Z25 ?_|refine Z26 ?_|refine Z27 ?_|refine Z28 ?_|refine Z29 ?_|refine Z30 ?_|refine Z31 ?_|refine Z32 ?_|refine Z49 ?_|refine Z50 ?_|refine Z51 ?_|refine Z52 ?_|refine Z53 ?_|refine Z58 ?_|refine Z59 ?_|refine Z62 ?_|refine Z63 ?_|refine Z64 ?_|refine Z67 ?_|refine Z70 ?_|refine Z71 ?_|refine Z75 ?_|refine Z76 ?_|refine Z83 fun _ => ?_)
  have hset : (List.take 1 (D (ms.length + 1) R) ++ List.take ((D (ms.length + 1) R).length - 1) (D (ms.length + 1) R)).set 0 (xs.getD i 0) = xs.getD i 0 :: (D (ms.length + 1) R).take ms.length := by
   rw [hDl, Nat.add_sub_cancel]
   cases hd : D (ms.length + 1) R with
   | nil => rw [hd] at hDl; simp at hDl
   | cons a r => simp
  rw [hset]
  have hnb : Lt 18446744073709551616 (xs.getD i 0 :: (D (ms.length + 1) R).take ms.length) := Num.Lt.cons hxi (hDb.take _)
  have hnl : (xs.getD i 0 :: (D (ms.length + 1) R).take ms.length).length = ms.length + 1 := by rw [List.length_cons, List.length_take, hDl]; omega
  have hnv : V (xs.getD i 0 :: (D (ms.length + 1) R).take ms.length) = xs.getD i 0 + Num.W * R := by
   rw [shift_val hDl hDb (by rw [V_D' hRW]; exact Nat.lt_trans hRM hMW), V_D' hRW]
  have hnW : V (xs.getD i 0 :: (D (ms.length + 1) R).take ms.length) < Num.W * M := by
   rw [hnv]
   have := Nat.mul_le_mul_left Num.W (show R + 1 ≤ M from hRM)
   rw [Nat.mul_add, Nat.mul_one] at this
   have h2 : xs.getD i 0 < Num.W := hxi
   omega
  have hrv : V (xs.getD i 0 :: (D (ms.length + 1) R).take ms.length) % M = V xs / Num.W ^ i % M := by
   rw [hnv, hR, V_getD hx, mod_step]
  have hcut : List.drop 0 (List.take n ms) = ms.take n := List.drop_zero
  have hsub : RdC ⟨w, fps []⟩ (sub t 0 n) ((ms.take n).map (N .u64)) := by
   have h := RdC.subC (lo := 0) (hi := n) (k := .u64) hr2 (by omega) hn
   rw [hcut] at h; exact h
  repeat (first|(refine st_call (by rfl) (by rfl) (by rfl) (take_spec u _ 22 _ (ms.take n) (ms.length + 1) n M hnb hnl htb htl (by omega) (by omega) (by omega) hMt htt hnW) (.cons (by repeat first|apply Find.here|apply Find.there) .nil) (fun w' hw' => RdC.toWin hsub hw' (.cons Find.here .nil)) (by rfl) ?_; rintro v _ rfl; rw [hrv])|refine y_75 ?_|refine Z83 fun _ => ?_)
  refine st_round i (by omega) (by omega) ?_ (by repeat (first|apply SubW.nil|refine y_6 ?_))
  rw [show ((i : Int) - 1) = Int.ofNat i - Int.ofNat 1 from rfl]
  exact (by repeat (first|apply subL.nil|refine subL.cons (by rfl) ?_))
 ·have hp : ¬ (0 : Int) ≤ (j : Int) - 1 := h
  have hj0 : j = 0 := by omega
  subst hj0
  rw [Nat.pow_zero, Nat.div_one] at hDl ⊢
  have hRM : V xs % M < M := Nat.mod_lt _ hMp
  repeat (first|refine y_75 ?_|refine Z83 fun _ => ?_)
  refine st_resl (s := u) 0 ms.length (by repeat first|apply Find.here|apply Find.there) (by omega) (by rw [List.length_map, hDl]; omega) ?_
  have hcut : List.drop 0 (List.take ms.length (List.map (N .u64) (D (ms.length + 1) (V xs % M)))) = (D ms.length (V xs % M)).map (N .u64) := by
   rw [List.drop_zero, ← List.map_take]
   congr 1
   refine D_of_V ((D_lt _ _).take _) (by rw [List.length_take, hDl]; omega) ?_
   rw [V_take (D_lt _ _), V_D, Nat.mod_eq_of_lt (a := V xs % M) (Nat.lt_of_lt_of_le (Nat.lt_trans hRM hMW) (W_le (Nat.le_succ _))), Nat.mod_eq_of_lt (Nat.lt_trans hRM hMW)]
  rw [hcut]
  exact Ze2 fun _ hw => post_of hw (Wout := [.sl (sub u 0 ms.length) ((D ms.length (V xs % M)).map (N .u64)) 22]) (by exact (by repeat (first|apply SubW.nil|refine y_6 ?_))) (.inr ⟨hMp, _, rfl, rfl⟩)
end Go.Proofs.Ytbpmbdlgmmabcaa.L
namespace Go.Proofs.Ytbpmbdlgmmabcaa.L
open Go Go.Proofs
set_option maxRecDepth 100000
attribute [local irreducible] Code.wp wpList Af bodyPost L.Go
open Num
attribute [local simp] D_len
theorem pwide_spec (s : Value) (xs : List Nat) (hx : Lt 18446744073709551616 xs) (hl : xs.length < 1000000) :
  Spec Try.prog 88 [s] (fun w => Rd w s (xs.map (N .u64))) [] (IsV (LV .u64 (D 6 (V xs % p)))) := by
 refine mk_spec Try.func88 rfl rfl rfl fun w hr => ?_
 have hr := RdC.mk0 hr
 have hrl := D_len 6 p
 have hv := V_D' p_lt
 have hml := D_len 6 (V xs % p)
 have htk : (D 6 (V xs % p)).take 6 = D 6 (V xs % p) := List.take_of_length_le (by omega)
 repeat (first|(refine y_25 ?_;intro _)|refine y_26 ?_|(refine st_call (by rfl) (by rfl) (by rfl) (mod_spec s _ xs (D 6 p) hx (D_lt _ _) hl (by omega)) .nil (fun w hw => ⟨RdW.old hr w hw, RdW.arrAll (m := 6) (by repeat first|apply Find.here|apply Find.there) hrl w hw⟩) (by rfl) ?_; rintro _ _ (⟨hz, _, _⟩ | ⟨_, u, rfl, rfl⟩); exact absurd hz (by rw [hv]; exact Nat.ne_of_gt p_pos); rw [hv, hrl])|rw [htk]|refine Z01 ?_|refine Z02 ?_|refine Z03 ?_|refine Z04 ?_|refine Z05 ?_|refine Z06 ?_|refine Z07 ?_|refine Z08 ?_|refine Z09 ?_|refine Z10 ?_|refine Z11 ?_|refine Z12 ?_|refine Z13 ?_|refine Z14 ?_|refine Z19 ?_|refine Z24 ?_|refine Z25 ?_|refine Z26 ?_|refine Z27 ?_|refine Z28 ?_|refine Z29 ?_|refine Z30 ?_|refine Z31 ?_|refine Z32 ?_|refine Z62 ?_|refine Z63 ?_|refine Z64 ?_|refine Z66 ?_|refine Z67 ?_|refine Z82 fun _ => ?_)
 refine Zec fun _ hw => post_of hw SubW.nil ⟨?_, rfl⟩
 rfl
def fel (b : List Nat) : List Nat := D 6 (bval (b.take 64) % p) ++ D 6 (bval ((b.take 128).drop 64) % p)
def fels (b : List Nat) : Nat → List (List Nat)
 | 0 => []
 | i + 1 => fels b i ++ [fel (b.drop (128 * i))]
theorem fel_def (b : List Nat) : fel b = D 6 (bval (b.take 64) % p) ++ D 6 (bval ((b.take 128).drop 64) % p) := rfl
theorem fel_len (b : List Nat) : (fel b).length = 12 := by simp [fel]
theorem fels_0 (b : List Nat) : fels b 0 = [] := rfl
theorem fels_succ (b : List Nat) (i : Nat) : fels b (i + 1) = fels b i ++ [fel (b.drop (128 * i))] := rfl
theorem fels_len (b : List Nat) (i : Nat) : (fels b i).length = i := by
 induction i with
 | zero => rfl
 | succ i ih => rw [fels, List.length_append, ih]; rfl
theorem fels_each (b : List Nat) (i : Nat) : ∀ v ∈ fels b i, v.length = 12 := by
 induction i with
 | zero => intro v hv; cases hv
 | succ i ih =>
  intro v hv
  rcases List.mem_append.1 hv with hv | hv
  ·exact ih v hv
  ·rw [List.mem_singleton.1 hv]; exact fel_len _
theorem flat12_len {l : List (List Nat)} (h : ∀ v ∈ l, v.length = 12) : l.flatten.length = l.length * 12 := by
 induction l with
 | nil => rfl
 | cons a r ih =>
  rw [List.flatten_cons, List.length_append, ih fun v hv => h v (List.mem_cons_of_mem _ hv), h a (List.mem_cons_self ..), List.length_cons]
  omega
theorem fels_flat (b : List Nat) (i : Nat) : (fels b i).flatten.length = (fels b i).length * 12 := flat12_len (fels_each b i)
theorem fels_get (b : List Nat) : ∀ {k i : Nat}, i < k → (fels b k)[i]? = some (fel (b.drop (128 * i)))
 | 0, _, h => by omega
 | k + 1, i, h => by
  rw [fels_succ]
  rcases Nat.lt_or_ge i k with h2 | h2
  ·rw [List.getElem?_append_left (by rw [fels_len]; exact h2)]
   exact fels_get b h2
  ·have : i = k := by omega
   subst this
   rw [List.getElem?_append_right (by rw [fels_len]; exact Nat.le_refl _), fels_len, Nat.sub_self]
   rfl
theorem w64 {bs : List Nat} (h : Lt 256 bs) (hl : bs.length = 64) : V (D 8 (bval bs)) = bval bs := by
 refine V_D' ?_
 have := bval_lt h
 rw [hl] at this
 exact this
theorem pwide64 (s : Value) (bs : List Nat) (h : Lt 256 bs) (hl : bs.length = 64) : Spec Try.prog 88 [s] (fun w => Rd w s ((D 8 (bval bs)).map (N .u64))) [] (IsV (LV .u64 (D 6 (bval bs % p)))) := by
 have := pwide_spec s (D 8 (bval bs)) (D_lt _ _) (by rw [D_len]; decide)
 rwa [w64 h hl] at this
attribute [irreducible] fel fels
end Go.Proofs.Ytbpmbdlgmmabcaa.L
namespace Go.Proofs.Ytbpmbdlgmmabcaa.L
open Go Go.Proofs
set_option maxRecDepth 100000
attribute [local irreducible] Code.wp wpList Af bodyPost L.Go
open Num
attribute [local simp] D_len
theorem y_76 {a b : Prop} (k : b) (h : Rm b → a := by intro k;(first|refine Z01 ?_|refine Z02 ?_|refine Z03 ?_|refine Z04 ?_|refine Z05 ?_|refine Z06 ?_|refine Z07 ?_|refine Z08 ?_|refine Z09 ?_|refine Z10 ?_|refine Z11 ?_|refine Z12 ?_|refine Z13 ?_|refine Z14 ?_|refine Z17 ?_|refine Z18 ?_|refine Z19 ?_|refine Z20 ?_|refine Z21 ?_|refine Z36 ?_|refine Z49 ?_|refine Z50 ?_|refine Z51 ?_|refine Z52 ?_|refine Z53 ?_|refine Z58 ?_|refine Z59 ?_|refine Z62 ?_|refine Z63 ?_|refine Z64 ?_|refine Z65 ?_);exact k.h) : a := h ⟨k⟩
theorem y_77 {a b : Prop} (k : b) (h : Rm b → a := by intro k;(first|refine Z01 ?_|refine Z02 ?_|refine Z17 ?_|refine Z18 ?_|refine Z19 ?_|refine Z20 ?_|refine Z21 ?_|refine Z36 ?_|refine Z49 ?_|refine Z50 ?_|refine Z58 ?_|refine Z59 ?_|refine Z62 ?_|refine Z63 ?_|refine Z64 ?_|refine Z65 ?_);exact k.h) : a := h ⟨k⟩
theorem y_78 {a b : Prop} (k : b) (h : Rm b → a := by intro k;refine R.Zpp (by rfl) (by intro _ _ _;(first|refine Z20 ?_|refine Z21 ?_|refine Z62 ?_);exact Zq) ?_;exact k.h) : a := h ⟨k⟩
theorem y_79 {S1 a b : Prop} (s1 : S1) (k : b) (h : S1 → Rm b → a := by intro s1 k;refine R.Zpp (by rfl) (by intro _ _ _;refine st_callV (by rfl) (by rfl) (by rfl) s1 (RdW.own (by repeat first|apply Find.here|apply Find.there)) (by rfl) ?_;exact Zq) ?_;exact k.h) : a := h s1 ⟨k⟩
theorem y_80 {a b : Prop} (k : b) (h : Rm b → a := by intro k;refine R.Zpn (by rfl) (by intro _ _ _;(first|refine Z84 fun _ => ?_|refine Z85 fun _ => ?_);exact R.Zpx) ?_;exact k.h) : a := h ⟨k⟩
set_option maxHeartbeats 8000000 in
theorem fields_ok (s1 s2 : Value) (m d : List Nat) (k : Nat) (hm : Lt 256 m) (hd : Lt 256 d) (hl1 : m.length < 1073741824) (h1 : 1 ≤ d.length) (h2 : d.length ≤ 255) (hk1 : 1 ≤ k) (hk : k ≤ 63) :
  Spec Try.prog 48 [s1, s2, N .i64 k] (fun w => Rd w s1 (m.map (N .u8)) ∧ Rd w s2 (d.map (N .u8))) [] (fun v W => ∃ x, v = .tuple [x, N .i64 0].toArray ∧ W = [.sl (wide 12 x) ((fels (xpand m d (128 * k)) k).flatten.map (N .u64)) 26]) := by
 refine mk_spec Try.func48 rfl rfl rfl fun w hr => ?_
 have hr1 := RdC.mk0 hr.1
 have hr2 := RdC.mk0 hr.2
 have hxl := xpand_len m d (128 * k)
 have hxb := xpand_lt m d (128 * k)
 repeat (first|refine y_20 ?_|(refine st_call (by rfl) (by rfl) (by rfl) (xexpand_ok s1 s2 m d (128 * k) hm hd hl1 h1 h2 (by omega) (by omega)) .nil (fun w hw => ⟨RdW.old hr1 w hw, RdW.old hr2 w hw⟩) (by rfl) ?_; rintro _ _ ⟨x, rfl, rfl⟩)|refine y_76 ?_|refine Z84 fun _ => ?_|refine Z85 fun _ => ?_)
 generalize xpand m d (128 * k) = b at *
 refine st_own_nilM 12 26 ?_
 refine st_loop (ι := Nat × Value × Value) (fun q => q.1 ≤ k) (fun q => [(9, q.2.1), (10, N .i64 0), (11, q.2.2)]) (fun q => [.sl (wide 12 q.2.2) ((fels b q.1).flatten.map (N .u64)) 26, .sl q.2.1 ((b.drop (128 * q.1)).map (N .u8)) 5]) (fun q => k - q.1) (0, x, .slice none 0 0) (by simp) (by repeat (first|apply subL.nil|refine subL.cons (by rfl) ?_)) (by simp only [fels_0]; exact (by repeat (first|apply SubW.nil|refine y_6 ?_))) ?_
 rintro ⟨i, v, u⟩ hi
 simp only at hi ⊢
 have hdl : (b.drop (128 * i)).length = 128 * k - 128 * i := by rw [List.length_drop, hxl]
 have hfs := fels_succ b i
 have hdb : Lt 256 (b.drop (128 * i)) := fun y hy => hxb y (List.mem_of_mem_drop hy)
 have hnx : b.drop (128 * (i + 1)) = (b.drop (128 * i)).drop 128 := by rw [List.drop_drop]; congr 1
 have hfl := fels_flat b i
 have hfl' := fels_len b i
 generalize b.drop (128 * i) = e at *
 generalize hL : fels b i = L at *
 repeat (first|refine y_76 ?_|refine Z84 fun _ => ?_|refine Z85 fun _ => ?_)
 refine st_cond (by rfl) (fun h => ?_) (fun h => ?_)
 ·rw [hdl] at h
  have ha : (e.take 64).length = 64 := by rw [List.length_take, hdl]; omega
  have hc : ((e.take 128).drop 64).length = 64 := by rw [List.length_drop, List.length_take, hdl]; omega
  have hab : Lt 256 (e.take 64) := fun y hy => hdb y (List.mem_of_mem_take hy)
  have hcb : Lt 256 ((e.take 128).drop 64) := fun y hy => hdb y (List.mem_of_mem_take (List.mem_of_mem_drop hy))
  have hw1 := fun s => words_spec s (e.take 64) hab (by omega)
  have hw2 := fun s => words_spec s ((e.take 128).drop 64) hcb (by omega)
  rw [ha] at hw1
  rw [hc] at hw2
  have hv1 := fun s => pwide64 s (e.take 64) hab ha
  have hv2 := fun s => pwide64 s ((e.take 128).drop 64) hcb hc
  have hfe := fel_def e
  have hE : ∀ y ∈ [fel e], y.length = 12 := fun y hy => by rw [List.mem_singleton.1 hy]; exact fel_len _
  have hE1 := flat12_len hE
  have hs1 : ∀ (c : Cx) (W : List Res), RdW c W v (e.map (N .u8)) → RdW c W (sub v 0 64) ((e.take 64).map (N .u8)) := fun c W h => RdW.subN h (lo := 0) (hi := 64) (by omega) (by omega)
  have hs2 : ∀ (c : Cx) (W : List Res), RdW c W v (e.map (N .u8)) → RdW c W (sub v 64 128) (((e.take 128).drop 64).map (N .u8)) := fun c W h => RdW.subN h (lo := 64) (hi := 128) (by omega) (by omega)
  have hbd : (L.length + [fel e].length) * 96 ≤ 140737488355328 := by rw [hfl']; simp; omega
  have hbd2 : L.length + [fel e].length < 9223372036854775808 := by rw [hfl']; simp; omega
  have hone : 0 < [fel e].length := Nat.one_pos
  repeat (first|refine y_76 ?_|refine Z84 fun _ => ?_|refine Z85 fun _ => ?_)
  refine R.st_perm [0, 1, 5, 2, 6, 3, 7, 4, 8, 9, 10, 11, 12] (by rfl) ?_
  repeat (first|(refine R.Zpf (by rfl) (by intro _ _ _;(first|(refine st_build2 (by rfl) (by rfl) (by rfl) (by rfl) (by simp; done) (by simp; done) (by rfl) ?_; rw [← hfe])|refine y_77 ?_);exact Zq) ?_)|refine y_78 ?_|refine y_79 (hv1 _) ?_|refine y_79 (hv2 _) ?_|(refine R.Zpd (by rfl) (by intro _ _ _;(refine st_buildSliceM (m := 12) (kk := .u64) (vss := [fel e]) (by rfl) (by rfl) (by rfl) (by rfl) (by rfl) (by rfl) (by rfl) hE (by rfl) (by rfl) fun _ => ?_);exact R.Zpdx) fun _ => ?_)|(refine R.Zpcc [4, 7, 8, 9, 10, 11, 12] [8, 3, 4, 9, 10, 11, 12] (by rfl) (by rfl) (by intro _ _ _;(refine st_call (by rfl) (by rfl) (by rfl) (hw1 _) .nil (hs1 _ _ (RdW.own (by repeat first|apply Find.here|apply Find.there))) (by rfl) ?_; rintro x1 _ rfl);exact R.Zpcx) (by intro _ _ _;(refine st_call (by rfl) (by rfl) (by rfl) (hw2 _) .nil (hs2 _ _ (RdW.own (by repeat first|apply Find.here|apply Find.there))) (by rfl) ?_; rintro x2 _ rfl);exact R.Zpcx) (fun _ => ?_) (fun _ => ?_))|(refine R.Zpc (by rfl) (by intro _ _ _;(refine st_call (by rfl) (by rfl) (by rfl) (hw1 _) .nil (hs1 _ _ (RdW.own (by repeat first|apply Find.here|apply Find.there))) (by rfl) ?_; rintro x1 _ rfl);exact R.Zpcx) fun _ => ?_)|(refine R.Zpc (by rfl) (by intro _ _ _;(refine st_call (by rfl) (by rfl) (by rfl) (hw2 _) .nil (hs2 _ _ (RdW.own (by repeat first|apply Find.here|apply Find.there))) (by rfl) ?_; rintro x2 _ rfl);exact R.Zpcx) fun _ => ?_)|(refine y_80 ?_;intro _)|(refine R.Zpn (by rfl) (by intro _ _ _;(refine st_append_M (m := 12) (kk := .u64) (xss := L) (yss := [fel e]) (by rfl) (by rfl) (by repeat first|apply Find.here|apply Find.there) (RdW.slv (by repeat first|apply Find.here|apply Find.there) hE1) (by rfl) (by rfl) (by rfl) (by rfl) (by decide) hfl hE1 hone hbd hbd2 (by rfl) fun _ => ?_; rw [← hfs]);exact R.Zpx) fun _ => ?_)|refine R.Zpo (by rfl) ?_)
  all_goals
   repeat (first|(refine R.Zpf (by rfl) (by intro _ _ _;(first|(refine st_build2 (by rfl) (by rfl) (by rfl) (by rfl) (by simp; done) (by simp; done) (by rfl) ?_; rw [← hfe])|refine y_77 ?_);exact Zq) ?_)|refine y_78 ?_|refine y_79 (hv1 _) ?_|refine y_79 (hv2 _) ?_|(refine R.Zpd (by rfl) (by intro _ _ _;(refine st_buildSliceM (m := 12) (kk := .u64) (vss := [fel e]) (by rfl) (by rfl) (by rfl) (by rfl) (by rfl) (by rfl) (by rfl) hE (by rfl) (by rfl) fun _ => ?_);exact R.Zpdx) fun _ => ?_)|(refine R.Zpcc [4, 7, 8, 9, 10, 11, 12] [8, 3, 4, 9, 10, 11, 12] (by rfl) (by rfl) (by intro _ _ _;(refine st_call (by rfl) (by rfl) (by rfl) (hw1 _) .nil (hs1 _ _ (RdW.own (by repeat first|apply Find.here|apply Find.there))) (by rfl) ?_; rintro x1 _ rfl);exact R.Zpcx) (by intro _ _ _;(refine st_call (by rfl) (by rfl) (by rfl) (hw2 _) .nil (hs2 _ _ (RdW.own (by repeat first|apply Find.here|apply Find.there))) (by rfl) ?_; rintro x2 _ rfl);exact R.Zpcx) (fun _ => ?_) (fun _ => ?_))|(refine R.Zpc (by rfl) (by intro _ _ _;(refine st_call (by rfl) (by rfl) (by rfl) (hw1 _) .nil (hs1 _ _ (RdW.own (by repeat first|apply Find.here|apply Find.there))) (by rfl) ?_; rintro x1 _ rfl);exact R.Zpcx) fun _ => ?_)|(refine R.Zpc (by rfl) (by intro _ _ _;(refine st_call (by rfl) (by rfl) (by rfl) (hw2 _) .nil (hs2 _ _ (RdW.own (by repeat first|apply Find.here|apply Find.there))) (by rfl) ?_; rintro x2 _ rfl);exact R.Zpcx) fun _ => ?_)|(refine y_80 ?_;intro _)|(refine R.Zpn (by rfl) (by intro _ _ _;(refine st_append_M (m := 12) (kk := .u64) (xss := L) (yss := [fel e]) (by rfl) (by rfl) (by repeat first|apply Find.here|apply Find.there) (RdW.slv (by repeat first|apply Find.here|apply Find.there) hE1) (by rfl) (by rfl) (by rfl) (by rfl) (by decide) hfl hE1 hone hbd hbd2 (by rfl) fun _ => ?_; rw [← hfs]);exact R.Zpx) fun _ => ?_)|refine R.Zpo (by rfl) ?_)
  all_goals refine R.Zp0 ?_
  all_goals
   repeat (first|refine y_76 ?_|refine Z84 fun _ => ?_|refine Z85 fun _ => ?_)
   rename_i v9
   refine st_resl (s := v) 128 (List.map (N .u8) e).length (by repeat first|apply Find.here|apply Find.there) (by rw [List.length_map]; omega) (Nat.le_refl _) ?_
   rw [List.take_length, ← List.map_drop, ← hnx]
   exact st_round (i + 1, sub v 128 _, v9) (by simp only; omega) (by simp only; omega) (by repeat (first|apply subL.nil|refine subL.cons (by rfl) ?_)) (by repeat (first|apply SubW.nil|refine y_6 ?_))
 ·rw [hdl] at h
  have hik : i = k := by omega
  subst hik
  subst hL
  repeat (first|refine y_76 ?_|refine Z84 fun _ => ?_|refine Z85 fun _ => ?_)
  exact Ze2 fun _ hw => post_of hw (Wout := [.sl (wide 12 u) ((fels b i).flatten.map (N .u64)) 26]) (by exact (by repeat (first|apply SubW.nil|refine y_6 ?_))) ⟨_, rfl, rfl⟩
theorem y_81 {a b : Prop} (k : b) (h : Rm b → a := by intro k;refine st_len (by rfl) (by rfl) RdW.nil (by rfl) ?_;exact k.h) : a := h ⟨k⟩
theorem y_156 {a b : Prop} (k : b) (h : Rm b → a := by intro k;(first|refine y_81 ?_|refine Z01 ?_|refine Z02 ?_|refine Z03 ?_|refine Z04 ?_|refine Z05 ?_|refine Z06 ?_|refine Z07 ?_|refine Z08 ?_|refine Z09 ?_|refine Z10 ?_|refine Z11 ?_|refine Z12 ?_|refine Z13 ?_|refine Z14 ?_|refine Z17 ?_|refine Z18 ?_|refine Z19 ?_|refine Z20 ?_|refine Z21 ?_|refine Z36 ?_|refine Z49 ?_|refine Z50 ?_|refine Z51 ?_|refine Z52 ?_|refine Z53 ?_|refine Z58 ?_|refine Z59 ?_|refine Z62 ?_|refine Z63 ?_|refine Z64 ?_|refine Z65 ?_);exact k.h) : a := h ⟨k⟩
theorem fields_bad (s1 s2 : Value) (d : List Nat) (c n : Int) (er : Nat) (hn : n = if 1 ≤ c ∧ c ≤ 63 then 128 * c else 0)
  (hx : Spec Try.prog 87 [s1, s2, .int .i64 n] (fun w => Rd w s2 (d.map (N .u8))) [] (IsV (.tuple [.slice none 0 0, N .i64 er].toArray))) :
  Spec Try.prog 48 [s1, s2, .int .i64 c] (fun w => Rd w s2 (d.map (N .u8))) [] (IsV (.tuple [.slice none 0 0, N .i64 er].toArray)) := by
 refine mk_spec Try.func48 rfl rfl rfl fun w hr => ?_
 have hr2 := RdC.mk0 hr
 by_cases h1 : (1 : Int) ≤ c
 ·by_cases h2 : c ≤ 63
  ·rw [if_pos ⟨h1, h2⟩] at hn
   obtain ⟨k, rfl⟩ := Int.eq_ofNat_of_zero_le (show 0 ≤ c by omega)
   have hx' : Spec Try.prog 87 [s1, s2, N .i64 (128 * k)] (fun w => Rd w s2 (d.map (N .u8))) [] (IsV (.tuple [.slice none 0 0, N .i64 er].toArray)) := by
    rw [hn] at hx
    exact hx
   change Go _ _ [(0, s1), (1, s2), (2, N .i64 k)] _ _
   repeat (first|refine y_20 ?_|refine st_callV (by rfl) (by rfl) (by rfl) (hx') (RdW.old hr2) (by rfl) ?_|refine y_156 ?_|refine Z84 fun _ => ?_|refine Z85 fun _ => ?_)
   refine st_loop (ι := Nat) (fun _ => True) (fun _ => [(9, .slice none 0 0), (10, N .i64 er), (11, .slice none 0 0)]) (fun _ => []) (fun _ => 0) 0 trivial (by repeat (first|apply subL.nil|refine subL.cons (by rfl) ?_)) (by repeat (first|apply SubW.nil|refine y_6 ?_)) ?_
   intro _ _
   repeat (first|refine y_156 ?_|refine Z84 fun _ => ?_|refine Z85 fun _ => ?_)
   exact Ze2 fun _ hw => post_of hw SubW.nil ⟨rfl, rfl⟩
  ·rw [if_neg (by omega)] at hn
   subst hn
   obtain ⟨k, rfl⟩ := Int.eq_ofNat_of_zero_le (show 0 ≤ c by omega)
   change Go _ _ [(0, s1), (1, s2), (2, N .i64 k)] _ _
   repeat (first|refine y_20 ?_|refine y_16 ?_|refine st_callV (by rfl) (by rfl) (by rfl) (hx) (RdW.old hr2) (by rfl) ?_|refine y_76 ?_|refine Z84 fun _ => ?_|refine Z85 fun _ => ?_)
   refine st_loop (ι := Nat) (fun _ => True) (fun _ => [(9, .slice none 0 0), (10, N .i64 er), (11, .slice none 0 0)]) (fun _ => []) (fun _ => 0) 0 trivial (by repeat (first|apply subL.nil|refine subL.cons (by rfl) ?_)) (by repeat (first|apply SubW.nil|refine y_6 ?_)) ?_
   intro _ _
   repeat (first|refine y_156 ?_|refine Z84 fun _ => ?_|refine Z85 fun _ => ?_)
   exact Ze2 fun _ hw => post_of hw SubW.nil ⟨rfl, rfl⟩
 ·rw [if_neg (by omega)] at hn
  subst hn
  repeat (first|rw [decide_eq_false (p := Int.ofNat 1 ≤ c) h1]|refine st_callV (by rfl) (by rfl) (by rfl) (hx) (RdW.old hr2) (by rfl) ?_|refine y_76 ?_|refine Z84 fun _ => ?_|refine Z85 fun _ => ?_)
  refine st_loop (ι := Nat) (fun _ => True) (fun _ => [(9, .slice none 0 0), (10, N .i64 er), (11, .slice none 0 0)]) (fun _ => []) (fun _ => 0) 0 trivial (by repeat (first|apply subL.nil|refine subL.cons (by rfl) ?_)) (by repeat (first|apply SubW.nil|refine y_6 ?_)) ?_
  intro _ _
  repeat (first|refine y_156 ?_|refine Z84 fun _ => ?_|refine Z85 fun _ => ?_)
  exact Ze2 fun _ hw => post_of hw SubW.nil ⟨rfl, rfl⟩
end Go.Proofs.Ytbpmbdlgmmabcaa.L
namespace Go.Proofs.Ytbpmbdlgmmabcaa.L
open Go Go.Proofs
set_option maxRecDepth 100000
attribute [local irreducible] Code.wp wpList Af bodyPost L.Go
open Num
attribute [local simp] D_len
def ac : F2 := k2 0 240
def bc : F2 := k2 1012 1012
def zc : F2 := Kf.K2.neg (k2 2 1)
def pol (x : F2) : List F2 → F2
 | [] => Kf.K2.zero
 | c :: r => Kf.K2.add (Kf.K2.mul (pol x r) x) c
def side (x : F2) : F2 := pol x [bc, ac, Kf.K2.zero, Kf.K2.one]
theorem acE : List.replicate 6 0 ++ ([240] ++ List.replicate (6 - [240].length) 0) = E2 ac := by decide +kernel
theorem bcE : ([1012] ++ List.replicate (6 - [1012].length) 0) ++ ([1012] ++ List.replicate (6 - [1012].length) 0) = E2 bc := by decide +kernel
theorem y_82 {a b : Prop} (k : b) (h : Rm b → a := by intro k;refine st_build2a (by rfl) (by rfl) (by rfl) (by rfl) (by simp; done) (by rfl) ?_;exact k.h) : a := h ⟨k⟩
theorem ac_spec : Spec Try.prog 77 [] NoPre [] (IsV (LV .u64 (E2 ac))) := by
 refine mk_spec Try.func77 rfl rfl rfl fun w _ => ?_
 repeat (first|(refine y_52 ?_;intro _)|refine st_buildP (kk := .u64) (vs := [240]) (by rfl) (by rfl) (by rfl) (by rfl) (by rfl) (by rfl) (by rfl) (by rfl) ?_|refine y_82 ?_|(refine st_build2b (by rfl) (by rfl) (by rfl) (by rfl) (by simp; done) (by rfl) ?_)|refine Z03 ?_|refine Z04 ?_|refine Z05 ?_|refine Z06 ?_|refine Z07 ?_|refine Z08 ?_|refine Z09 ?_|refine Z10 ?_|refine Z11 ?_|refine Z12 ?_|refine Z13 ?_|refine Z14 ?_|refine Z29 ?_|refine Z30 ?_|refine Z31 ?_|refine Z32 ?_|refine Z65 ?_|refine Z82 fun _ => ?_)
 refine Zec fun _ hw => post_of hw SubW.nil ⟨?_, rfl⟩
 rw [← acE]
theorem bc_spec : Spec Try.prog 76 [] NoPre [] (IsV (LV .u64 (E2 bc))) := by
 refine mk_spec Try.func76 rfl rfl rfl fun w _ => ?_
 repeat (first|(refine y_52 ?_;intro _)|refine st_buildP (kk := .u64) (vs := [1012]) (by rfl) (by rfl) (by rfl) (by rfl) (by rfl) (by rfl) (by rfl) (by rfl) ?_|refine y_55 ?_|refine y_82 ?_|refine Z03 ?_|refine Z04 ?_|refine Z05 ?_|refine Z06 ?_|refine Z07 ?_|refine Z08 ?_|refine Z09 ?_|refine Z10 ?_|refine Z11 ?_|refine Z12 ?_|refine Z13 ?_|refine Z14 ?_|refine Z29 ?_|refine Z30 ?_|refine Z31 ?_|refine Z32 ?_|refine Z65 ?_|refine Z82 fun _ => ?_)
 refine Zec fun _ hw => post_of hw SubW.nil ⟨?_, rfl⟩
 rw [← bcE]
theorem zc_spec : Spec Try.prog 75 [] NoPre [] (IsV (LV .u64 (E2 zc))) := by
 refine mk_spec Try.func75 rfl rfl rfl fun w _ => ?_
 have hl0 := fun x => D_len 6 x
 have hle := fun x : F2 => E2_len x
 have hn : Spec Try.prog 22 [LV .u64 (D 6 2 ++ D 6 1)] NoPre [] (IsV (LV .u64 (E2 zc))) := sneg_spec (by decide) (by decide)
 repeat (first|(refine y_52 ?_;intro _)|refine y_38 ?_|(refine st_buildP (kk := .u64) (vs := [2]) (by rfl) (by rfl) (by rfl) (by rfl) (by rfl) (by rfl) (by rfl) (by rfl) ?_; rw [two6])|refine y_55 ?_|refine y_82 ?_|refine y_2 hn ?_|refine y_4 ?_|refine Z82 fun _ => ?_)
 refine Zec fun _ hw => post_of hw SubW.nil ⟨?_, rfl⟩
 rfl
theorem smulX {a b : Nat} (ha : a < W ^ 6) (hb : b < W ^ 6) (x : F2) : Spec Try.prog 18 [LV .u64 (E2 x), LV .u64 (D 6 a ++ D 6 b)] NoPre [] (IsV (LV .u64 (E2 (Kf.K2.mul x (k2 a b))))) := by
 have := smul_spec (val_lt x.re) (val_lt x.im) ha hb; rwa [k2_val] at this
theorem pol_drop (x : F2) {cs : List F2} {i : Nat} {c : F2} (h : cs[i]? = some c) : pol x (cs.drop i) = Kf.K2.add (Kf.K2.mul (pol x (cs.drop (i + 1))) x) c := by
 obtain ⟨h1, h2⟩ := List.getElem?_eq_some_iff.1 h
 rw [List.drop_eq_getElem_cons h1, h2]; rfl
theorem y_83 {a b : Prop} (k : b) (h : Rm b → a := by intro k;(first|refine Z01 ?_|refine Z02 ?_|refine Z03 ?_|refine Z04 ?_|refine Z05 ?_|refine Z06 ?_|refine Z07 ?_|refine Z08 ?_|refine Z09 ?_|refine Z10 ?_|refine Z11 ?_|refine Z12 ?_|refine Z13 ?_|refine Z14 ?_|refine Z16 ?_|refine Z17 ?_|refine Z18 ?_|refine Z20 ?_|refine Z21 ?_|refine Z22 ?_|refine Z23 ?_|refine Z24 ?_|refine Z25 ?_|refine Z26 ?_|refine Z27 ?_|refine Z28 ?_|refine Z29 ?_|refine Z30 ?_|refine Z31 ?_|refine Z32 ?_|refine Z58 ?_|refine Z59 ?_|refine Z67 ?_|refine Z71 ?_);exact k.h) : a := h ⟨k⟩
set_option maxHeartbeats 4000000 in
theorem poly_spec {a e : Nat} (ha : a < W ^ 6) (he : e < W ^ 6) (b k : Nat) (cs : List F2) (hk : cs.length = k) (hk2 : k < 65536) :
  Spec Try.prog 66 [LV .u64 (D 6 a ++ D 6 e), slv b k] (fun w => HasB w b (LV .u64 (cs.map E2).flatten) 26) [] (IsV (LV .u64 (E2 (pol (k2 a e) cs)))) := by
 refine mk_spec Try.func66 rfl rfl rfl fun w hr => ?_
 have h1 := OldB.mk0 hr
 have hl0 := fun x => D_len 6 x
 have hle := fun x : F2 => E2_len x
 have hz12 := zero12
 have hm := fun x => smulX ha he x
 generalize k2 a e = x at hm
 have h12 : ∀ v ∈ cs.map E2, v.length = 12 := fun v hv => by
  obtain ⟨c, _, rfl⟩ := List.mem_map.1 hv
  exact hle c
 repeat (first|(refine y_52 ?_;intro _)|refine st_len_slv (by rfl) (by rfl) (by rfl) ?_|refine Z01 ?_|refine Z02 ?_|refine Z03 ?_|refine Z04 ?_|refine Z05 ?_|refine Z06 ?_|refine Z07 ?_|refine Z08 ?_|refine Z09 ?_|refine Z10 ?_|refine Z11 ?_|refine Z12 ?_|refine Z13 ?_|refine Z14 ?_|refine Z16 ?_|refine Z17 ?_|refine Z18 ?_|refine Z20 ?_|refine Z21 ?_|refine Z22 ?_|refine Z23 ?_|refine Z24 ?_|refine Z25 ?_|refine Z26 ?_|refine Z27 ?_|refine Z28 ?_|refine Z29 ?_|refine Z30 ?_|refine Z31 ?_|refine Z32 ?_|refine Z58 ?_|refine Z59 ?_|refine Z67 ?_|refine Z71 ?_|refine Z81 fun _ => ?_|refine Z82 fun _ => ?_)
 rename_i b2 b4
 refine st_loop (ι := Nat) (fun j => j ≤ k) (fun j => [(1, slv b k), (2, pt b2 0), (4, pt b4 0), (5, .int .i64 ((j : Int) - 1))])
  (fun j => [.blk b4 (LV .u64 (E2 (pol x (cs.drop j)))) 26, .blk b2 (LV .u64 (D 6 a ++ D 6 e)) 26]) (fun j => j) k (Nat.le_refl _) (by repeat (first|apply subL.nil|refine subL.cons (by rfl) ?_)) (by rw [← hk, List.drop_length, show pol x [] = Kf.K2.zero from rfl, ← hz12]; exact (by repeat (first|apply SubW.nil|refine y_6 ?_))) ?_
 intro j hj
 repeat (first|refine y_83 ?_|refine Z81 fun _ => ?_|refine Z82 fun _ => ?_)
 refine st_cond (by rfl) (fun h => ?_) (fun h => ?_)
 ·have h0 : (0 : Int) ≤ (j : Int) - 1 := h
  obtain ⟨i, rfl⟩ : ∃ i, j = i + 1 := ⟨j - 1, by omega⟩
  rw [show ((i + 1 : Nat) : Int) - 1 = Int.ofNat i by simp]
  obtain ⟨c, hc⟩ : ∃ c, cs[i]? = some c := ⟨cs[i]'(by omega), List.getElem?_eq_getElem (by omega)⟩
  have hpt : PartAt (cs.map E2).flatten (0 + i * 12) 12 (E2 c) := by
   rw [Nat.zero_add]; exact PartAt.nth h12 (by rw [List.getElem?_map, hc]; rfl)
  have had := saddE (Kf.K2.mul (pol x (cs.drop (i + 1))) x) c
  rw [← pol_drop x hc] at had
  repeat (first|refine y_83 ?_|refine Z81 fun _ => ?_|refine Z82 fun _ => ?_)
  refine st_draw1 (by rfl) ?_
  repeat (first|(refine Zqf (by intro _ _ _;(first|refine st_ia_slv (by rfl) (by rfl) (by rfl) (by rfl) (show i < k by omega) (by rfl) ?_|refine st_ldo (by rfl) (h1.shift (by assumption)) (by rfl) (by rfl) hpt (by rfl) ?_|refine Z01 ?_|refine Z02 ?_|refine Z16 ?_|refine Z17 ?_|refine Z18 ?_|refine Z20 ?_|refine Z21 ?_|refine Z22 ?_|refine Z23 ?_|refine Z58 ?_|refine Z59 ?_|refine Z71 ?_);exact Zq) ?_)|refine y_56 ?_|refine y_31 (hm (pol x (cs.drop (i + 1)))) ?_|refine y_31 had ?_|refine y_135 ?_|refine y_131 ?_|refine Zqn ?_)
  refine Zq0 ?_ (by kernel_rfl)
  repeat (first|refine y_83 ?_|refine Z81 fun _ => ?_|refine Z82 fun _ => ?_)
  refine st_round i (by omega) (by omega) ?_ (by repeat (first|apply SubW.nil|refine y_6 ?_))
  rw [show ((i : Int) - 1) = Int.ofNat i - Int.ofNat 1 from rfl]
  exact (by repeat (first|apply subL.nil|refine subL.cons (by rfl) ?_))
 ·have hp0 : ¬ (0 : Int) ≤ (j : Int) - 1 := h
  have hj0 : j = 0 := by omega
  subst hj0
  rw [List.drop_zero]
  repeat (first|refine y_83 ?_|refine Z81 fun _ => ?_|refine Z82 fun _ => ?_)
  refine Zec fun _ hw => post_of hw SubW.nil ⟨?_, rfl⟩
  rfl
theorem poly_len {cs : List F2} : ∀ v ∈ cs.map E2, v.length = 12 := fun v hv => by
 obtain ⟨c, _, rfl⟩ := List.mem_map.1 hv
 exact E2_len c
theorem oneE : D 6 1 ++ List.replicate 6 0 = E2 (Kf.K2.one : F2) := by decide +kernel
theorem y_84 {a b : Prop} (k : b) (h : Rm b → a := by intro k;refine st_build2a (by rfl) (by rfl) (by rfl) (by rfl) (by simp; done) (by rfl) ?_; rw [oneE];exact k.h) : a := h ⟨k⟩
theorem y_85 {a b : Prop} (k : b) (h : Rm b → a := by intro k;refine R.Zpn (by rfl) (by intro _ _ _;(first|refine Z81 fun _ => ?_|refine Z82 fun _ => ?_|refine Z85 fun _ => ?_);exact R.Zpx) ?_;exact k.h) : a := h ⟨k⟩
theorem side_spec {a e : Nat} (ha : a < W ^ 6) (he : e < W ^ 6) : Spec Try.prog 79 [LV .u64 (D 6 a ++ D 6 e)] NoPre [] (IsV (LV .u64 (E2 (side (k2 a e))))) := by
 refine mk_spec Try.func79 rfl rfl rfl fun w _ => ?_
 have hl0 := fun x => D_len 6 x
 have hle := fun x : F2 => E2_len x
 have hp : ∀ b, Spec Try.prog 66 [LV .u64 (D 6 a ++ D 6 e), slv b 4] (fun w => HasB w b (LV .u64 ([bc, ac, Kf.K2.zero, Kf.K2.one].map E2).flatten) 26) [] (IsV (LV .u64 (E2 (side (k2 a e))))) := fun b => poly_spec ha he b 4 [bc, ac, Kf.K2.zero, Kf.K2.one] rfl (by decide)
 generalize side (k2 a e) = r at hp
 repeat (first|(refine y_52 ?_;intro _)|refine y_53 ?_|refine Z81 fun _ => ?_|refine Z82 fun _ => ?_|refine Z85 fun _ => ?_)
 refine R.st_perm [0, 1, 2, 3, 4, 5, 6, 7, 8] (by rfl) ?_
 repeat (first|(refine R.Zpf (by rfl) (by intro _ _ _;(first|refine y_72 ?_|refine y_38 ?_|refine y_84 ?_|refine Z65 ?_);exact Zq) ?_)|refine y_148 ?_|(refine R.Zpp (by rfl) (by intro _ _ _;refine st_callV (by rfl) (by rfl) (by rfl) (bc_spec) (fun _ _ => trivial) (by rfl) ?_;exact Zq) ?_)|(refine R.Zpp (by rfl) (by intro _ _ _;refine st_callV (by rfl) (by rfl) (by rfl) (ac_spec) (fun _ _ => trivial) (by rfl) ?_;exact Zq) ?_)|(refine R.Zpp (by rfl) (by intro _ _ _;refine st_callV (by rfl) (by rfl) (by rfl) (hp _) (HasB.own (by repeat first|apply Find.here|apply Find.there)) (by rfl) ?_;exact Zq) ?_)|refine y_145 ?_|(refine R.Zpd (by rfl) (by intro _ _ _;(refine st_buildSliceM (m := 12) (kk := .u64) (vss := [bc, ac, Kf.K2.zero, Kf.K2.one].map E2) (by rfl) (by rfl) (by rfl) (by rfl) (by rfl) (by rfl) (by rfl) poly_len (by rfl) (by rfl) fun _ => ?_);exact R.Zpdx) fun _ => ?_)|(refine y_85 ?_;intro _)|refine R.Zpo (by rfl) ?_)
 refine R.Zp0 ?_
 repeat (first|refine y_53 ?_|refine Z81 fun _ => ?_|refine Z82 fun _ => ?_|refine Z85 fun _ => ?_)
 refine Zec fun _ hw => post_of hw SubW.nil ⟨?_, rfl⟩
 rfl
theorem sideE (x : F2) : Spec Try.prog 79 [LV .u64 (E2 x)] NoPre [] (IsV (LV .u64 (E2 (side x)))) := by
 have := side_spec (val_lt x.re) (val_lt x.im); rwa [k2_val] at this
def rootd (g : Nat) (x : F2) : F2 × Bool := (if Kf.K2.sgn (Kf.K2.sqrtP (side x)).1 = g then (Kf.K2.sqrtP (side x)).1 else Kf.K2.neg (Kf.K2.sqrtP (side x)).1, (Kf.K2.sqrtP (side x)).2)
theorem rootd_1 {g s : Nat} {x : F2} {r : F2 × Bool} (hr : r = Kf.K2.sqrtP (side x)) (hs : s = Kf.K2.sgn r.1) (h : s = g) : rootd g x = (r.1, r.2) := by
 subst hs
 subst hr
 rw [rootd, if_pos h]
theorem rootd_0 {g s : Nat} {x : F2} {r : F2 × Bool} (hr : r = Kf.K2.sqrtP (side x)) (hs : s = Kf.K2.sgn r.1) (h : ¬ s = g) : rootd g x = (Kf.K2.neg r.1, r.2) := by
 subst hs
 subst hr
 rw [rootd, if_neg h]
theorem y_86 {a b : Prop} (k : b) (h : Rm b → a := by intro k;(first|refine Z01 ?_|refine Z02 ?_|refine Z03 ?_|refine Z04 ?_|refine Z05 ?_|refine Z06 ?_|refine Z07 ?_|refine Z08 ?_|refine Z09 ?_|refine Z10 ?_|refine Z11 ?_|refine Z12 ?_|refine Z13 ?_|refine Z14 ?_|refine Z17 ?_|refine Z18 ?_|refine Z19 ?_|refine Z24 ?_|refine Z25 ?_|refine Z26 ?_|refine Z27 ?_|refine Z28 ?_|refine Z29 ?_|refine Z30 ?_|refine Z31 ?_|refine Z32 ?_|refine Z67 ?_);exact k.h) : a := h ⟨k⟩
set_option maxHeartbeats 4000000 in
theorem rooted_spec {a e : Nat} (ha : a < W ^ 6) (he : e < W ^ 6) (u : Nat) (x : F2) : Spec Try.prog 78 [LV .u64 (E2 x), pt u 0] (fun w => HasB w u (LV .u64 (D 6 a ++ D 6 e)) 26) [] (IsV (.tuple [LV .u64 (E2 (rootd (Kf.K2.sgn (k2 a e)) x).1), .bool (rootd (Kf.K2.sgn (k2 a e)) x).2].toArray)) := by
 refine mk_spec Try.func78 rfl rfl rfl fun w hr => ?_
 have h1 := OldB.mk0 hr
 have hl0 := fun x => D_len 6 x
 have hle := fun x : F2 => E2_len x
 have hsd := sideE x
 have hg := ssign_spec ha he
 generalize Kf.K2.sgn (k2 a e) = g at hg
 have hsq := sqrtE (side x)
 obtain ⟨r, hr⟩ : ∃ r, r = Kf.K2.sqrtP (side x) := ⟨_, rfl⟩
 rw [← hr] at hsq
 have hs1 := ssignE r.1
 obtain ⟨s, hs⟩ : ∃ s, s = Kf.K2.sgn r.1 := ⟨_, rfl⟩
 rw [← hs] at hs1
 have hR1 := rootd_1 (g := g) hr hs
 have hR0 := rootd_0 (g := g) hr hs
 clear hr hs
 generalize side x = y at hsd hsq
 obtain ⟨r1, r2⟩ := r
 simp only at hR1 hR0 hsq hs1
 have hn := snegE r1
 repeat (first|(refine y_52 ?_;intro _)|refine y_2 hsd ?_|refine y_2 hsq ?_|refine y_86 ?_|refine Z81 fun _ => ?_|refine Z82 fun _ => ?_)
 refine st_draw1 (by rfl) ?_
 repeat (first|(refine Zqf (by intro _ _ _;(first|(refine st_ldo (by rfl) ((h1).shift (by assumption)) (by rfl) (by rfl) (by first | (refine PartAt.l ?_; (simp; done)) | (refine PartAt.r ?_ ?_ <;> (simp; done)) | (refine PartAt.all ?_; (simp; done))) (by rfl) ?_)|refine Z01 ?_|refine Z02 ?_|refine Z17 ?_|refine Z18 ?_|refine Z19 ?_);exact Zq) ?_)|refine y_56 ?_|refine y_31 hs1 ?_|refine y_31 hg ?_|refine y_176 ?_)
 refine Zq0 ?_ (by kernel_rfl)
 repeat (first|refine y_86 ?_|refine Z81 fun _ => ?_|refine Z82 fun _ => ?_)
 refine st_cond (by rfl) (fun h => ?_) (fun h => ?_)
 ·rw [hR0 h]
  repeat (first|refine y_2 hn ?_|refine y_86 ?_|refine Z81 fun _ => ?_|refine Z82 fun _ => ?_)
  refine st_endc2_LV (by rfl) (by rfl) (by rfl) (by repeat first|apply Find.here|apply Find.there) (by rfl) (by rfl) (by first | with_reducible assumption | (simp [*]; done)) fun _ hw => post_of hw SubW.nil ⟨?_, rfl⟩
  rfl
 ·rw [hR1 (Classical.not_not.1 h)]
  repeat (first|refine y_86 ?_|refine Z81 fun _ => ?_|refine Z82 fun _ => ?_)
  refine st_endc2_LV (by rfl) (by rfl) (by rfl) (by repeat first|apply Find.here|apply Find.there) (by rfl) (by rfl) (by first | with_reducible assumption | (simp [*]; done)) fun _ hw => post_of hw SubW.nil ⟨?_, rfl⟩
  rfl
end Go.Proofs.Ytbpmbdlgmmabcaa.L
namespace Go.Proofs.Ytbpmbdlgmmabcaa.L
open Go Go.Proofs
set_option maxRecDepth 100000
attribute [local irreducible] Code.wp wpList Af bodyPost L.Go
open Num
attribute [local simp] D_len
def wz (u : F2) : F2 := Kf.K2.mul zc (Kf.K2.mul u u)
def tz (w : F2) : F2 := Kf.K2.add (Kf.K2.mul w w) w
def xone (w : F2) : F2 := if tz w = Kf.K2.zero then Kf.K2.mul bc (Kf.K2.inv (Kf.K2.mul zc ac)) else Kf.K2.mul (Kf.K2.neg (Kf.K2.mul bc (Kf.K2.inv ac))) (Kf.K2.add Kf.K2.one (Kf.K2.inv (tz w)))
theorem xone_1 {w t : F2} (ht : t = tz w) (h : t = Kf.K2.zero) : xone w = Kf.K2.mul bc (Kf.K2.inv (Kf.K2.mul zc ac)) := by
 subst ht
 exact if_pos h
theorem xone_0 {w t : F2} (ht : t = tz w) (h : ¬ t = Kf.K2.zero) : xone w = Kf.K2.mul (Kf.K2.neg (Kf.K2.mul bc (Kf.K2.inv ac))) (Kf.K2.add Kf.K2.one (Kf.K2.inv t)) := by
 subst ht
 exact if_neg h
def mapP (u : F2) : F2 × F2 :=
 if (rootd (Kf.K2.sgn u) (xone (wz u))).2 = true then (xone (wz u), (rootd (Kf.K2.sgn u) (xone (wz u))).1)
 else (Kf.K2.mul (wz u) (xone (wz u)), (rootd (Kf.K2.sgn u) (Kf.K2.mul (wz u) (xone (wz u)))).1)
theorem mapP_1 {u w x : F2} {r : F2 × Bool} (hw : w = wz u) (hx : x = xone w) (hr : r = rootd (Kf.K2.sgn u) x) (h : r.2 = true) : mapP u = (x, r.1) := by
 subst hw
 subst hx
 subst hr
 rw [mapP, if_pos h]
theorem mapP_0 {u w x : F2} {r s : F2 × Bool} (hw : w = wz u) (hx : x = xone w) (hr : r = rootd (Kf.K2.sgn u) x) (h : r.2 = false) (hs : s = rootd (Kf.K2.sgn u) (Kf.K2.mul w x)) : mapP u = (Kf.K2.mul w x, s.1) := by
 subst hw
 subst hx
 subst hr
 subst hs
 rw [mapP, if_neg (by rw [h]; decide)]
theorem y_87 {a b : Prop} (k : b) (h : Rm b → a := by intro k;(first|refine Z01 ?_|refine Z02 ?_|refine Z03 ?_|refine Z04 ?_|refine Z05 ?_|refine Z06 ?_|refine Z07 ?_|refine Z08 ?_|refine Z09 ?_|refine Z10 ?_|refine Z11 ?_|refine Z12 ?_|refine Z13 ?_|refine Z14 ?_|refine Z19 ?_|refine Z24 ?_|refine Z25 ?_|refine Z26 ?_|refine Z27 ?_|refine Z28 ?_|refine Z29 ?_|refine Z30 ?_|refine Z31 ?_|refine Z32 ?_|refine Z48 ?_|refine Z65 ?_|refine Z67 ?_|refine Z77 ?_|refine Z78 ?_|refine Z79 ?_);exact k.h) : a := h ⟨k⟩
theorem y_88 {a b : Prop} (k : b) (h : Rm b → a := by intro k;refine R.Zpb (by rfl) (by intro _ _ _;refine st_alloc (v := LV .u64 (List.replicate 12 0)) (by rfl) (by rfl) fun _ => ?_;exact R.Zpbx) ?_;exact k.h) : a := h ⟨k⟩
theorem y_89 {a b : Prop} (k : b) (h : Rm b → a := by intro k;refine st_callV (by rfl) (by rfl) (by rfl) (bc_spec) (fun _ _ => trivial) (by rfl) ?_;exact k.h) : a := h ⟨k⟩
theorem y_90 {a b : Prop} (k : b) (h : Rm b → a := by intro k;refine st_callV (by rfl) (by rfl) (by rfl) (ac_spec) (fun _ _ => trivial) (by rfl) ?_;exact k.h) : a := h ⟨k⟩
theorem y_91 {S1 a b : Prop} (s1 : S1) (k : b) (h : S1 → Rm b → a := by intro s1 k;refine st_eq2v (hr := s1) (by rfl) (by rfl) (by rfl) (by kernel_rfl) (by rfl) (by rfl) (by rfl) (by rfl) (by rfl) (by rfl) (by rfl) (by rfl) (by rfl) (by rfl) (by kernel_rfl) (by simp; done) (by simp; done) (by simp; done) (by simp; done) (by rfl) ?_;exact k.h) : a := h s1 ⟨k⟩
theorem y_157 {a b : Prop} (k : b) (h : Rm b → a := by intro k;(first|refine y_82 ?_|refine y_65 ?_|refine y_66 ?_|refine Z01 ?_|refine Z02 ?_|refine Z19 ?_|refine Z48 ?_|refine Z65 ?_|refine Z77 ?_|refine Z78 ?_|refine Z79 ?_);exact k.h) : a := h ⟨k⟩
theorem y_158 {a b : Prop} (k : b) (h : Rm b → a := by intro k;(first|refine y_89 ?_|refine y_90 ?_|refine st_callV (by rfl) (by rfl) (by rfl) (zc_spec) (fun _ _ => trivial) (by rfl) ?_);exact k.h) : a := h ⟨k⟩
set_option maxHeartbeats 8000000 in
theorem map_spec {a e : Nat} (ha : a < W ^ 6) (he : e < W ^ 6) : Spec Try.prog 35 [LV .u64 (D 6 a ++ D 6 e)] NoPre [] (IsV (.tuple [LV .u64 (E2 (mapP (k2 a e)).1), LV .u64 (E2 (mapP (k2 a e)).2)].toArray)) := by
 refine mk_spec Try.func35 rfl rfl rfl fun w _ => ?_
 have hl0 := fun x => D_len 6 x
 have hle := fun x : F2 => E2_len x
 have hm1 := smul_spec ha he ha he
 obtain ⟨u, hu⟩ : ∃ u : F2, u = k2 a e := ⟨_, rfl⟩
 have hug : Kf.K2.sgn (k2 a e) = Kf.K2.sgn u := by rw [hu]
 obtain ⟨g, hg⟩ : ∃ g, g = Kf.K2.sgn u := ⟨_, rfl⟩
 have hgu := hg
 rw [← hg] at hug
 rw [← hu] at hm1 ⊢
 clear hu hg
 have hm2 := smulE zc (Kf.K2.mul u u)
 generalize hq : Kf.K2.mul u u = q at hm1 hm2
 obtain ⟨w1, hw1⟩ : ∃ w1 : F2, w1 = Kf.K2.mul zc q := ⟨_, rfl⟩
 rw [← hw1] at hm2
 have hw : w1 = wz u := by rw [hw1, ← hq]; rfl
 clear hw1 hq
 have hww := smulE w1 w1
 have hwt := saddE (Kf.K2.mul w1 w1) w1
 generalize hv : Kf.K2.mul w1 w1 = v at hww hwt
 obtain ⟨t, ht1⟩ : ∃ t : F2, t = Kf.K2.add v w1 := ⟨_, rfl⟩
 rw [← ht1] at hwt
 have ht : t = tz w1 := by rw [ht1, ← hv]; rfl
 clear ht1 hv
 have hia := sinvE ac
 have hba := smulE bc (Kf.K2.inv ac)
 have hnb := snegE (Kf.K2.mul bc (Kf.K2.inv ac))
 have hX1 := xone_1 ht
 have hX0 := xone_0 ht
 generalize Kf.K2.neg (Kf.K2.mul bc (Kf.K2.inv ac)) = c0 at hnb hX0
 generalize Kf.K2.mul bc (Kf.K2.inv ac) = c1 at hba hnb
 generalize Kf.K2.inv ac = c2 at hia hba
 clear ht
 repeat (first|(refine y_52 ?_;intro _)|refine y_87 ?_|refine Z81 fun _ => ?_|refine Z82 fun _ => ?_)
 refine R.st_perm [0, 1, 2, 3, 4, 5, 6] (by rfl) ?_
 repeat (first|(refine R.Zpf (by rfl) (by intro _ _ _;(first|refine y_157 ?_);exact Zq) ?_)|refine y_148 ?_|refine y_58 ?_|(refine R.Zpp (by rfl) (by intro _ _ _;refine st_callV (by rfl) (by rfl) (by rfl) (zc_spec) (fun _ _ => trivial) (by rfl) ?_;exact Zq) ?_)|refine y_59 hm1 ?_|refine y_59 hm2 ?_|refine y_145 ?_|(refine y_88 ?_;intro _)|(refine y_50 ?_;intro _)|refine R.Zpo (by rfl) ?_)
 refine R.Zp0 ?_
 repeat (first|refine y_87 ?_|refine Z81 fun _ => ?_|refine Z82 fun _ => ?_)
 refine R.st_perm [0, 1, 2, 3, 4, 5, 6] (by rfl) ?_
 repeat (first|(refine R.Zpf (by rfl) (by intro _ _ _;(first|refine y_157 ?_);exact Zq) ?_)|refine y_148 ?_|refine y_58 ?_|refine y_59 hww ?_|refine y_59 hwt ?_|refine y_145 ?_|(refine y_88 ?_;intro _)|(refine y_50 ?_;intro _)|refine R.Zpo (by rfl) ?_)
 refine R.Zp0 ?_
 repeat (first|(refine y_52 ?_;intro _)|refine y_89 ?_|refine y_90 ?_|refine y_2 hia ?_|refine y_2 hba ?_|refine y_2 hnb ?_|refine y_72 ?_|refine y_91 (E2_iff t Kf.K2.zero) ?_|refine y_87 ?_|refine Z81 fun _ => ?_|refine Z82 fun _ => ?_)
 refine st_cond (by rfl) (fun h => ?_) (fun h => ?_)
 ·have hza := smulE zc ac
  have hzi := sinvE (Kf.K2.mul zc ac)
  have hzb := smulE bc (Kf.K2.inv (Kf.K2.mul zc ac))
  obtain ⟨x1, hxx⟩ : ∃ x1 : F2, x1 = Kf.K2.mul bc (Kf.K2.inv (Kf.K2.mul zc ac)) := ⟨_, rfl⟩
  have hx1 : x1 = xone w1 := hxx.trans (hX1 h).symm
  rw [← hxx] at hzb
  generalize Kf.K2.inv (Kf.K2.mul zc ac) = d1 at hzi hzb
  generalize Kf.K2.mul zc ac = d2 at hza hzi
  clear hxx hX1 hX0
  have hr1 := fun u => rooted_spec ha he u x1
  rw [hug] at hr1
  obtain ⟨r, hr⟩ : ∃ r, r = rootd g x1 := ⟨_, rfl⟩
  rw [← hr] at hr1
  have hm3 := smulE w1 x1
  obtain ⟨x2, hx2⟩ : ∃ x2 : F2, x2 = Kf.K2.mul w1 x1 := ⟨_, rfl⟩
  rw [← hx2] at hm3
  have hr2 := fun u => rooted_spec ha he u x2
  rw [hug] at hr2
  obtain ⟨s, hs⟩ : ∃ s, s = rootd g x2 := ⟨_, rfl⟩
  rw [← hs] at hr2
  have hM1 := fun h => mapP_1 hw hx1 (hr.trans (by rw [hgu])) h
  have hM0 := fun h => mapP_0 hw hx1 (hr.trans (by rw [hgu])) h (hs.trans (by rw [hgu, hx2]))
  rw [← hx2] at hM0
  clear hr hx2 hs hw hx1 hug hgu
  obtain ⟨r1, r2⟩ := r
  obtain ⟨s1, s2⟩ := s
  simp only at hM1 hM0 hr1 hr2
  cases r2 with
  | true =>
   rw [hM1 rfl]
   clear hM1 hM0
   repeat (first|refine y_158 ?_|refine y_2 hza ?_|refine y_2 hzi ?_|refine y_2 hzb ?_|refine y_87 ?_|refine Z81 fun _ => ?_|refine Z82 fun _ => ?_)
   repeat (first|(refine y_52 ?_;intro _)|refine y_73 (hr1 _) ?_|refine y_87 ?_|refine Z81 fun _ => ?_|refine Z82 fun _ => ?_)
   refine R.st_perm [0, 1, 2, 3] (by rfl) ?_
   refine R.Zpp (by rfl) (by intro _ _ _;(first|refine y_37 ?_);exact Zq) ?_
   refine R.Zpls [2, 3] [1, 3] (by rfl) (by rfl) (by intro _ _ _;(first|refine y_37 ?_);exact Zq) (by intro _ _ _;(first|refine y_8 ?_);exact Zqq) ?_ ?_
   case' refine_1 => refine R.Zps (by rfl) (by intro _ _ _;(first|refine y_8 ?_);exact Zqq) ?_
   case' refine_2 => refine R.Zple (by rfl) (by intro _ _ _;(first|refine y_37 ?_);exact Zq) ?_
   all_goals refine R.Zps (by rfl) (by intro _ _ _;(first|refine y_8 ?_);exact Zqq) ?_
   all_goals refine R.Zp0 ?_
   all_goals
    repeat (first|refine y_87 ?_|refine Z81 fun _ => ?_|refine Z82 fun _ => ?_)
    refine st_endc2c_LV (by rfl) (by rfl) (by rfl) (by repeat first|apply Find.here|apply Find.there) (by repeat first|apply Find.here|apply Find.there) (by rfl) (by rfl) (by first | with_reducible assumption | (simp [*]; done)) (by rfl) (by rfl) (by first | with_reducible assumption | (simp [*]; done)) fun _ hw => post_of hw SubW.nil ⟨?_, rfl⟩
    rfl
  | false =>
   rw [hM0 rfl]
   clear hM1 hM0
   repeat (first|refine y_158 ?_|refine y_2 hza ?_|refine y_2 hzi ?_|refine y_2 hzb ?_|refine y_87 ?_|refine Z81 fun _ => ?_|refine Z82 fun _ => ?_)
   repeat (first|(refine y_52 ?_;intro _)|refine y_73 (hr1 _) ?_|refine y_2 hm3 ?_|refine y_73 (hr2 _) ?_|refine y_87 ?_|refine Z81 fun _ => ?_|refine Z82 fun _ => ?_)
   refine R.st_perm [0, 1, 2, 3] (by rfl) ?_
   refine R.Zpp (by rfl) (by intro _ _ _;(first|refine y_37 ?_);exact Zq) ?_
   refine R.Zpls [2, 3] [1, 3] (by rfl) (by rfl) (by intro _ _ _;(first|refine y_37 ?_);exact Zq) (by intro _ _ _;(first|refine y_8 ?_);exact Zqq) ?_ ?_
   case' refine_1 => refine R.Zps (by rfl) (by intro _ _ _;(first|refine y_8 ?_);exact Zqq) ?_
   case' refine_2 => refine R.Zple (by rfl) (by intro _ _ _;(first|refine y_37 ?_);exact Zq) ?_
   all_goals refine R.Zps (by rfl) (by intro _ _ _;(first|refine y_8 ?_);exact Zqq) ?_
   all_goals refine R.Zp0 ?_
   all_goals
    repeat (first|refine y_87 ?_|refine Z81 fun _ => ?_|refine Z82 fun _ => ?_)
    refine st_endc2c_LV (by rfl) (by rfl) (by rfl) (by repeat first|apply Find.here|apply Find.there) (by repeat first|apply Find.here|apply Find.there) (by rfl) (by rfl) (by first | with_reducible assumption | (simp [*]; done)) (by rfl) (by rfl) (by first | with_reducible assumption | (simp [*]; done)) fun _ hw => post_of hw SubW.nil ⟨?_, rfl⟩
    rfl
 ·have hit := sinvE t
  have hio := saddE Kf.K2.one (Kf.K2.inv t)
  have him := smulE c0 (Kf.K2.add Kf.K2.one (Kf.K2.inv t))
  obtain ⟨x1, hxx⟩ : ∃ x1 : F2, x1 = Kf.K2.mul c0 (Kf.K2.add Kf.K2.one (Kf.K2.inv t)) := ⟨_, rfl⟩
  have hx1 : x1 = xone w1 := hxx.trans (hX0 h).symm
  rw [← hxx] at him
  generalize Kf.K2.add Kf.K2.one (Kf.K2.inv t) = d1 at hio him
  generalize Kf.K2.inv t = d2 at hit hio
  clear hxx hX1 hX0
  repeat (first|refine y_87 ?_|refine Z81 fun _ => ?_|refine Z82 fun _ => ?_)
  refine st_draw1 (by rfl) ?_
  repeat (first|(refine Zqf (by intro _ _ _;(first|refine y_38 ?_|refine y_84 ?_|refine y_82 ?_|refine y_65 ?_|refine y_66 ?_|refine Z01 ?_|refine Z02 ?_|refine Z19 ?_|refine Z48 ?_|refine Z65 ?_|refine Z77 ?_|refine Z78 ?_|refine Z79 ?_);exact Zq) ?_)|refine y_56 ?_|refine y_31 hit ?_|refine y_31 hio ?_|refine y_31 him ?_|refine y_176 ?_)
  refine Zq0 ?_ (by kernel_rfl)
  have hr1 := fun u => rooted_spec ha he u x1
  rw [hug] at hr1
  obtain ⟨r, hr⟩ : ∃ r, r = rootd g x1 := ⟨_, rfl⟩
  rw [← hr] at hr1
  have hm3 := smulE w1 x1
  obtain ⟨x2, hx2⟩ : ∃ x2 : F2, x2 = Kf.K2.mul w1 x1 := ⟨_, rfl⟩
  rw [← hx2] at hm3
  have hr2 := fun u => rooted_spec ha he u x2
  rw [hug] at hr2
  obtain ⟨s, hs⟩ : ∃ s, s = rootd g x2 := ⟨_, rfl⟩
  rw [← hs] at hr2
  have hM1 := fun h => mapP_1 hw hx1 (hr.trans (by rw [hgu])) h
  have hM0 := fun h => mapP_0 hw hx1 (hr.trans (by rw [hgu])) h (hs.trans (by rw [hgu, hx2]))
  rw [← hx2] at hM0
  clear hr hx2 hs hw hx1 hug hgu
  obtain ⟨r1, r2⟩ := r
  obtain ⟨s1, s2⟩ := s
  simp only at hM1 hM0 hr1 hr2
  cases r2 with
  | true =>
   rw [hM1 rfl]
   clear hM1 hM0
   repeat (first|refine y_87 ?_|refine Z81 fun _ => ?_|refine Z82 fun _ => ?_)
   repeat (first|(refine y_52 ?_;intro _)|refine y_73 (hr1 _) ?_|refine y_87 ?_|refine Z81 fun _ => ?_|refine Z82 fun _ => ?_)
   refine R.st_perm [0, 1, 2, 3] (by rfl) ?_
   refine R.Zpp (by rfl) (by intro _ _ _;(first|refine y_37 ?_);exact Zq) ?_
   refine R.Zpls [2, 3] [1, 3] (by rfl) (by rfl) (by intro _ _ _;(first|refine y_37 ?_);exact Zq) (by intro _ _ _;(first|refine y_8 ?_);exact Zqq) ?_ ?_
   case' refine_1 => refine R.Zps (by rfl) (by intro _ _ _;(first|refine y_8 ?_);exact Zqq) ?_
   case' refine_2 => refine R.Zple (by rfl) (by intro _ _ _;(first|refine y_37 ?_);exact Zq) ?_
   all_goals refine R.Zps (by rfl) (by intro _ _ _;(first|refine y_8 ?_);exact Zqq) ?_
   all_goals refine R.Zp0 ?_
   all_goals
    repeat (first|refine y_87 ?_|refine Z81 fun _ => ?_|refine Z82 fun _ => ?_)
    refine st_endc2c_LV (by rfl) (by rfl) (by rfl) (by repeat first|apply Find.here|apply Find.there) (by repeat first|apply Find.here|apply Find.there) (by rfl) (by rfl) (by first | with_reducible assumption | (simp [*]; done)) (by rfl) (by rfl) (by first | with_reducible assumption | (simp [*]; done)) fun _ hw => post_of hw SubW.nil ⟨?_, rfl⟩
    rfl
  | false =>
   rw [hM0 rfl]
   clear hM1 hM0
   repeat (first|refine y_87 ?_|refine Z81 fun _ => ?_|refine Z82 fun _ => ?_)
   repeat (first|(refine y_52 ?_;intro _)|refine y_73 (hr1 _) ?_|refine y_2 hm3 ?_|refine y_73 (hr2 _) ?_|refine y_87 ?_|refine Z81 fun _ => ?_|refine Z82 fun _ => ?_)
   refine R.st_perm [0, 1, 2, 3] (by rfl) ?_
   refine R.Zpp (by rfl) (by intro _ _ _;(first|refine y_37 ?_);exact Zq) ?_
   refine R.Zpls [2, 3] [1, 3] (by rfl) (by rfl) (by intro _ _ _;(first|refine y_37 ?_);exact Zq) (by intro _ _ _;(first|refine y_8 ?_);exact Zqq) ?_ ?_
   case' refine_1 => refine R.Zps (by rfl) (by intro _ _ _;(first|refine y_8 ?_);exact Zqq) ?_
   case' refine_2 => refine R.Zple (by rfl) (by intro _ _ _;(first|refine y_37 ?_);exact Zq) ?_
   all_goals refine R.Zps (by rfl) (by intro _ _ _;(first|refine y_8 ?_);exact Zqq) ?_
   all_goals refine R.Zp0 ?_
   all_goals
    repeat (first|refine y_87 ?_|refine Z81 fun _ => ?_|refine Z82 fun _ => ?_)
    refine st_endc2c_LV (by rfl) (by rfl) (by rfl) (by repeat first|apply Find.here|apply Find.there) (by repeat first|apply Find.here|apply Find.there) (by rfl) (by rfl) (by first | with_reducible assumption | (simp [*]; done)) (by rfl) (by rfl) (by first | with_reducible assumption | (simp [*]; done)) fun _ hw => post_of hw SubW.nil ⟨?_, rfl⟩
    rfl
end Go.Proofs.Ytbpmbdlgmmabcaa.L
namespace Go.Proofs.Ytbpmbdlgmmabcaa.L
open Go Go.Proofs
set_option maxRecDepth 100000
attribute [local irreducible] Code.wp wpList Af bodyPost L.Go
open Num
attribute [local simp] D_len
def c10 : F2 := k2 889424345604814976315064405719089812568196182208668418962679585805340366775741747653930584250892369786198727235542 889424345604814976315064405719089812568196182208668418962679585805340366775741747653930584250892369786198727235542
theorem c10E : ([7077594464397203414, 6640057249351452444, 9850925049107374429, 3658379999393219626, 13500519111022079365, 416399692810564414] ++ List.replicate (6 - [7077594464397203414, 6640057249351452444, 9850925049107374429, 3658379999393219626, 13500519111022079365, 416399692810564414].length) 0) ++ ([7077594464397203414, 6640057249351452444, 9850925049107374429, 3658379999393219626, 13500519111022079365, 416399692810564414] ++ List.replicate (6 - [7077594464397203414, 6640057249351452444, 9850925049107374429, 3658379999393219626, 13500519111022079365, 416399692810564414].length) 0) = E2 c10 := by decide +kernel
def c11 : F2 := k2 0 2668273036814444928945193217157269437704588546626005256888038757416021100327225242961791752752677109358596181706522
theorem c11E : ([0, 0, 0, 0, 0, 0] ++ List.replicate (6 - [0, 0, 0, 0, 0, 0].length) 0) ++ ([2786039319482058522, 1473427674344805717, 11106031073612571672, 10975139998179658879, 3608069185647134863, 1249199078431693244] ++ List.replicate (6 - [2786039319482058522, 1473427674344805717, 11106031073612571672, 10975139998179658879, 3608069185647134863, 1249199078431693244].length) 0) = E2 c11 := by decide +kernel
def c12 : F2 := k2 2668273036814444928945193217157269437704588546626005256888038757416021100327225242961791752752677109358596181706526 1334136518407222464472596608578634718852294273313002628444019378708010550163612621480895876376338554679298090853261
theorem c12E : ([2786039319482058526, 1473427674344805717, 11106031073612571672, 10975139998179658879, 3608069185647134863, 1249199078431693244] ++ List.replicate (6 - [2786039319482058526, 1473427674344805717, 11106031073612571672, 10975139998179658879, 3608069185647134863, 1249199078431693244].length) 0) ++ ([10616391696595805069, 736713837172402858, 14776387573661061644, 14710942035944605247, 1804034592823567431, 624599539215846622] ++ List.replicate (6 - [10616391696595805069, 736713837172402858, 14776387573661061644, 14710942035944605247, 1804034592823567431, 624599539215846622].length) 0) = E2 c12 := by decide +kernel
def c13 : F2 := k2 3557697382419259905260257622876359250272784728834673675850718343221361467102966990615722337003569479144794908942033 0
theorem c13E : ([9863633783879261905, 8113484923696258161, 2510212049010394485, 14633519997572878506, 17108588296669214228, 1665598771242257658] ++ List.replicate (6 - [9863633783879261905, 8113484923696258161, 2510212049010394485, 14633519997572878506, 17108588296669214228, 1665598771242257658].length) 0) ++ ([0, 0, 0, 0, 0, 0] ++ List.replicate (6 - [0, 0, 0, 0, 0, 0].length) 0) = E2 c13 := by decide +kernel
def c20 : F2 := k2 0 4002409555221667393417789825735904156556882819939007885332058136124031650490837864442687629129015664037894272559715
theorem c20E : ([0, 0, 0, 0, 0, 0] ++ List.replicate (6 - [0, 0, 0, 0, 0, 0].length) 0) ++ ([13402431016077863523, 2210141511517208575, 7435674573564081700, 7239337960414712511, 5412103778470702295, 1873798617647539866] ++ List.replicate (6 - [13402431016077863523, 2210141511517208575, 7435674573564081700, 7239337960414712511, 5412103778470702295, 1873798617647539866].length) 0) = E2 c20 := by decide +kernel
def c21 : F2 := k2 12 4002409555221667393417789825735904156556882819939007885332058136124031650490837864442687629129015664037894272559775
theorem c21E : ([12, 0, 0, 0, 0, 0] ++ List.replicate (6 - [12, 0, 0, 0, 0, 0].length) 0) ++ ([13402431016077863583, 2210141511517208575, 7435674573564081700, 7239337960414712511, 5412103778470702295, 1873798617647539866] ++ List.replicate (6 - [13402431016077863583, 2210141511517208575, 7435674573564081700, 7239337960414712511, 5412103778470702295, 1873798617647539866].length) 0) = E2 c21 := by decide +kernel
def c22 : F2 := k2 1 0
theorem c22E : ([1, 0, 0, 0, 0, 0] ++ List.replicate (6 - [1, 0, 0, 0, 0, 0].length) 0) ++ ([0, 0, 0, 0, 0, 0] ++ List.replicate (6 - [0, 0, 0, 0, 0, 0].length) 0) = E2 c22 := by decide +kernel
def c30 : F2 := k2 3261222600550988246488569487636662646083386001431784202863158481286248011511053074731078808919938689216061999863558 3261222600550988246488569487636662646083386001431784202863158481286248011511053074731078808919938689216061999863558
theorem c30E : ([1355520937843676934, 18197961889718808424, 17673314439684154624, 1116230615302104219, 6459500568425337235, 1526798873638736187] ++ List.replicate (6 - [1355520937843676934, 18197961889718808424, 17673314439684154624, 1116230615302104219, 6459500568425337235, 1526798873638736187].length) 0) ++ ([1355520937843676934, 18197961889718808424, 17673314439684154624, 1116230615302104219, 6459500568425337235, 1526798873638736187] ++ List.replicate (6 - [1355520937843676934, 18197961889718808424, 17673314439684154624, 1116230615302104219, 6459500568425337235, 1526798873638736187].length) 0) = E2 c30 := by decide +kernel
def c31 : F2 := k2 0 889424345604814976315064405719089812568196182208668418962679585805340366775741747653930584250892369786198727235518
theorem c31E : ([0, 0, 0, 0, 0, 0] ++ List.replicate (6 - [0, 0, 0, 0, 0, 0].length) 0) ++ ([7077594464397203390, 6640057249351452444, 9850925049107374429, 3658379999393219626, 13500519111022079365, 416399692810564414] ++ List.replicate (6 - [7077594464397203390, 6640057249351452444, 9850925049107374429, 3658379999393219626, 13500519111022079365, 416399692810564414].length) 0) = E2 c31 := by decide +kernel
def c32 : F2 := k2 2668273036814444928945193217157269437704588546626005256888038757416021100327225242961791752752677109358596181706524 1334136518407222464472596608578634718852294273313002628444019378708010550163612621480895876376338554679298090853263
theorem c32E : ([2786039319482058524, 1473427674344805717, 11106031073612571672, 10975139998179658879, 3608069185647134863, 1249199078431693244] ++ List.replicate (6 - [2786039319482058524, 1473427674344805717, 11106031073612571672, 10975139998179658879, 3608069185647134863, 1249199078431693244].length) 0) ++ ([10616391696595805071, 736713837172402858, 14776387573661061644, 14710942035944605247, 1804034592823567431, 624599539215846622] ++ List.replicate (6 - [10616391696595805071, 736713837172402858, 14776387573661061644, 14710942035944605247, 1804034592823567431, 624599539215846622].length) 0) = E2 c32 := by decide +kernel
def c33 : F2 := k2 2816510427748580758331037284777117739799287910327449993381818688383577828123182200904113516794492504322962636245776 0
theorem c33E : ([16263467779354626832, 5654561228188306393, 12747851915130467410, 8510412652460270214, 18155985086623849168, 1318599027233453979] ++ List.replicate (6 - [16263467779354626832, 5654561228188306393, 12747851915130467410, 8510412652460270214, 18155985086623849168, 1318599027233453979].length) 0) ++ ([0, 0, 0, 0, 0, 0] ++ List.replicate (6 - [0, 0, 0, 0, 0, 0].length) 0) = E2 c33 := by decide +kernel
def c40 : F2 := k2 4002409555221667393417789825735904156556882819939007885332058136124031650490837864442687629129015664037894272559355 4002409555221667393417789825735904156556882819939007885332058136124031650490837864442687629129015664037894272559355
theorem c40E : ([13402431016077863163, 2210141511517208575, 7435674573564081700, 7239337960414712511, 5412103778470702295, 1873798617647539866] ++ List.replicate (6 - [13402431016077863163, 2210141511517208575, 7435674573564081700, 7239337960414712511, 5412103778470702295, 1873798617647539866].length) 0) ++ ([13402431016077863163, 2210141511517208575, 7435674573564081700, 7239337960414712511, 5412103778470702295, 1873798617647539866] ++ List.replicate (6 - [13402431016077863163, 2210141511517208575, 7435674573564081700, 7239337960414712511, 5412103778470702295, 1873798617647539866].length) 0) = E2 c40 := by decide +kernel
def c41 : F2 := k2 0 4002409555221667393417789825735904156556882819939007885332058136124031650490837864442687629129015664037894272559571
theorem c41E : ([0, 0, 0, 0, 0, 0] ++ List.replicate (6 - [0, 0, 0, 0, 0, 0].length) 0) ++ ([13402431016077863379, 2210141511517208575, 7435674573564081700, 7239337960414712511, 5412103778470702295, 1873798617647539866] ++ List.replicate (6 - [13402431016077863379, 2210141511517208575, 7435674573564081700, 7239337960414712511, 5412103778470702295, 1873798617647539866].length) 0) = E2 c41 := by decide +kernel
def c42 : F2 := k2 18 4002409555221667393417789825735904156556882819939007885332058136124031650490837864442687629129015664037894272559769
theorem c42E : ([18, 0, 0, 0, 0, 0] ++ List.replicate (6 - [18, 0, 0, 0, 0, 0].length) 0) ++ ([13402431016077863577, 2210141511517208575, 7435674573564081700, 7239337960414712511, 5412103778470702295, 1873798617647539866] ++ List.replicate (6 - [13402431016077863577, 2210141511517208575, 7435674573564081700, 7239337960414712511, 5412103778470702295, 1873798617647539866].length) 0) = E2 c42 := by decide +kernel
def Q1 : List F2 := [c10, c11, c12, c13]
def Q2 : List F2 := [c20, c21, c22]
def Q3 : List F2 := [c30, c31, c32, c33]
def Q4 : List F2 := [c40, c41, c42, c22]
abbrev GE (x y : F2) (i : Bool) : Value := GL (E2 x ++ E2 y) i
theorem zero24 : (List.replicate 24 0 : List Nat) = E2 (Kf.K2.zero : F2) ++ E2 (Kf.K2.zero : F2) := by decide +kernel
theorem zero24' : (List.replicate (12 + 12) 0 : List Nat) = E2 (Kf.K2.zero : F2) ++ E2 (Kf.K2.zero : F2) := by decide +kernel
def isoP (x y : F2) : F2 × F2 × Bool :=
 if pol x Q2 = Kf.K2.zero ∨ pol x Q4 = Kf.K2.zero then (Kf.K2.zero, Kf.K2.zero, true)
 else (Kf.K2.mul (pol x Q1) (Kf.K2.inv (pol x Q2)), Kf.K2.mul y (Kf.K2.mul (pol x Q3) (Kf.K2.inv (pol x Q4))), false)
theorem isoP_1 {x y q2 q4 : F2} (h2 : q2 = pol x Q2) (h4 : q4 = pol x Q4) (h : q2 = Kf.K2.zero ∨ q4 = Kf.K2.zero) : isoP x y = (Kf.K2.zero, Kf.K2.zero, true) := by
 subst h2
 subst h4
 exact if_pos h
theorem isoP_0 {x y q1 q2 q3 q4 : F2} (h1 : q1 = pol x Q1) (h2 : q2 = pol x Q2) (h3 : q3 = pol x Q3) (h4 : q4 = pol x Q4) (n2 : ¬ q2 = Kf.K2.zero) (n4 : ¬ q4 = Kf.K2.zero) : isoP x y = (Kf.K2.mul q1 (Kf.K2.inv q2), Kf.K2.mul y (Kf.K2.mul q3 (Kf.K2.inv q4)), false) := by
 subst h1
 subst h2
 subst h3
 subst h4
 exact if_neg fun h => h.elim n2 n4
theorem smulY {a b : Nat} (ha : a < W ^ 6) (hb : b < W ^ 6) (x : F2) : Spec Try.prog 18 [LV .u64 (D 6 a ++ D 6 b), LV .u64 (E2 x)] NoPre [] (IsV (LV .u64 (E2 (Kf.K2.mul (k2 a b) x)))) := by
 have := smul_spec ha hb (val_lt x.re) (val_lt x.im); rwa [k2_val] at this
theorem y_92 {a b : Prop} (k : b) (h : Rm b → a := by intro k;refine st_alloc (E := 38) (v := GL (List.replicate 24 0) false) (by kernel_rfl) (by rfl) ?_;exact k.h) : a := h ⟨k⟩
theorem y_93 {a b : Prop} (k : b) (h : Rm b → a := by intro k;refine st_buildC (m := 6) (kk := .u64) (by rfl) (by rfl) (by rfl) (by rfl) (by rfl) (by rfl) (by rfl) (by rfl) ?_;exact k.h) : a := h ⟨k⟩
theorem y_94 {a b : Prop} (k : b) (h : Rm b → a := by intro k;(first|refine Z01 ?_|refine Z03 ?_|refine Z04 ?_|refine Z05 ?_|refine Z06 ?_|refine Z07 ?_|refine Z08 ?_|refine Z09 ?_|refine Z10 ?_|refine Z11 ?_|refine Z12 ?_|refine Z13 ?_|refine Z14 ?_|refine Z24 ?_|refine Z25 ?_|refine Z26 ?_|refine Z27 ?_|refine Z28 ?_|refine Z29 ?_|refine Z30 ?_|refine Z31 ?_|refine Z32 ?_|refine Z49 ?_|refine Z50 ?_|refine Z51 ?_|refine Z52 ?_|refine Z53 ?_|refine Z65 ?_|refine Z67 ?_|refine Z77 ?_|refine Z78 ?_|refine Z79 ?_);exact k.h) : a := h ⟨k⟩
theorem y_95 {a b : Prop} (k : b) (h : Rm b → a := by intro k;refine st_buildGi (m := 12) (by rfl) (by rfl) (by kernel_rfl) (by rfl) (by rfl) ?_; rw [zero24'];exact k.h) : a := h ⟨k⟩
theorem y_96 {a b : Prop} (k : b) (h : Rm b → a := by intro k;refine st_store_GL (m := 24) (by rfl) (by rfl) (by repeat first|apply Find.here|apply Find.there) (by rfl) (by first|with_reducible assumption|simp) (by first|with_reducible assumption|simp) ?_;exact k.h) : a := h ⟨k⟩
theorem y_97 {a b : Prop} (k : b) (h : Rm b → a := by intro k;refine st_buildG (m := 12) (by rfl) (by rfl) (by kernel_rfl) (by rfl) (by simp; done) (by simp; done) (by rfl) ?_;exact k.h) : a := h ⟨k⟩
theorem y_98 {a b : Prop} (k : b) (h : Rm b → a := by intro k;refine R.Zps (by rfl) (by intro _ _ _;refine st_store_GL (m := 24) (by rfl) (by rfl) (by repeat first|apply Find.here|apply Find.there) (by rfl) (by first|with_reducible assumption|simp) (by first|with_reducible assumption|simp) ?_;exact Zqq) ?_;exact k.h) : a := h ⟨k⟩
theorem y_159 {a b : Prop} (k : b) (h : Rm b → a := by intro k;(first|refine y_95 ?_|refine y_96 ?_|refine Z01 ?_|refine Z03 ?_|refine Z04 ?_|refine Z05 ?_|refine Z06 ?_|refine Z07 ?_|refine Z08 ?_|refine Z09 ?_|refine Z10 ?_|refine Z11 ?_|refine Z12 ?_|refine Z13 ?_|refine Z14 ?_|refine Z24 ?_|refine Z25 ?_|refine Z26 ?_|refine Z27 ?_|refine Z28 ?_|refine Z29 ?_|refine Z30 ?_|refine Z31 ?_|refine Z32 ?_|refine Z49 ?_|refine Z50 ?_|refine Z51 ?_|refine Z52 ?_|refine Z53 ?_|refine Z65 ?_|refine Z67 ?_|refine Z77 ?_|refine Z78 ?_|refine Z79 ?_);exact k.h) : a := h ⟨k⟩
theorem y_180 {a b : Prop} (k : b) (h : Rm b → a := by intro k;(first|refine y_145 ?_|refine y_98 ?_);exact k.h) : a := h ⟨k⟩
set_option maxHeartbeats 16000000 in
theorem iso_spec {a e f g : Nat} (ha : a < W ^ 6) (he : e < W ^ 6) (hf : f < W ^ 6) (hg : g < W ^ 6) : Spec Try.prog 30 [LV .u64 (D 6 a ++ D 6 e), LV .u64 (D 6 f ++ D 6 g)] NoPre [] (IsV (GE (isoP (k2 a e) (k2 f g)).1 (isoP (k2 a e) (k2 f g)).2.1 (isoP (k2 a e) (k2 f g)).2.2)) := by
 refine mk_spec Try.func30 rfl rfl rfl fun w _ => ?_
 have hl0 := fun x => D_len 6 x
 have hle := fun x : F2 => E2_len x
 have hp1 : ∀ b, Spec Try.prog 66 [LV .u64 (D 6 a ++ D 6 e), slv b 4] (fun w => HasB w b (LV .u64 (Q1.map E2).flatten) 26) [] (IsV (LV .u64 (E2 (pol (k2 a e) Q1)))) := fun b => poly_spec ha he b 4 Q1 rfl (by decide)
 have hp2 : ∀ b, Spec Try.prog 66 [LV .u64 (D 6 a ++ D 6 e), slv b 3] (fun w => HasB w b (LV .u64 (Q2.map E2).flatten) 26) [] (IsV (LV .u64 (E2 (pol (k2 a e) Q2)))) := fun b => poly_spec ha he b 3 Q2 rfl (by decide)
 have hp3 : ∀ b, Spec Try.prog 66 [LV .u64 (D 6 a ++ D 6 e), slv b 4] (fun w => HasB w b (LV .u64 (Q3.map E2).flatten) 26) [] (IsV (LV .u64 (E2 (pol (k2 a e) Q3)))) := fun b => poly_spec ha he b 4 Q3 rfl (by decide)
 have hp4 : ∀ b, Spec Try.prog 66 [LV .u64 (D 6 a ++ D 6 e), slv b 4] (fun w => HasB w b (LV .u64 (Q4.map E2).flatten) 26) [] (IsV (LV .u64 (E2 (pol (k2 a e) Q4)))) := fun b => poly_spec ha he b 4 Q4 rfl (by decide)
 have hmy := fun x => smulY hf hg x
 generalize k2 a e = x at hp1 hp2 hp3 hp4
 generalize k2 f g = y at hmy
 obtain ⟨q1, h1⟩ : ∃ q, q = pol x Q1 := ⟨_, rfl⟩
 obtain ⟨q2, h2⟩ : ∃ q, q = pol x Q2 := ⟨_, rfl⟩
 obtain ⟨q3, h3⟩ : ∃ q, q = pol x Q3 := ⟨_, rfl⟩
 obtain ⟨q4, h4⟩ : ∃ q, q = pol x Q4 := ⟨_, rfl⟩
 have hI1 := isoP_1 (y := y) h2 h4
 have hI0 := isoP_0 (y := y) h1 h2 h3 h4
 rw [← h1] at hp1
 rw [← h2] at hp2
 rw [← h3] at hp3
 rw [← h4] at hp4
 clear h1 h2 h3 h4
 repeat (first|(refine y_52 ?_;intro _)|(refine y_92 ?_;intro _)|refine y_93 ?_|(refine st_build2 (by rfl) (by rfl) (by rfl) (by rfl) (by simp; done) (by simp; done) (by rfl) ?_; first | rw [c10E] | rw [c11E] | rw [c12E] | rw [c13E] | rw [c20E] | rw [c21E] | rw [c22E] | rw [c30E] | rw [c31E] | rw [c32E] | rw [c33E] | rw [c40E] | rw [c41E] | rw [c42E])|refine st_buildSliceM (m := 12) (kk := .u64) (vss := Q2.map E2) (by rfl) (by rfl) (by rfl) (by rfl) (by rfl) (by rfl) (by rfl) poly_len (by rfl) (by rfl) fun _ => ?_|refine st_buildSliceM (m := 12) (kk := .u64) (vss := Q4.map E2) (by rfl) (by rfl) (by rfl) (by rfl) (by rfl) (by rfl) (by rfl) poly_len (by rfl) (by rfl) fun _ => ?_|refine y_73 (hp2 _) ?_|refine y_73 (hp4 _) ?_|refine y_94 ?_|refine Z81 fun _ => ?_|refine Z82 fun _ => ?_|refine Z85 fun _ => ?_)
 by_cases z2 : q2 = Kf.K2.zero
 ·have hz2 : (decide (D 6 q2.re.val = D 6 (Kf.K2.zero : F2).re.val) && decide (D 6 q2.im.val = D 6 (Kf.K2.zero : F2).im.val)) = true := by rw [z2]; exact E2_same _
  rw [hI1 (.inl z2)]
  repeat (first|refine y_72 ?_|refine y_91 hz2 ?_|refine y_159 ?_|refine Z81 fun _ => ?_|refine Z82 fun _ => ?_|refine Z85 fun _ => ?_)
  refine st_endc_GL (m := 24) (by rfl) (by rfl) (by repeat first|apply Find.here|apply Find.there) (by rfl) (by rfl) (by first|with_reducible assumption|simp) fun _ hw => post_of hw SubW.nil ⟨?_, rfl⟩
  rfl
 ·by_cases z4 : q4 = Kf.K2.zero
  ·have hz4 : (decide (D 6 q4.re.val = D 6 (Kf.K2.zero : F2).re.val) && decide (D 6 q4.im.val = D 6 (Kf.K2.zero : F2).im.val)) = true := by rw [z4]; exact E2_same _
   rw [hI1 (.inr z4)]
   repeat (first|refine y_72 ?_|refine y_91 (E2_diff z2) ?_|refine y_91 hz4 ?_|refine y_159 ?_|refine Z81 fun _ => ?_|refine Z82 fun _ => ?_|refine Z85 fun _ => ?_)
   refine st_endc_GL (m := 24) (by rfl) (by rfl) (by repeat first|apply Find.here|apply Find.there) (by rfl) (by rfl) (by first|with_reducible assumption|simp) fun _ hw => post_of hw SubW.nil ⟨?_, rfl⟩
   rfl
  ·rw [hI0 z2 z4]
   have hi2 := sinvE q2
   have hm2 := smulE q1 (Kf.K2.inv q2)
   have hi4 := sinvE q4
   have hm4 := smulE q3 (Kf.K2.inv q4)
   have hmm := hmy (Kf.K2.mul q3 (Kf.K2.inv q4))
   generalize Kf.K2.mul y (Kf.K2.mul q3 (Kf.K2.inv q4)) = s1 at hmm ⊢
   generalize Kf.K2.mul q3 (Kf.K2.inv q4) = s2 at hm4 hmm
   generalize Kf.K2.inv q4 = s3 at hi4 hm4
   generalize Kf.K2.mul q1 (Kf.K2.inv q2) = s4 at hm2 ⊢
   generalize Kf.K2.inv q2 = s5 at hi2 hm2
   clear hI0 hI1
   repeat (first|(refine y_52 ?_;intro _)|refine y_93 ?_|(refine st_build2 (by rfl) (by rfl) (by rfl) (by rfl) (by simp; done) (by simp; done) (by rfl) ?_; first | rw [c10E] | rw [c11E] | rw [c12E] | rw [c13E] | rw [c20E] | rw [c21E] | rw [c22E] | rw [c30E] | rw [c31E] | rw [c32E] | rw [c33E] | rw [c40E] | rw [c41E] | rw [c42E])|refine y_72 ?_|refine y_91 (E2_diff z2) ?_|refine y_91 (E2_diff z4) ?_|refine st_buildSliceM (m := 12) (kk := .u64) (vss := Q1.map E2) (by rfl) (by rfl) (by rfl) (by rfl) (by rfl) (by rfl) (by rfl) poly_len (by rfl) (by rfl) fun _ => ?_|refine y_73 (hp1 _) ?_|refine y_94 ?_|refine Z81 fun _ => ?_|refine Z82 fun _ => ?_|refine Z85 fun _ => ?_)
   clear hp1
   repeat (first|(refine y_52 ?_;intro _)|refine y_93 ?_|(refine st_build2 (by rfl) (by rfl) (by rfl) (by rfl) (by simp; done) (by simp; done) (by rfl) ?_; first | rw [c10E] | rw [c11E] | rw [c12E] | rw [c13E] | rw [c20E] | rw [c21E] | rw [c22E] | rw [c30E] | rw [c31E] | rw [c32E] | rw [c33E] | rw [c40E] | rw [c41E] | rw [c42E])|refine st_buildSliceM (m := 12) (kk := .u64) (vss := Q3.map E2) (by rfl) (by rfl) (by rfl) (by rfl) (by rfl) (by rfl) (by rfl) poly_len (by rfl) (by rfl) fun _ => ?_|refine y_73 (hp3 _) ?_|refine y_94 ?_|refine Z81 fun _ => ?_|refine Z82 fun _ => ?_|refine Z85 fun _ => ?_)
   refine R.st_perm [0, 1, 2, 3, 4, 5, 6, 7, 8, 9, 10, 11] (by rfl) ?_
   repeat (first|(refine R.Zpf (by rfl) (by intro _ _ _;(first|refine y_97 ?_|refine y_55 ?_|refine y_65 ?_|refine y_66 ?_|refine Z01 ?_|refine Z49 ?_|refine Z50 ?_|refine Z65 ?_|refine Z77 ?_|refine Z78 ?_|refine Z79 ?_);exact Zq) ?_)|refine y_148 ?_|refine y_58 ?_|refine y_59 hi2 ?_|refine y_59 hm2 ?_|refine y_59 hi4 ?_|refine y_59 hm4 ?_|refine y_59 hmm ?_|refine y_180 ?_|(refine y_85 ?_;intro _)|refine R.Zpo (by rfl) ?_)
   refine R.Zp0 ?_
   repeat (first|refine y_94 ?_|refine Z81 fun _ => ?_|refine Z82 fun _ => ?_|refine Z85 fun _ => ?_)
   refine st_endc_GL (m := 24) (by rfl) (by rfl) (by repeat first|apply Find.here|apply Find.there) (by rfl) (by rfl) (by first|with_reducible assumption|simp) fun _ hw => post_of hw SubW.nil ⟨?_, rfl⟩
   rfl
end Go.Proofs.Ytbpmbdlgmmabcaa.L
namespace Go.Proofs.Ytbpmbdlgmmabcaa.L
open Go Go.Proofs
set_option maxRecDepth 100000
attribute [local irreducible] Code.wp wpList Af bodyPost L.Go
open Num
theorem side_eq (x : F2) : side x = Kf.K2.add (Kf.K2.add (Kf.K2.mul (Kf.K2.mul x x) x) (Kf.K2.mul ac x)) bc := by
 have h1 : side x = Kf.K2.add (Kf.K2.mul (Kf.K2.add (Kf.K2.mul (Kf.K2.add (Kf.K2.mul (Kf.K2.add (Kf.K2.mul Kf.K2.zero x) Kf.K2.one) x) Kf.K2.zero) x) ac) x) bc := rfl
 rw [h1, Kf.K2.zero_mul2, Kf.K2.zero_add', Kf.K2.one_mul', Kf.K2.add_zero', Kf.K2.add_mul']
def padd : List F2 → List F2 → List F2
 | [], q => q
 | a :: p, [] => a :: p
 | a :: p, b :: q => Kf.K2.add a b :: padd p q
def pmul : List F2 → List F2 → List F2
 | [], _ => []
 | a :: p, q => padd (q.map (Kf.K2.mul a)) (Kf.K2.zero :: pmul p q)
theorem pol_cons (x c : F2) (r : List F2) : pol x (c :: r) = Kf.K2.add (Kf.K2.mul (pol x r) x) c := rfl
theorem pol_nil (x : F2) : pol x [] = Kf.K2.zero := rfl
theorem pol_padd (x : F2) : ∀ p q : List F2, pol x (padd p q) = Kf.K2.add (pol x p) (pol x q)
 | [], q => by rw [padd, pol_nil, Kf.K2.zero_add']
 | a :: p, [] => by rw [padd, pol_nil, Kf.K2.add_zero']
 | a :: p, b :: q => by
  rw [padd, pol_cons, pol_cons, pol_cons, pol_padd x p q, Kf.K2.add_mul']
  ac_rfl
theorem pol_scale (x a : F2) : ∀ q : List F2, pol x (q.map (Kf.K2.mul a)) = Kf.K2.mul a (pol x q)
 | [] => by rw [List.map_nil, pol_nil, Kf.K2.mul_zero2]
 | b :: q => by
  rw [List.map_cons, pol_cons, pol_cons, pol_scale x a q, Kf.K2.mul_add', Kf.K2.mul_assoc']
theorem pol_pmul (x : F2) : ∀ p q : List F2, pol x (pmul p q) = Kf.K2.mul (pol x p) (pol x q)
 | [], q => by rw [pmul, pol_nil, Kf.K2.zero_mul2]
 | a :: p, q => by
  rw [pmul, pol_padd, pol_scale, pol_cons, pol_cons, pol_pmul x p q, Kf.K2.add_zero', Kf.K2.add_mul', Kf.K2.add_comm']
  congr 1
  ac_rfl
theorem ac_ne : ac ≠ Kf.K2.zero := by decide +kernel
theorem zc_ne : zc ≠ Kf.K2.zero := by decide +kernel
theorem isq_5 : Kf.isq (kp 5) = false := by
 have h : Kf.isq (-kp 5) = true := (Kf.isq_iff p_3).2 ⟨kp 3754115229487400743760384662840082984744650971178826659753975400945528899667118516813924993650507119217982417812692, by decide +kernel⟩
 have h2 := Kf.isq_neg p_3 (a := kp 5) (by decide +kernel)
 rw [h] at h2
 cases h3 : Kf.isq (kp 5)
 ·rfl
 ·rw [h3] at h2; exact absurd h2 (by decide)
theorem zc_no : Kf.K2.isq2 zc = false := by
 rw [Kf.K2.isq2_norm p_3, show Kf.K2.norm zc = kp 5 by decide +kernel]
 exact isq_5
theorem neg_one_sq : Kf.K2.isq2 (Kf.K2.neg Kf.K2.one : F2) = true := (Kf.K2.isq2_iff p_3).2 ⟨⟨0, 1⟩, by decide +kernel⟩
theorem zero_sq : Kf.K2.isq2 (Kf.K2.zero : F2) = true := (Kf.K2.isq2_iff p_3).2 ⟨Kf.K2.zero, by decide +kernel⟩
theorem wz_zero {u : F2} (h : wz u = Kf.K2.zero) : u = Kf.K2.zero := by
 rcases Kf.K2.mul_zero_or p_3 h with h1 | h1
 ·exact absurd h1 zc_ne
 ·rcases Kf.K2.mul_zero_or p_3 h1 with h2 | h2 <;> exact h2
theorem tz_zero {u : F2} (h : tz (wz u) = Kf.K2.zero) : u = Kf.K2.zero := by
 have e : tz (wz u) = Kf.K2.mul (wz u) (Kf.K2.add (wz u) Kf.K2.one) := by rw [tz, Kf.K2.mul_add', Kf.K2.mul_one']
 rw [e] at h
 rcases Kf.K2.mul_zero_or p_3 h with h1 | h1
 ·exact wz_zero h1
 ·exfalso
  have h2 : wz u = Kf.K2.neg Kf.K2.one := Kf.K2.add_zero_neg h1
  have hu : u ≠ Kf.K2.zero := by
   rintro rfl
   rw [wz, Kf.K2.mul_zero2, Kf.K2.mul_zero2] at h2
   exact absurd h2 (by decide +kernel)
  have h3 := Kf.K2.isq2_mul p_3 zc_ne (Kf.K2.mul_ne p_3 hu hu)
  rw [show Kf.K2.mul zc (Kf.K2.mul u u) = wz u from rfl, h2, neg_one_sq, zc_no, Kf.K2.isq2_sq p_3] at h3
  exact absurd h3 (by decide)
def x00 : F2 := k2 253485938497372268249793355629940596581935911929470499404363681954522004531086398081370216511504325389066637262119 3241951739729550588668409758846082366811075084150596387118967090260465636897578670198576979594502687870694360773430
def y00 : F2 := k2 391013756818087021228608844186469378708965029305944648629640836944759185027123020480318340657013194950516187264795 3578796461873081174841411974298466426866052387096285028890861355461367155938811896227938614244375769879856986283402
theorem x00_eq : xone (wz Kf.K2.zero) = x00 := by
 rw [xone, if_pos (by decide +kernel)]
 exact Kf.K2.div_eq p_3 (by decide +kernel) (by decide +kernel)
theorem x00_sq : Kf.K2.mul y00 y00 = side x00 := by decide +kernel
theorem side_w {u : F2} (h : ¬ u = Kf.K2.zero) : side (Kf.K2.mul (wz u) (xone (wz u))) = Kf.K2.mul (Kf.K2.mul (Kf.K2.mul (wz u) (wz u)) (wz u)) (side (xone (wz u))) := by
 have ht : ¬ tz (wz u) = Kf.K2.zero := fun e => h (tz_zero e)
 rw [side_eq, side_eq]
 refine Kf.K2.sswu_alg (s := Kf.K2.inv (tz (wz u))) (Kf.K2.mul_inv2 p_3 ht) ?_
 rw [xone, if_neg ht]
 exact Kf.K2.sswu_x (Kf.K2.mul_inv2 p_3 ac_ne)
theorem one_side {u : F2} (h : Kf.K2.isq2 (side (xone (wz u))) = false) : Kf.K2.isq2 (side (Kf.K2.mul (wz u) (xone (wz u)))) = true := by
 by_cases hu : u = Kf.K2.zero
 ·subst hu
  rw [x00_eq] at h
  have := (Kf.K2.isq2_iff p_3).2 ⟨y00, x00_sq⟩
  rw [h] at this
  exact absurd this (by decide)
 ·rw [side_w hu]
  have hs : side (xone (wz u)) ≠ Kf.K2.zero := by
   intro e
   rw [e, zero_sq] at h
   exact absurd h (by decide)
  have e : Kf.K2.mul (Kf.K2.mul (Kf.K2.mul (wz u) (wz u)) (wz u)) (side (xone (wz u))) = Kf.K2.mul (Kf.K2.mul zc (side (xone (wz u)))) (Kf.K2.mul (Kf.K2.mul (wz u) u) (Kf.K2.mul (wz u) u)) := by
   have : Kf.K2.mul (Kf.K2.mul (wz u) (wz u)) (wz u) = Kf.K2.mul (Kf.K2.mul (wz u) (wz u)) (Kf.K2.mul zc (Kf.K2.mul u u)) := rfl
   rw [this]
   ac_rfl
  have hw : wz u ≠ Kf.K2.zero := fun e => hu (wz_zero e)
  have hm := Kf.K2.mul_ne p_3 hw hu
  rw [e, Kf.K2.isq2_mul p_3 (Kf.K2.mul_ne p_3 zc_ne hs) (Kf.K2.mul_ne p_3 hm hm), Kf.K2.isq2_mul p_3 zc_ne hs, Kf.K2.isq2_sq p_3, zc_no, h]
  rfl
theorem sq_pick {g : Nat} {r s : F2 × Bool} {y : F2} (h2 : Kf.K2.mul r.1 r.1 = y) (h1 : Kf.K2.sgn r.1 = g → s = (r.1, r.2)) (h0 : ¬ Kf.K2.sgn r.1 = g → s = (Kf.K2.neg r.1, r.2)) : Kf.K2.mul s.1 s.1 = y := by
 by_cases hg : Kf.K2.sgn r.1 = g
 ·rw [h1 hg]; exact h2
 ·rw [h0 hg]
  show Kf.K2.mul (Kf.K2.neg r.1) (Kf.K2.neg r.1) = y
  rw [Kf.K2.neg_mul_neg]; exact h2
theorem sgn_pick {g : Nat} (hg2 : g < 2) {r s : F2 × Bool} (hr : r.1 ≠ Kf.K2.zero) (h1 : Kf.K2.sgn r.1 = g → s = (r.1, r.2)) (h0 : ¬ Kf.K2.sgn r.1 = g → s = (Kf.K2.neg r.1, r.2)) : Kf.K2.sgn s.1 = g := by
 by_cases hg : Kf.K2.sgn r.1 = g
 ·rw [h1 hg]; exact hg
 ·rw [h0 hg]
  show Kf.K2.sgn (Kf.K2.neg r.1) = g
  have e1 := Kf.K2.sgn_flip p_3 hr
  have e2 := Kf.K2.sgn_lt r.1
  omega
theorem flip_pick {g k : Nat} {r s t : F2 × Bool} (hk : g < 2 ∧ k < 2 ∧ g ≠ k) (h1 : Kf.K2.sgn r.1 = g → s = (r.1, r.2)) (h0 : ¬ Kf.K2.sgn r.1 = g → s = (Kf.K2.neg r.1, r.2)) (h3 : Kf.K2.sgn r.1 = k → t = (r.1, r.2)) (h4 : ¬ Kf.K2.sgn r.1 = k → t = (Kf.K2.neg r.1, r.2)) : t.1 = Kf.K2.neg s.1 := by
 have e2 := Kf.K2.sgn_lt r.1
 by_cases hg : Kf.K2.sgn r.1 = g
 ·rw [h1 hg, h4 (by omega)]
 ·rw [h0 hg, h3 (by omega)]
  show r.1 = Kf.K2.neg (Kf.K2.neg r.1)
  rw [Kf.K2.neg_neg']
theorem rootd_sq {g : Nat} {x : F2} (h : Kf.K2.isq2 (side x) = true) : Kf.K2.mul (rootd g x).1 (rootd g x).1 = side x := by
 rcases Kf.K2.sqrtP_root p_3 (side x) with ⟨_, h2, _⟩ | ⟨h1, _, _⟩
 ·exact sq_pick h2 (rootd_1 rfl rfl) (rootd_0 rfl rfl)
 ·rw [Kf.K2.isq2_def, h1] at h
  exact absurd h (by decide)
theorem rootd_sgn {g : Nat} (hg : g < 2) {x : F2} (h : Kf.K2.isq2 (side x) = true) (hs : side x ≠ Kf.K2.zero) : Kf.K2.sgn (rootd g x).1 = g := by
 rcases Kf.K2.sqrtP_root p_3 (side x) with ⟨_, h2, _⟩ | ⟨h1, _, _⟩
 ·refine sgn_pick hg (fun e => hs ?_) (rootd_1 rfl rfl) (rootd_0 rfl rfl)
  rw [← h2, e, Kf.K2.mul_zero2]
 ·rw [Kf.K2.isq2_def, h1] at h
  exact absurd h (by decide)
theorem rootd_flip {g k : Nat} (hk : g < 2 ∧ k < 2 ∧ g ≠ k) (x : F2) : (rootd k x).1 = Kf.K2.neg (rootd g x).1 :=
 flip_pick hk (rootd_1 rfl rfl) (rootd_0 rfl rfl) (rootd_1 rfl rfl) (rootd_0 rfl rfl)
theorem snd_pick {g : Nat} {r s : F2 × Bool} {b : Bool} (hb : b = r.2) (h1 : Kf.K2.sgn r.1 = g → s = (r.1, r.2)) (h0 : ¬ Kf.K2.sgn r.1 = g → s = (Kf.K2.neg r.1, r.2)) : s.2 = b := by
 by_cases hg : Kf.K2.sgn r.1 = g
 ·rw [h1 hg]; exact hb.symm
 ·rw [h0 hg]; exact hb.symm
theorem rootd_2 (g : Nat) (x : F2) : (rootd g x).2 = Kf.K2.isq2 (side x) := snd_pick (Kf.K2.isq2_def _) (rootd_1 rfl rfl) (rootd_0 rfl rfl)
theorem mapP_root (u : F2) : ∃ x, mapP u = (x, (rootd (Kf.K2.sgn u) x).1) ∧ Kf.K2.isq2 (side x) = true := by
 cases h : (rootd (Kf.K2.sgn u) (xone (wz u))).2
 ·have e := mapP_0 (u := u) rfl rfl rfl h rfl
  rw [rootd_2] at h
  exact ⟨_, e, one_side h⟩
 ·have e := mapP_1 (u := u) rfl rfl rfl h
  rw [rootd_2] at h
  exact ⟨_, e, h⟩
theorem mapP_on (u : F2) : Kf.K2.mul (mapP u).2 (mapP u).2 = side (mapP u).1 := by
 obtain ⟨x, e, h⟩ := mapP_root u
 rw [e]
 exact rootd_sq h
end Go.Proofs.Ytbpmbdlgmmabcaa.L
namespace Go.Proofs.Ytbpmbdlgmmabcaa.L
open Go Go.Proofs
set_option maxRecDepth 100000
attribute [local irreducible] Code.wp wpList Af bodyPost L.Go
open Num
def S3 : List F2 := [bc, ac, Kf.K2.zero, Kf.K2.one]
def B2 : List F2 := [k2 4 4]
def q22 : List F2 := [k2 4002409555221667393417789825735904156556882819939007885332058136124031650490837864442687629129015664037894272554603 0, k2 4002409555221667393417789825735904156556882819939007885332058136124031650490837864442687629129015664037894272558059 4002409555221667393417789825735904156556882819939007885332058136124031650490837864442687629129015664037894272558059, k2 0 4002409555221667393417789825735904156556882819939007885332058136124031650490837864442687629129015664037894272559355, k2 24 4002409555221667393417789825735904156556882819939007885332058136124031650490837864442687629129015664037894272559763, k2 1 0]
theorem q22_eq : pmul Q2 Q2 = q22 := by decide +kernel
def q222 : List F2 := [k2 0 373248, k2 4002409555221667393417789825735904156556882819939007885332058136124031650490837864442687629129015664037894272373163 186624, k2 4002409555221667393417789825735904156556882819939007885332058136124031650490837864442687629129015664037894272482027 0, k2 4002409555221667393417789825735904156556882819939007885332058136124031650490837864442687629129015664037894272551147 4002409555221667393417789825735904156556882819939007885332058136124031650490837864442687629129015664037894272551147, k2 0 4002409555221667393417789825735904156556882819939007885332058136124031650490837864442687629129015664037894272558707, k2 36 4002409555221667393417789825735904156556882819939007885332058136124031650490837864442687629129015664037894272559751, k2 1 0]
theorem q222_eq : pmul q22 Q2 = q222 := by decide +kernel
def q11 : List F2 := [k2 0 49412463644711943128614689206616100698233121233814912164593310322518909265318985980773921347271798321455484848699, k2 741186954670679146929220338099241510473496818507223682468899654837783638979784789711608820209076974821832272696437 3261222600550988246488569487636662646083386001431784202863158481286248011511053074731078808919938689216061999863350, k2 1185899127473086635086752540958786416757594909611557891950239447740453822367655663538574112334523159714931636314184 0, k2 642362027381255260671990959686009309077030576039593858139713034192745820449146817750060977514533378178921303003423 642362027381255260671990959686009309077030576039593858139713034192745820449146817750060977514533378178921303003423, k2 0 3261222600550988246488569487636662646083386001431784202863158481286248011511053074731078808919938689216061999863526, k2 1482373909341358293858440676198483020946993637014447364937799309675567277959569579423217640418153949643664545392514 2520035645880309099559349149537421135609889182924560520394258826448464372531268285019469988710861714394229727167273, k2 395299709157695545028917513652928805585864969870519297316746482580151274122551887846191370778174386571643878771337 0]
theorem q11_eq : pmul Q1 Q1 = q11 := by decide +kernel
def q111 : List F2 := [k2 2778078511580471469231003637616416328145106593812260617253801669243840898694600767363511577968836661184052814621486 1224331043641195924186786188119487828411776226126747268078256466880190751796237097079176051160179002853841457938301, k2 395299709157695545028917513652928805585864969870519297316746482580151274122551887846191370778174386571643878789592 0, k2 1235311591117798578215367230165402517455828030845372804114832758062972731632974649519348033681794958036387121168835 1235311591117798578215367230165402517455828030845372804114832758062972731632974649519348033681794958036387121168835, k2 0 3574168203634163886303129185945231283838862435912611979905582779995534436858073319275980310785993411918613403890177, k2 840011881960103033186449716512473711869963060974853506798086275482821457510422761673156662903620571464743242389483 3162397673261564360231340109223430444686919758964154378533971860641210192980415102769530966225395092573151030170304, k2 3508284918774547962131642933669743149574551607600858763686125032898842557837648004634948415656297680823339424095645 0, k2 1811790333639437914715871937575923692268547778573213446035088045159026673061696152628377116066632605120034444368622 1811790333639437914715871937575923692268547778573213446035088045159026673061696152628377116066632605120034444368622, k2 0 2915335355038004644588266663190349941195754152795079817711005309028615646653820172865661359489036100965873605938609, k2 1581198836630782180115670054611715222343459879482077189266985930320605096490207551384765483112697546286575515085348 2421210718590885213302119771124188934213422940456930696065072205803426554000630313057922146016318117751318757474439, k2 3156907399523263033217049588200473100164893856604841610515683715049819203062046326549444974964587114981878198521094 0]
theorem q111_eq : pmul q11 Q1 = q111 := by decide +kernel
def q33 : List F2 := [k2 0 1998459640741683033201749652356473406017428458789847558656884995266320330286234544111300818934103843223310720456644, k2 1597669657845686161158541617680587255909537586560015493321850367094778066245313880045023456895121479060394010033609 2404739897375981232259248208055316900647345233378992392010207769029253584245523984397664172233894184977500262526178, k2 3952997091576955450289175136529288055858649698705192973167464825801512741225518878461913707781743865716438787713200 0, k2 1685514037658507393387189954047904768261952024309019781614460696557033904939214299566399317068049120520759316427769 1685514037658507393387189954047904768261952024309019781614460696557033904939214299566399317068049120520759316427769, k2 0 1712965406350014028458642559162691490872081536105583621705901424513988854531058180666829273372089008477123474675792, k2 1581198836630782180115670054611715222343459879482077189266985930320605096490207551384765483112697546286575515085348 2421210718590885213302119771124188934213422940456930696065072205803426554000630313057922146016318117751318757474439, k2 3156907399523263033217049588200473100164893856604841610515683715049819203062046326549444974964587114981878198521094 0]
theorem q33_eq : pmul Q3 Q3 = q33 := by decide +kernel
def q44 : List F2 := [k2 0 373248, k2 4002409555221667393417789825735904156556882819939007885332058136124031650490837864442687629129015664037894272373163 186624, k2 4002409555221667393417789825735904156556882819939007885332058136124031650490837864442687629129015664037894272482027 0, k2 4002409555221667393417789825735904156556882819939007885332058136124031650490837864442687629129015664037894272551147 4002409555221667393417789825735904156556882819939007885332058136124031650490837864442687629129015664037894272551147, k2 0 4002409555221667393417789825735904156556882819939007885332058136124031650490837864442687629129015664037894272558707, k2 36 4002409555221667393417789825735904156556882819939007885332058136124031650490837864442687629129015664037894272559751, k2 1 0]
theorem q44_eq : pmul Q4 Q4 = q44 := by decide +kernel
def sq2 : List F2 := [k2 4002409555221667393417789825735904156556882819939007885332058136124031650490837864442687629129015664037893894832811 377726976, k2 4002409555221667393417789825735904156556882819939007885332058136124031650490837864442687629129015664037893805253291 0, k2 4002409555221667393417789825735904156556882819939007885332058136124031650490837864442687629129015664037894149076907 4002409555221667393417789825735904156556882819939007885332058136124031650490837864442687629129015664037894149076907, k2 0 4002409555221667393417789825735904156556882819939007885332058136124031650490837864442687629129015664037894236783275, k2 2979936 4002409555221667393417789825735904156556882819939007885332058136124031650490837864442687629129015664037894269579851, k2 254304 0, k2 1012 1012, k2 0 4002409555221667393417789825735904156556882819939007885332058136124031650490837864442687629129015664037894272558947, k2 36 4002409555221667393417789825735904156556882819939007885332058136124031650490837864442687629129015664037894272559751, k2 1 0]
theorem sq2_eq : pmul S3 q222 = sq2 := by decide +kernel
def bq2 : List F2 := [k2 4002409555221667393417789825735904156556882819939007885332058136124031650490837864442687629129015664037894271066795 1492992, k2 4002409555221667393417789825735904156556882819939007885332058136124031650490837864442687629129015664037894271066795 0, k2 4002409555221667393417789825735904156556882819939007885332058136124031650490837864442687629129015664037894272248747 4002409555221667393417789825735904156556882819939007885332058136124031650490837864442687629129015664037894272248747, k2 0 4002409555221667393417789825735904156556882819939007885332058136124031650490837864442687629129015664037894272490667, k2 4320 4002409555221667393417789825735904156556882819939007885332058136124031650490837864442687629129015664037894272555467, k2 288 0, k2 4 4]
theorem bq2_eq : pmul B2 q222 = bq2 := by decide +kernel
def sum1 : List F2 := [k2 2778078511580471469231003637616416328145106593812260617253801669243840898694600767363511577968836661184052813128494 1224331043641195924186786188119487828411776226126747268078256466880190751796237097079176051160179002853841459431293, k2 395299709157695545028917513652928805585864969870519297316746482580151274122551887846191370778174386571643877296600 0, k2 1235311591117798578215367230165402517455828030845372804114832758062972731632974649519348033681794958036387120857795 1235311591117798578215367230165402517455828030845372804114832758062972731632974649519348033681794958036387120857795, k2 0 3574168203634163886303129185945231283838862435912611979905582779995534436858073319275980310785993411918613403821057, k2 840011881960103033186449716512473711869963060974853506798086275482821457510422761673156662903620571464743242393803 3162397673261564360231340109223430444686919758964154378533971860641210192980415102769530966225395092573151030165984, k2 3508284918774547962131642933669743149574551607600858763686125032898842557837648004634948415656297680823339424095933 0, k2 1811790333639437914715871937575923692268547778573213446035088045159026673061696152628377116066632605120034444368626 1811790333639437914715871937575923692268547778573213446035088045159026673061696152628377116066632605120034444368626, k2 0 2915335355038004644588266663190349941195754152795079817711005309028615646653820172865661359489036100965873605938609, k2 1581198836630782180115670054611715222343459879482077189266985930320605096490207551384765483112697546286575515085348 2421210718590885213302119771124188934213422940456930696065072205803426554000630313057922146016318117751318757474439, k2 3156907399523263033217049588200473100164893856604841610515683715049819203062046326549444974964587114981878198521094 0]
theorem sum1_eq : padd q111 bq2 = sum1 := by decide +kernel
def lhs : List F2 := [k2 4002409555221667393417789825735904156556882819939007885332058136124031650490837864442687629129015664037308247550635 4002409555221667393417789825735904156556882819939007885332058136124031650490837864442687629129015664037308247550635, k2 0 4002409555221667393417789825735904156556882819939007885332058136124031650490837864442687629129015664036757804919467, k2 2668273036814444928945193217157269437704588546626005256888038757416021100327225242961791752752677109359106448759922 1334136518407222464472596608578634718852294273313002628444019378708010550163612621480895876376338554678787823799865, k2 3705934773353395734646101690496207552367484092536118412344498274188918194898923948558044101045384874109442172852553 0, k2 148237390934135829385844067619848302094699363701444736493779930967556727795956957942321764041815394964419206318257 148237390934135829385844067619848302094699363701444736493779930967556727795956957942321764041815394964419206318257, k2 0 98824927289423886257229378413232201396466242467629824329186620645037818530637971961547842694543596642925208285302, k2 554517647568434028443342623318691796724616138290589569847102704730489981755246398228685117341605736718554587285711 3447891907653233364974447202417212359832266681648418315484955431393541668735591466214002511787409927319339685274076, k2 395299709157695545028917513652928805585864969870519297316746482580151274122551887846191370778174386571643675226584 0, k2 1828261154854341895758743500644795725834625485651151750089952481933199642816802481288635089849056537893852929075591 1828261154854341895758743500644795725834625485651151750089952481933199642816802481288635089849056537893852929075591, k2 0 3574168203634163886303129185945231283838862435912611979905582779995534436858073319275980310785993411918613403290113, k2 3952997091576955450289175136529288055858649698705192973167464825801512741225518878461913707781743865716438787712304 49412463644711943128614689206616100698233121233814912164593310322518909265318985980773921347271798321455484847483, k2 543537100091831374414761581272777107680564333571964033810526413547708001918508845788513134819989781536010333308425 0, k2 774128597100487109014963464236985577605652232663100290578628528386129578489997447032124767773924840369469262593755 774128597100487109014963464236985577605652232663100290578628528386129578489997447032124767773924840369469262593755, k2 0 1729436227564918009501514122231563524438159243183521925760765861288161824286164509327087247154512941250941969624593, k2 3162397673261564360231340109223430444686919758964154378533971860641210192980415102769530966225395092573151030170696 840011881960103033186449716512473711869963060974853506798086275482821457510422761673156662903620571464743242389091, k2 3156907399523263033217049588200473100164893856604841610515683715049819203062046326549444974964587114981878198521094 0]
theorem lhs_eq : pmul q33 sq2 = lhs := by decide +kernel
theorem rhs_eq : pmul sum1 q44 = lhs := by decide +kernel
theorem iso_pol (x : F2) : Kf.K2.mul (pol x q33) (Kf.K2.mul (side x) (pol x q222)) = Kf.K2.mul (Kf.K2.add (pol x q111) (Kf.K2.mul (pol x B2) (pol x q222))) (pol x q44) := by
 have h1 : pol x (pmul q33 sq2) = pol x (pmul sum1 q44) := by rw [lhs_eq, rhs_eq]
 rw [pol_pmul, pol_pmul, ← sum1_eq, pol_padd, ← sq2_eq, pol_pmul, ← bq2_eq, pol_pmul] at h1
 exact h1
theorem pol_q222 (x : F2) : pol x q222 = Kf.K2.mul (Kf.K2.mul (pol x Q2) (pol x Q2)) (pol x Q2) := by rw [← q222_eq, pol_pmul, ← q22_eq, pol_pmul]
theorem pol_q111 (x : F2) : pol x q111 = Kf.K2.mul (Kf.K2.mul (pol x Q1) (pol x Q1)) (pol x Q1) := by rw [← q111_eq, pol_pmul, ← q11_eq, pol_pmul]
theorem pol_q33 (x : F2) : pol x q33 = Kf.K2.mul (pol x Q3) (pol x Q3) := by rw [← q33_eq, pol_pmul]
theorem pol_q44 (x : F2) : pol x q44 = Kf.K2.mul (pol x Q4) (pol x Q4) := by rw [← q44_eq, pol_pmul]
theorem pol_B2 (x : F2) : pol x B2 = k2 4 4 := by
 rw [show pol x B2 = Kf.K2.add (Kf.K2.mul Kf.K2.zero x) (k2 4 4) from rfl, Kf.K2.zero_mul2, Kf.K2.zero_add']
def b2c : F2 := k2 4 4
theorem iso_on {x y : F2} (hy : Kf.K2.mul y y = side x) (h2 : pol x Q2 ≠ Kf.K2.zero) (h4 : pol x Q4 ≠ Kf.K2.zero) :
  Kf.K2.mul (Kf.K2.mul y (Kf.K2.mul (pol x Q3) (Kf.K2.inv (pol x Q4)))) (Kf.K2.mul y (Kf.K2.mul (pol x Q3) (Kf.K2.inv (pol x Q4)))) = Kf.K2.add (Kf.K2.mul (Kf.K2.mul (Kf.K2.mul (pol x Q1) (Kf.K2.inv (pol x Q2))) (Kf.K2.mul (pol x Q1) (Kf.K2.inv (pol x Q2)))) (Kf.K2.mul (pol x Q1) (Kf.K2.inv (pol x Q2)))) b2c := by
 have h := iso_pol x
 rw [pol_q222, pol_q111, pol_q33, pol_q44, pol_B2] at h
 have e2 := Kf.K2.mul_inv2 p_3 h2
 have e4 := Kf.K2.mul_inv2 p_3 h4
 generalize pol x Q1 = q1 at *
 generalize pol x Q2 = q2 at *
 generalize pol x Q3 = q3 at *
 generalize pol x Q4 = q4 at *
 generalize Kf.K2.inv q2 = i2 at *
 generalize Kf.K2.inv q4 = i4 at *
 exact Kf.K2.curve_alg (e2.trans Kf.K2.ofZ_1.symm) (e4.trans Kf.K2.ofZ_1.symm) hy h
def xk0 : F2 := k2 4002409555221667393417789825735904156556882819939007885332058136124031650490837864442687629129015664037894272559781 6
def lin : List F2 := [Kf.K2.neg xk0, Kf.K2.one]
theorem Q2_lin : pmul lin lin = Q2 := by decide +kernel
theorem Q4_lin : pmul Q2 lin = Q4 := by decide +kernel
theorem pol_lin (x : F2) : pol x lin = Kf.K2.sub x xk0 := by
 rw [show pol x lin = Kf.K2.add (Kf.K2.mul (Kf.K2.add (Kf.K2.mul Kf.K2.zero x) Kf.K2.one) x) (Kf.K2.neg xk0) from rfl, Kf.K2.zero_mul2, Kf.K2.zero_add', Kf.K2.one_mul', Kf.K2.sub_eq]
theorem side_xk0 : side xk0 = k2 4 4 := by decide +kernel
theorem pol_Q2 (x : F2) : pol x Q2 = Kf.K2.mul (pol x lin) (pol x lin) := by rw [← pol_pmul, Q2_lin]
theorem pol_Q4 (x : F2) : pol x Q4 = Kf.K2.mul (pol x Q2) (pol x lin) := by rw [← pol_pmul, Q4_lin]
theorem lin_zero {x : F2} (h : pol x lin = Kf.K2.zero) : x = xk0 := Kf.K2.sub_zero_eq (by rw [← pol_lin]; exact h)
theorem lin_Q2 {x : F2} (h : pol x lin ≠ Kf.K2.zero) : pol x Q2 ≠ Kf.K2.zero := by rw [pol_Q2]; exact Kf.K2.mul_ne p_3 h h
theorem lin_Q4 {x : F2} (h : pol x lin ≠ Kf.K2.zero) : pol x Q4 ≠ Kf.K2.zero := by rw [pol_Q4]; exact Kf.K2.mul_ne p_3 (lin_Q2 h) h
theorem pm32 : Nat.beq (Pr.pm p 381 32 ((p - 1) / 3)) 1 = false := by decide +kernel
theorem pm32_lt : (p - 1) / 3 < 2 ^ 381 := by decide +kernel
theorem val_one : (1 : Fq).val = 1 := by decide +kernel
theorem pow_ne1 : (Kf.K2.norm (Kf.K2.neg b2c)) ^ ((p - 1) / 3) ≠ 1 := by
 intro h
 have e : Kf.K2.norm (Kf.K2.neg b2c) = kp 32 := by decide +kernel
 have h0 := pm32
 have h1 := Pr.pm_eq p 381 32 _ pm32_lt
 rw [e] at h
 generalize (p - 1) / 3 = k at h h0 h1
 rw [kpow_eq, h, val_one] at h1
 rw [h1] at h0
 exact absurd h0 (by decide)
theorem side_ne (x : F2) : side x ≠ Kf.K2.zero := by
 intro hs
 by_cases hl : pol x lin = Kf.K2.zero
 ·rw [lin_zero hl, side_xk0] at hs
  exact absurd hs (by decide +kernel)
 ·have e := iso_on (x := x) (y := Kf.K2.zero) (by rw [hs, Kf.K2.zero_mul2]) (lin_Q2 hl) (lin_Q4 hl)
  rw [Kf.K2.zero_mul2, Kf.K2.zero_mul2] at e
  exact Kf.K2.no_cube p_3 (by decide +kernel) (by decide +kernel) pow_ne1 (Kf.K2.add_zero_neg e.symm)
end Go.Proofs.Ytbpmbdlgmmabcaa.L
namespace Go.Proofs.Ytbpmbdlgmmabcaa.L
open Go Go.Proofs
set_option maxRecDepth 100000
attribute [local irreducible] Code.wp wpList Af bodyPost L.Go
open Num
theorem no2 : Kf.K2.No2 b2c := fun _ h => Kf.K2.no_cube p_3 (by decide +kernel) (by decide +kernel) pow_ne1 (Kf.K2.add_zero_neg h)
def rm32 : Nat := 225038059437516012967016182254553905964953855560047398581028672012823445407566078119195226162312789451238293834482
theorem isq_32 : Kf.isq (kp 32) = false := by
 have h : Kf.isq (-kp 32) = true := (Kf.isq_iff p_3).2 ⟨kp rm32, by decide +kernel⟩
 have h2 := Kf.isq_neg p_3 (a := kp 32) (by decide +kernel)
 rw [h] at h2
 cases h3 : Kf.isq (kp 32)
 ·rfl
 ·rw [h3] at h2; exact absurd h2 (by decide)
theorem b2c_no (m : F2) : Kf.K2.mul m m ≠ b2c := by
 intro h
 have h1 : Kf.K2.isq2 b2c = true := (Kf.K2.isq2_iff p_3).2 ⟨m, h⟩
 rw [Kf.K2.isq2_norm p_3, show Kf.K2.norm b2c = kp 32 by decide +kernel, isq_32] at h1
 exact absurd h1 (by decide)
theorem lin_ne {x y : F2} (h : Kf.K2.mul y y = side x) : pol x lin ≠ Kf.K2.zero := by
 intro e
 rw [lin_zero e, side_xk0] at h
 exact b2c_no y h
theorem y_ne0 {x y : F2} (h : Kf.K2.mul y y = side x) : y ≠ Kf.K2.zero := by
 rintro rfl
 rw [Kf.K2.mul_zero2] at h
 exact side_ne x h.symm
def lin3 : List F2 := pmul (pmul lin lin) lin
def phx (x : F2) : F2 := Kf.K2.mul (pol x Q1) (Kf.K2.inv (pol x Q2))
def phy (x y : F2) : F2 := Kf.K2.mul y (Kf.K2.mul (pol x Q3) (Kf.K2.inv (pol x Q4)))
theorem ph_on {x y : F2} (h : Kf.K2.mul y y = side x) : Kf.K2.mul (phy x y) (phy x y) = Kf.K2.add (Kf.K2.mul (Kf.K2.mul (phx x) (phx x)) (phx x)) b2c :=
 iso_on h (lin_Q2 (lin_ne h)) (lin_Q4 (lin_ne h))
theorem phy_neg (x y : F2) : phy x (Kf.K2.neg y) = Kf.K2.neg (phy x y) := by rw [phy, phy, Kf.K2.neg_mul']
end Go.Proofs.Ytbpmbdlgmmabcaa.L
namespace Go.Proofs.Ytbpmbdlgmmabcaa.L
open Go Go.Proofs
set_option maxRecDepth 100000
attribute [local irreducible] Code.wp wpList Af bodyPost L.Go
open Num
attribute [local simp] D_len
abbrev G4 (a b e f : Nat) (i : Bool) : Value := GL ((D 6 a ++ D 6 b) ++ (D 6 e ++ D 6 f)) i
theorem b4E : (D 6 4 ++ D 6 4 : List Nat) = E2 b2c := by decide +kernel
theorem four6 : [4] ++ List.replicate (6 - [4].length) 0 = D 6 4 := by decide +kernel
theorem gb_spec : Spec Try.prog 80 [] NoPre [] (IsV (LV .u64 (E2 b2c))) := by
 refine mk_spec Try.func80 rfl rfl rfl fun w _ => ?_
 repeat (first|(refine y_52 ?_;intro _)|(refine st_buildP (kk := .u64) (vs := [4]) (by rfl) (by rfl) (by rfl) (by rfl) (by rfl) (by rfl) (by rfl) (by rfl) ?_; rw [four6])|refine y_55 ?_|refine y_82 ?_|refine Z03 ?_|refine Z04 ?_|refine Z05 ?_|refine Z06 ?_|refine Z07 ?_|refine Z08 ?_|refine Z09 ?_|refine Z10 ?_|refine Z11 ?_|refine Z12 ?_|refine Z13 ?_|refine Z14 ?_|refine Z29 ?_|refine Z30 ?_|refine Z31 ?_|refine Z32 ?_|refine Z65 ?_|refine Z82 fun _ => ?_)
 refine Zec fun _ hw => post_of hw SubW.nil ⟨?_, rfl⟩
 rw [← b4E]
theorem y_99 {a b : Prop} (k : b) (h : Rm b → a := by intro k;(first|refine Z01 ?_|refine Z02 ?_|refine Z03 ?_|refine Z04 ?_|refine Z05 ?_|refine Z06 ?_|refine Z07 ?_|refine Z08 ?_|refine Z09 ?_|refine Z10 ?_|refine Z11 ?_|refine Z12 ?_|refine Z13 ?_|refine Z14 ?_|refine Z24 ?_|refine Z25 ?_|refine Z26 ?_|refine Z27 ?_|refine Z28 ?_|refine Z49 ?_|refine Z50 ?_|refine Z51 ?_|refine Z52 ?_|refine Z53 ?_|refine Z67 ?_|refine Z77 ?_|refine Z78 ?_|refine Z79 ?_);exact k.h) : a := h ⟨k⟩
theorem y_100 {a b : Prop} (k : b) (h : Rm b → a := by intro k;refine Zqp (by intro _ _ _;refine st_ldbG (by rfl) (by repeat first|apply Find.here|apply Find.there) (by rfl) (by first|with_reducible assumption|simp) (by rfl) ?_;exact Zq) ?_;exact k.h) : a := h ⟨k⟩
theorem y_160 {a b : Prop} (k : b) (h : Rm b → a := by intro k;(first|refine y_54 ?_|refine y_66 ?_|refine Z01 ?_|refine Z02 ?_|refine Z49 ?_|refine Z50 ?_|refine Z77 ?_|refine Z78 ?_|refine Z79 ?_);exact k.h) : a := h ⟨k⟩
theorem gon_spec {a b e f : Nat} (ha : a < W ^ 6) (hb : b < W ^ 6) (he : e < W ^ 6) (hf : f < W ^ 6) (i : Bool) : Spec Try.prog 37 [G4 a b e f i] NoPre [] (IsV (.bool (i || decide (Kf.K2.mul (k2 e f) (k2 e f) = Kf.K2.add (Kf.K2.mul (Kf.K2.mul (k2 a b) (k2 a b)) (k2 a b)) b2c)))) := by
 refine mk_spec Try.func37 rfl rfl rfl fun w _ => ?_
 have hl0 := fun x => D_len 6 x
 have hle := fun x : F2 => E2_len x
 cases i with
 | true =>
  repeat (first|refine y_99 ?_|refine Z81 fun _ => ?_)
  refine st_draw1 (by rfl) ?_
  repeat (first|(refine Zqf (by intro _ _ _;(first|refine y_160 ?_);exact Zq) ?_)|refine y_56 ?_|refine y_100 ?_|refine y_141 ?_|refine Zqn ?_)
  refine Zq0 ?_ (by kernel_rfl)
  repeat (first|refine y_99 ?_|refine Z81 fun _ => ?_)
  refine Ze1 fun _ hw => post_of hw SubW.nil ⟨?_, rfl⟩
  rfl
 | false =>
  rw [Bool.false_or]
  have hm1 := smul_spec he hf he hf
  have hm2 := smul_spec ha hb ha hb
  have hm3 := smulX ha hb (Kf.K2.mul (k2 a b) (k2 a b))
  generalize k2 a b = x at hm2 hm3 ⊢
  generalize k2 e f = y at hm1 ⊢
  have had := saddE (Kf.K2.mul (Kf.K2.mul x x) x) b2c
  generalize Kf.K2.add (Kf.K2.mul (Kf.K2.mul x x) x) b2c = r at had ⊢
  generalize Kf.K2.mul (Kf.K2.mul x x) x = r1 at hm3 had
  generalize Kf.K2.mul x x = r2 at hm2 hm3
  generalize Kf.K2.mul y y = q at hm1 ⊢
  repeat (first|refine y_99 ?_|refine Z81 fun _ => ?_)
  refine st_draw1 (by rfl) ?_
  repeat (first|(refine Zqf (by intro _ _ _;(first|refine y_91 (E2_iff q r) ?_|refine y_160 ?_);exact Zq) ?_)|refine y_56 ?_|refine y_100 ?_|(refine Zqp (by intro _ _ _;(refine st_ldpG (by rfl) (by repeat first|apply Find.here|apply Find.there) (by rfl) (by rfl) (by first | (refine PartAt.l ?_; (simp; done)) | (refine PartAt.r ?_ ?_ <;> (simp; done)) | (refine PartAt.all ?_; (simp; done))) (by rfl) ?_);exact Zq) ?_)|(refine Zqp (by intro _ _ _;refine st_callV (by rfl) (by rfl) (by rfl) (gb_spec) (fun _ _ => trivial) (by rfl) ?_;exact Zq) ?_)|refine y_31 hm1 ?_|refine y_31 hm2 ?_|refine y_31 hm3 ?_|refine y_31 had ?_|refine y_141 ?_|refine Zqn ?_)
  refine Zq0 ?_ (by kernel_rfl)
  repeat (first|refine y_99 ?_|refine Z81 fun _ => ?_)
  refine Ze1 fun _ hw => post_of hw SubW.nil ⟨?_, rfl⟩
  rfl
def gx (P : Kf.K2.Pt p) : F2 := match P with
 | none => Kf.K2.zero
 | some q => q.1
def gy (P : Kf.K2.Pt p) : F2 := match P with
 | none => Kf.K2.zero
 | some q => q.2
def gi (P : Kf.K2.Pt p) : Bool := P.isNone
abbrev GV (P : Kf.K2.Pt p) : Value := GE (gx P) (gy P) (gi P)
def ptv (x y : F2) (i : Bool) : Kf.K2.Pt p := if i = true then none else some (x, y)
theorem ptv_t (x y : F2) : ptv x y true = none := rfl
theorem ptv_f (x y : F2) : ptv x y false = some (x, y) := rfl
theorem GV_none : GV none = GE Kf.K2.zero Kf.K2.zero true := rfl
theorem GV_some (x y : F2) : GV (some (x, y)) = GE x y false := rfl
theorem ptv_gv (P : Kf.K2.Pt p) : ptv (gx P) (gy P) (gi P) = P := by
 cases P with
 | none => rfl
 | some q => rfl
theorem y_101 {a b : Prop} (k : b) (h : Rm b → a := by intro k;refine st_ldbG (by rfl) (by repeat first|apply Find.here|apply Find.there) (by rfl) (by first|with_reducible assumption|simp) (by rfl) ?_;exact k.h) : a := h ⟨k⟩
theorem y_102 {a b : Prop} (k : b) (h : Rm b → a := by intro k;refine R.Zpp (by rfl) (by intro _ _ _;(refine st_ldpG (by rfl) (by repeat first|apply Find.here|apply Find.there) (by rfl) (by rfl) (by first | (refine PartAt.l ?_; (simp; done)) | (refine PartAt.r ?_ ?_ <;> (simp; done)) | (refine PartAt.all ?_; (simp; done))) (by rfl) ?_);exact Zq) ?_;exact k.h) : a := h ⟨k⟩
theorem gred_spec {a b e f : Nat} (ha : a < W ^ 6) (hb : b < W ^ 6) (he : e < W ^ 6) (hf : f < W ^ 6) (i : Bool) : Spec Try.prog 38 [G4 a b e f i] NoPre [] (IsV (GV (ptv (k2 a b) (k2 e f) i))) := by
 refine mk_spec Try.func38 rfl rfl rfl fun w _ => ?_
 have hl0 := fun x => D_len 6 x
 have hle := fun x : F2 => E2_len x
 cases i with
 | true =>
  rw [ptv_t, GV_none]
  repeat (first|(refine y_92 ?_;intro _)|refine y_54 ?_|refine y_64 ?_|refine y_55 ?_|refine y_101 ?_|refine y_95 ?_|refine y_96 ?_|refine Z03 ?_|refine Z04 ?_|refine Z05 ?_|refine Z06 ?_|refine Z07 ?_|refine Z08 ?_|refine Z09 ?_|refine Z10 ?_|refine Z11 ?_|refine Z12 ?_|refine Z13 ?_|refine Z14 ?_|refine Z24 ?_|refine Z25 ?_|refine Z26 ?_|refine Z27 ?_|refine Z28 ?_|refine Z29 ?_|refine Z30 ?_|refine Z31 ?_|refine Z32 ?_|refine Z65 ?_|refine Z67 ?_|refine Z81 fun _ => ?_|refine Z82 fun _ => ?_)
  refine st_endc_GL (m := 24) (by rfl) (by rfl) (by repeat first|apply Find.here|apply Find.there) (by rfl) (by rfl) (by first|with_reducible assumption|simp) fun _ hw => post_of hw SubW.nil ⟨?_, rfl⟩
  rfl
 | false =>
  rw [ptv_f, GV_some]
  have h1 := sred_spec ha hb
  have h2 := sred_spec he hf
  repeat (first|(refine y_92 ?_;intro _)|refine y_54 ?_|refine y_64 ?_|refine y_55 ?_|refine y_101 ?_|refine Z03 ?_|refine Z04 ?_|refine Z05 ?_|refine Z06 ?_|refine Z07 ?_|refine Z08 ?_|refine Z09 ?_|refine Z10 ?_|refine Z11 ?_|refine Z12 ?_|refine Z13 ?_|refine Z14 ?_|refine Z24 ?_|refine Z25 ?_|refine Z26 ?_|refine Z27 ?_|refine Z28 ?_|refine Z29 ?_|refine Z30 ?_|refine Z31 ?_|refine Z32 ?_|refine Z65 ?_|refine Z67 ?_|refine Z81 fun _ => ?_|refine Z82 fun _ => ?_)
  refine R.st_perm [0, 1, 2, 3, 4, 5, 6, 7] (by rfl) ?_
  repeat (first|(refine R.Zpf (by rfl) (by intro _ _ _;(first|refine y_54 ?_|refine y_55 ?_|refine y_97 ?_|refine Z65 ?_);exact Zq) ?_)|refine y_148 ?_|refine y_58 ?_|refine y_102 ?_|refine y_59 h1 ?_|refine y_59 h2 ?_|refine y_180 ?_|(refine y_50 ?_;intro _)|refine R.Zpo (by rfl) ?_)
  refine R.Zp0 ?_
  repeat (first|refine y_53 ?_|refine Z81 fun _ => ?_|refine Z82 fun _ => ?_)
  refine st_endc_GL (m := 24) (by rfl) (by rfl) (by repeat first|apply Find.here|apply Find.there) (by rfl) (by rfl) (by first|with_reducible assumption|simp) fun _ hw => post_of hw SubW.nil ⟨?_, rfl⟩
  rfl
theorem GV_neg (P : Kf.K2.Pt p) : GV (Kf.K2.pn P) = GE (gx P) (Kf.K2.neg (gy P)) (gi P) := by
 cases P with
 | none => show GE _ _ _ = GE _ (Kf.K2.neg Kf.K2.zero) _; rw [Kf.K2.neg_zero2]; rfl
 | some q => rfl
theorem y_103 {a b : Prop} (k : b) (h : Rm b → a := by intro k;refine st_load_GL (m := 24) (by rfl) (by repeat first|apply Find.here|apply Find.there) (by rfl) (by rfl) (by first|with_reducible assumption|simp) (by rfl) ?_;exact k.h) : a := h ⟨k⟩
theorem y_104 {a b : Prop} (k : b) (h : Rm b → a := by intro k;refine st_ldpG (by rfl) (by repeat first|apply Find.here|apply Find.there) (by rfl) (by rfl) (by first | (refine PartAt.l ?_; (simp; done)) | (refine PartAt.r ?_ ?_ <;> (simp; done)) | (refine PartAt.all ?_; (simp; done))) (by rfl) ?_;exact k.h) : a := h ⟨k⟩
theorem gneg_spec {a b e f : Nat} (ha : a < W ^ 6) (hb : b < W ^ 6) (he : e < W ^ 6) (hf : f < W ^ 6) (i : Bool) : Spec Try.prog 39 [G4 a b e f i] NoPre [] (IsV (GV (Kf.K2.pn (ptv (k2 a b) (k2 e f) i)))) := by
 refine mk_spec Try.func39 rfl rfl rfl fun w _ => ?_
 have hl0 := fun x => D_len 6 x
 have hle := fun x : F2 => E2_len x
 have h1 : Spec Try.prog 38 [G4 a b e f i] NoPre [] (IsV (GE (gx (ptv (k2 a b) (k2 e f) i)) (gy (ptv (k2 a b) (k2 e f) i)) (gi (ptv (k2 a b) (k2 e f) i)))) := gred_spec ha hb he hf i
 rw [GV_neg]
 generalize ptv (k2 a b) (k2 e f) i = P at h1 ⊢
 have h2 := snegE (gy P)
 generalize gx P = x at h1 ⊢
 generalize gy P = y at h1 h2 ⊢
 generalize gi P = i' at h1 ⊢
 repeat (first|(refine y_92 ?_;intro _)|refine y_54 ?_|refine y_64 ?_|refine y_103 ?_|refine y_104 ?_|refine y_2 h1 ?_|refine y_2 h2 ?_|refine y_96 ?_|refine st_stG2 (by rfl) (by rfl) (by repeat first|apply Find.here|apply Find.there) (by rfl) (E2_len _) (E2_len _) (E2_len _) ?_|refine Z03 ?_|refine Z04 ?_|refine Z05 ?_|refine Z06 ?_|refine Z07 ?_|refine Z08 ?_|refine Z09 ?_|refine Z10 ?_|refine Z11 ?_|refine Z12 ?_|refine Z13 ?_|refine Z14 ?_|refine Z24 ?_|refine Z25 ?_|refine Z26 ?_|refine Z27 ?_|refine Z28 ?_|refine Z29 ?_|refine Z30 ?_|refine Z31 ?_|refine Z32 ?_|refine Z67 ?_|refine Z81 fun _ => ?_|refine Z82 fun _ => ?_)
 refine st_endc_GL (m := 24) (by rfl) (by rfl) (by repeat first|apply Find.here|apply Find.there) (by rfl) (by rfl) (by first|with_reducible assumption|simp) fun _ hw => post_of hw SubW.nil ⟨?_, rfl⟩
 rfl
end Go.Proofs.Ytbpmbdlgmmabcaa.L
namespace Go.Proofs.Ytbpmbdlgmmabcaa.L
open Go Go.Proofs
set_option maxRecDepth 100000
attribute [local irreducible] Code.wp wpList Af bodyPost L.Go
open Num
attribute [local simp] D_len
theorem y_105 {a b : Prop} (k : b) (h : Rm b → a := by intro k;(first|refine Z01 ?_|refine Z02 ?_|refine Z03 ?_|refine Z04 ?_|refine Z05 ?_|refine Z06 ?_|refine Z07 ?_|refine Z08 ?_|refine Z09 ?_|refine Z10 ?_|refine Z11 ?_|refine Z12 ?_|refine Z13 ?_|refine Z14 ?_|refine Z24 ?_|refine Z25 ?_|refine Z26 ?_|refine Z27 ?_|refine Z28 ?_|refine Z29 ?_|refine Z30 ?_|refine Z31 ?_|refine Z32 ?_|refine Z49 ?_|refine Z50 ?_|refine Z51 ?_|refine Z52 ?_|refine Z53 ?_|refine Z65 ?_|refine Z67 ?_|refine Z77 ?_|refine Z78 ?_|refine Z79 ?_);exact k.h) : a := h ⟨k⟩
theorem y_106 {a b : Prop} (k : b) (h : Rm b → a := by intro k;refine R.Zpp (by rfl) (by intro _ _ _;refine st_load_GL (m := 24) (by rfl) (by repeat first|apply Find.here|apply Find.there) (by rfl) (by rfl) (by first|with_reducible assumption|simp) (by rfl) ?_;exact Zq) ?_;exact k.h) : a := h ⟨k⟩
theorem y_107 {a b : Prop} (k : b) (h : Rm b → a := by intro k;refine st_ne2 (by rfl) (by rfl) (by rfl) (by kernel_rfl) (by rfl) (by rfl) (by rfl) (by rfl) (by rfl) (by rfl) (by rfl) (by rfl) (by rfl) (by rfl) (by kernel_rfl) (by simp; done) (by simp; done) (by simp; done) (by simp; done) (by rfl) ?_;exact k.h) : a := h ⟨k⟩
theorem y_108 {a b : Prop} (k : b) (h : Rm b → a := by intro k;refine st_ne2v (hr := E2_same _) (by rfl) (by rfl) (by rfl) (by kernel_rfl) (by rfl) (by rfl) (by rfl) (by rfl) (by rfl) (by rfl) (by rfl) (by rfl) (by rfl) (by rfl) (by kernel_rfl) (by simp; done) (by simp; done) (by simp; done) (by simp; done) (by rfl) ?_;exact k.h) : a := h ⟨k⟩
theorem y_109 {S1 a b : Prop} (s1 : S1) (k : b) (h : S1 → Rm b → a := by intro s1 k;refine st_ne2v (hr := s1) (by rfl) (by rfl) (by rfl) (by kernel_rfl) (by rfl) (by rfl) (by rfl) (by rfl) (by rfl) (by rfl) (by rfl) (by rfl) (by rfl) (by rfl) (by kernel_rfl) (by simp; done) (by simp; done) (by simp; done) (by simp; done) (by rfl) ?_;exact k.h) : a := h s1 ⟨k⟩
theorem y_161 {a b : Prop} (k : b) (h : Rm b → a := by intro k;(first|refine y_101 ?_|refine y_54 ?_|refine y_64 ?_|refine y_55 ?_|refine y_66 ?_|refine y_107 ?_|refine y_103 ?_|refine y_96 ?_|refine Z01 ?_|refine Z02 ?_|refine Z03 ?_|refine Z04 ?_|refine Z05 ?_|refine Z06 ?_|refine Z07 ?_|refine Z08 ?_|refine Z09 ?_|refine Z10 ?_|refine Z11 ?_|refine Z12 ?_|refine Z13 ?_|refine Z14 ?_|refine Z24 ?_|refine Z25 ?_|refine Z26 ?_|refine Z27 ?_|refine Z28 ?_|refine Z29 ?_|refine Z30 ?_|refine Z31 ?_|refine Z32 ?_|refine Z49 ?_|refine Z50 ?_|refine Z51 ?_|refine Z52 ?_|refine Z53 ?_|refine Z65 ?_|refine Z67 ?_|refine Z77 ?_|refine Z78 ?_|refine Z79 ?_);exact k.h) : a := h ⟨k⟩
theorem y_162 {a b : Prop} (k : b) (h : Rm b → a := by intro k;(first|refine y_54 ?_|refine y_55 ?_|refine y_66 ?_|refine y_107 ?_|refine Z01 ?_|refine Z02 ?_|refine Z49 ?_|refine Z50 ?_|refine Z65 ?_|refine Z77 ?_|refine Z78 ?_|refine Z79 ?_);exact k.h) : a := h ⟨k⟩
theorem y_163 {a b : Prop} (k : b) (h : Rm b → a := by intro k;(first|refine y_54 ?_|refine y_55 ?_|refine y_66 ?_|refine y_107 ?_|refine y_97 ?_|refine Z01 ?_|refine Z02 ?_|refine Z49 ?_|refine Z50 ?_|refine Z65 ?_|refine Z77 ?_|refine Z78 ?_|refine Z79 ?_);exact k.h) : a := h ⟨k⟩
theorem y_164 {a b : Prop} (k : b) (h : Rm b → a := by intro k;(first|refine y_101 ?_|refine y_54 ?_|refine y_64 ?_|refine y_55 ?_|refine y_66 ?_|refine y_107 ?_|refine y_103 ?_|refine y_104 ?_|refine y_95 ?_|refine y_96 ?_|refine Z01 ?_|refine Z02 ?_|refine Z03 ?_|refine Z04 ?_|refine Z05 ?_|refine Z06 ?_|refine Z07 ?_|refine Z08 ?_|refine Z09 ?_|refine Z10 ?_|refine Z11 ?_|refine Z12 ?_|refine Z13 ?_|refine Z14 ?_|refine Z24 ?_|refine Z25 ?_|refine Z26 ?_|refine Z27 ?_|refine Z28 ?_|refine Z29 ?_|refine Z30 ?_|refine Z31 ?_|refine Z32 ?_|refine Z49 ?_|refine Z50 ?_|refine Z51 ?_|refine Z52 ?_|refine Z53 ?_|refine Z65 ?_|refine Z67 ?_|refine Z77 ?_|refine Z78 ?_|refine Z79 ?_);exact k.h) : a := h ⟨k⟩
theorem y_181 {a b : Prop} (k : b) (h : Rm b → a := by intro k;refine R.Zpf (by rfl) (by intro _ _ _;(first|refine y_162 ?_);exact Zq) ?_;exact k.h) : a := h ⟨k⟩
theorem y_182 {a b : Prop} (k : b) (h : Rm b → a := by intro k;(first|(refine R.Zpf (by rfl) (by intro _ _ _;(first|refine y_163 ?_);exact Zq) ?_)|refine y_148 ?_|refine y_58 ?_|refine y_102 ?_);exact k.h) : a := h ⟨k⟩
theorem y_189 {a b : Prop} (k : b) (h : Rm b → a := by intro k;(first|refine y_181 ?_|refine y_148 ?_|refine y_58 ?_|refine y_102 ?_);exact k.h) : a := h ⟨k⟩
set_option maxHeartbeats 8000000 in
theorem gadd_spec {a b e f a' b' e' f' : Nat} (ha : a < W ^ 6) (hb : b < W ^ 6) (he : e < W ^ 6) (hf : f < W ^ 6) (i : Bool) (ha' : a' < W ^ 6) (hb' : b' < W ^ 6) (he' : e' < W ^ 6) (hf' : f' < W ^ 6) (j : Bool) :
  Spec Try.prog 41 [G4 a b e f i, G4 a' b' e' f' j] NoPre [] (IsV (GV (Kf.K2.pa (ptv (k2 a b) (k2 e f) i) (ptv (k2 a' b') (k2 e' f') j)))) := by
 refine mk_spec Try.func41 rfl rfl rfl fun w _ => ?_
 have hl0 := fun x => D_len 6 x
 have hle := fun x : F2 => E2_len x
 have h1 := gred_spec ha hb he hf i
 have h2 := gred_spec ha' hb' he' hf' j
 generalize ptv (k2 a b) (k2 e f) i = P at h1 ⊢
 generalize ptv (k2 a' b') (k2 e' f') j = Q at h2 ⊢
 obtain ⟨x1, y1, i1, ex1, ey1, ei1⟩ : ∃ x y i, x = gx P ∧ y = gy P ∧ i = gi P := ⟨_, _, _, rfl, rfl, rfl⟩
 obtain ⟨x2, y2, i2, ex2, ey2, ei2⟩ : ∃ x y i, x = gx Q ∧ y = gy Q ∧ i = gi Q := ⟨_, _, _, rfl, rfl, rfl⟩
 have g1 : GV P = GE x1 y1 i1 := by rw [ex1, ey1, ei1]
 have g2 : GV Q = GE x2 y2 i2 := by rw [ex2, ey2, ei2]
 rw [g1] at h1
 rw [g2] at h2
 repeat (first|(refine y_92 ?_;intro _)|refine y_105 ?_|refine Z81 fun _ => ?_|refine Z82 fun _ => ?_)
 refine R.st_perm [0, 1, 2, 3, 4, 5] (by rfl) ?_
 repeat (first|(refine R.Zpf (by rfl) (by intro _ _ _;(first|refine Z01 ?_|refine Z02 ?_|refine Z49 ?_|refine Z50 ?_|refine Z65 ?_|refine Z77 ?_|refine Z78 ?_|refine Z79 ?_);exact Zq) ?_)|refine y_148 ?_|refine y_106 ?_|refine y_59 h1 ?_|refine y_59 h2 ?_|refine y_180 ?_|(refine y_50 ?_;intro _)|refine R.Zpo (by rfl) ?_)
 refine R.Zp0 ?_
 clear h1 h2 g1
 cases P with
 | none =>
  cases (show i1 = true from ei1)
  rw [show Kf.K2.pa none Q = Q from rfl, g2]
  repeat (first|(refine y_52 ?_;intro _)|refine y_161 ?_|refine Z81 fun _ => ?_|refine Z82 fun _ => ?_)
  refine st_endc_GL (m := 24) (by rfl) (by rfl) (by repeat first|apply Find.here|apply Find.there) (by rfl) (by rfl) (by first|with_reducible assumption|simp) fun _ hw => post_of hw SubW.nil ⟨?_, rfl⟩
  rfl
 | some q1 =>
  obtain ⟨a1, b1⟩ := q1
  cases (show x1 = a1 from ex1)
  cases (show y1 = b1 from ey1)
  cases (show i1 = false from ei1)
  clear ex1 ey1 ei1 g2
  cases Q with
  | none =>
   cases (show i2 = true from ei2)
   rw [Kf.K2.pa_none_right, GV_some]
   repeat (first|(refine y_52 ?_;intro _)|refine y_161 ?_|refine Z81 fun _ => ?_|refine Z82 fun _ => ?_)
   refine st_endc_GL (m := 24) (by rfl) (by rfl) (by repeat first|apply Find.here|apply Find.there) (by rfl) (by rfl) (by first|with_reducible assumption|simp) fun _ hw => post_of hw SubW.nil ⟨?_, rfl⟩
   rfl
  | some q2 =>
   obtain ⟨a2, b2⟩ := q2
   cases (show x2 = a2 from ex2)
   cases (show y2 = b2 from ey2)
   cases (show i2 = false from ei2)
   clear ex2 ey2 ei2
   by_cases hx : x1 = x2
   ·by_cases hy : y1 = y2 ∧ y1 ≠ Kf.K2.zero
    ·have hpa : Kf.K2.pa (some (x1, y1)) (some (x2, y2)) = some (Kf.K2.cx (Kf.K2.tang x1 y1) x1 x2, Kf.K2.cy (Kf.K2.tang x1 y1) x1 y1 x2) := by
      show (if x1 = x2 then if y1 = y2 ∧ y1 ≠ Kf.K2.zero then _ else _ else _) = _
      rw [if_pos hx, if_pos hy]
     rw [hpa, GV_some]
     obtain ⟨hy1, hy2⟩ := hy
     subst hx
     subst hy1
     have m1 := smulE x1 x1
     have m2 := saddE (Kf.K2.mul x1 x1) (Kf.K2.mul x1 x1)
     have m3 := saddE (Kf.K2.add (Kf.K2.mul x1 x1) (Kf.K2.mul x1 x1)) (Kf.K2.mul x1 x1)
     have m4 := saddE y1 y1
     rw [Kf.K2.tang, Kf.K2.q3]
     clear hpa
     generalize Kf.K2.add (Kf.K2.add (Kf.K2.mul x1 x1) (Kf.K2.mul x1 x1)) (Kf.K2.mul x1 x1) = u at m3 ⊢
     generalize Kf.K2.add (Kf.K2.mul x1 x1) (Kf.K2.mul x1 x1) = u1 at m2 m3
     generalize Kf.K2.mul x1 x1 = u2 at m1 m2 m3
     generalize Kf.K2.add y1 y1 = v at m4 ⊢
     repeat (first|refine y_108 ?_|refine y_91 (E2_diff hy2) ?_|refine y_72 ?_|(refine y_52 ?_;intro _)|refine y_101 ?_|refine y_54 ?_|refine y_64 ?_|refine y_55 ?_|refine y_66 ?_|refine y_107 ?_|refine y_103 ?_|refine y_104 ?_|refine y_96 ?_|refine y_2 m1 ?_|refine y_105 ?_|refine Z81 fun _ => ?_|refine Z82 fun _ => ?_)
     refine R.st_perm [0, 1, 2, 3, 4, 5, 6, 7, 8, 9, 10, 11] (by rfl) ?_
     repeat (first|refine y_189 ?_|refine y_59 m2 ?_|refine y_59 m3 ?_|refine y_59 m4 ?_|refine y_145 ?_|(refine y_50 ?_;intro _)|refine R.Zpo (by rfl) ?_)
     refine R.Zp0 ?_
     repeat (first|refine y_105 ?_|refine Z81 fun _ => ?_|refine Z82 fun _ => ?_)
     obtain ⟨l, hl⟩ : ∃ l : F2, l = Kf.K2.mul u (Kf.K2.inv v) := ⟨_, rfl⟩
     have k1 := sinvE v
     have k2 := smulE u (Kf.K2.inv v)
     rw [← hl] at k2 ⊢
     generalize Kf.K2.inv v = vi at k1 k2
     clear hl
     have k3 := smulE l l
     have k4 := ssubE (Kf.K2.mul l l) x1
     have k5 := ssubE (Kf.K2.sub (Kf.K2.mul l l) x1) x1
     have k6 := ssubE x1 (Kf.K2.cx l x1 x1)
     have k7 := smulE l (Kf.K2.sub x1 (Kf.K2.cx l x1 x1))
     have k8 := ssubE (Kf.K2.mul l (Kf.K2.sub x1 (Kf.K2.cx l x1 x1))) y1
     rw [show Kf.K2.sub (Kf.K2.sub (Kf.K2.mul l l) x1) x1 = Kf.K2.cx l x1 x1 from rfl] at k5
     rw [show Kf.K2.sub (Kf.K2.mul l (Kf.K2.sub x1 (Kf.K2.cx l x1 x1))) y1 = Kf.K2.cy l x1 y1 x1 from rfl] at k8
     generalize Kf.K2.cy l x1 y1 x1 = yy at k8 ⊢
     generalize Kf.K2.mul l (Kf.K2.sub x1 (Kf.K2.cx l x1 x1)) = g1 at k7 k8
     generalize Kf.K2.sub x1 (Kf.K2.cx l x1 x1) = g2 at k6 k7
     generalize Kf.K2.cx l x1 x1 = xx at k5 k6 ⊢
     generalize Kf.K2.sub (Kf.K2.mul l l) x1 = g3 at k4 k5
     generalize Kf.K2.mul l l = g4 at k3 k4
     refine R.st_perm [0, 1, 2, 3, 4, 5] (by rfl) ?_
     repeat (first|refine y_181 ?_|refine y_148 ?_|refine y_58 ?_|refine y_59 k1 ?_|refine y_59 k2 ?_|refine y_145 ?_|(refine y_88 ?_;intro _)|(refine y_50 ?_;intro _)|refine R.Zpo (by rfl) ?_)
     refine R.Zp0 ?_
     repeat (first|refine y_105 ?_|refine Z81 fun _ => ?_|refine Z82 fun _ => ?_)
     refine R.st_perm [0, 1, 2, 3, 4, 5, 6, 7, 8, 9, 10] (by rfl) ?_
     repeat (first|refine y_189 ?_|refine y_59 k3 ?_|refine y_59 k4 ?_|refine y_59 k5 ?_|refine y_145 ?_|(refine y_88 ?_;intro _)|(refine y_50 ?_;intro _)|refine R.Zpo (by rfl) ?_)
     refine R.Zp0 ?_
     repeat (first|refine y_105 ?_|refine Z81 fun _ => ?_|refine Z82 fun _ => ?_)
     refine R.st_perm [0, 1, 2, 3, 4, 5, 6, 7, 8, 9, 10, 11] (by rfl) ?_
     repeat (first|refine y_182 ?_|refine y_59 k6 ?_|refine y_59 k7 ?_|refine y_59 k8 ?_|refine y_180 ?_|(refine y_50 ?_;intro _)|refine R.Zpo (by rfl) ?_)
     refine R.Zp0 ?_
     repeat (first|refine y_105 ?_|refine Z81 fun _ => ?_|refine Z82 fun _ => ?_)
     refine st_endc_GL (m := 24) (by rfl) (by rfl) (by repeat first|apply Find.here|apply Find.there) (by rfl) (by rfl) (by first|with_reducible assumption|simp) fun _ hw => post_of hw SubW.nil ⟨?_, rfl⟩
     rfl
    ·have hpa : Kf.K2.pa (some (x1, y1)) (some (x2, y2)) = none := by
      show (if x1 = x2 then if y1 = y2 ∧ y1 ≠ Kf.K2.zero then _ else _ else _) = _
      rw [if_pos hx, if_neg hy]
     rw [hpa, GV_none]
     subst hx
     by_cases hy1 : y1 = y2
     ·subst hy1
      have hy2 : y1 = Kf.K2.zero := Classical.not_not.1 fun h => hy ⟨rfl, h⟩
      have hz2 : (decide (D 6 y1.re.val = D 6 (Kf.K2.zero : F2).re.val) && decide (D 6 y1.im.val = D 6 (Kf.K2.zero : F2).im.val)) = true := by rw [hy2]; exact E2_same _
      repeat (first|refine y_108 ?_|refine y_91 hz2 ?_|refine y_72 ?_|(refine y_52 ?_;intro _)|refine y_164 ?_|refine Z81 fun _ => ?_|refine Z82 fun _ => ?_)
      refine st_endc_GL (m := 24) (by rfl) (by rfl) (by repeat first|apply Find.here|apply Find.there) (by rfl) (by rfl) (by first|with_reducible assumption|simp) fun _ hw => post_of hw SubW.nil ⟨?_, rfl⟩
      rfl
     ·repeat (first|refine y_108 ?_|refine y_109 (E2_diff hy1) ?_|(refine y_52 ?_;intro _)|refine y_164 ?_|refine Z81 fun _ => ?_|refine Z82 fun _ => ?_)
      refine st_endc_GL (m := 24) (by rfl) (by rfl) (by repeat first|apply Find.here|apply Find.there) (by rfl) (by rfl) (by first|with_reducible assumption|simp) fun _ hw => post_of hw SubW.nil ⟨?_, rfl⟩
      rfl
   ·have hpa : Kf.K2.pa (some (x1, y1)) (some (x2, y2)) = some (Kf.K2.cx (Kf.K2.chor x1 y1 x2 y2) x1 x2, Kf.K2.cy (Kf.K2.chor x1 y1 x2 y2) x1 y1 x2) := by
     show (if x1 = x2 then _ else _) = _
     rw [if_neg hx]
    rw [hpa, GV_some]
    have m1 := ssubE y2 y1
    have m2 := ssubE x2 x1
    rw [Kf.K2.chor]
    generalize Kf.K2.sub y2 y1 = u at m1 ⊢
    generalize Kf.K2.sub x2 x1 = v at m2 ⊢
    repeat (first|refine y_109 (E2_diff hx) ?_|(refine y_52 ?_;intro _)|refine y_101 ?_|refine y_54 ?_|refine y_64 ?_|refine y_55 ?_|refine y_66 ?_|refine y_107 ?_|refine y_103 ?_|refine y_104 ?_|refine y_96 ?_|refine Z01 ?_|refine Z02 ?_|refine Z03 ?_|refine Z04 ?_|refine Z05 ?_|refine Z06 ?_|refine Z07 ?_|refine Z08 ?_|refine Z09 ?_|refine Z10 ?_|refine Z11 ?_|refine Z12 ?_|refine Z13 ?_|refine Z14 ?_|refine Z24 ?_|refine Z25 ?_|refine Z26 ?_|refine Z27 ?_|refine Z28 ?_|refine Z29 ?_|refine Z30 ?_|refine Z31 ?_|refine Z32 ?_|refine Z49 ?_|refine Z50 ?_|refine Z51 ?_|refine Z52 ?_|refine Z53 ?_|refine Z65 ?_|refine Z67 ?_|refine Z77 ?_|refine Z78 ?_|refine Z79 ?_|refine Z81 fun _ => ?_|refine Z82 fun _ => ?_)
    refine R.st_perm [0, 1, 2, 3, 4, 5, 6, 7, 8, 9, 10, 11] (by rfl) ?_
    repeat (first|refine y_189 ?_|refine y_59 m1 ?_|refine y_59 m2 ?_|refine y_145 ?_|(refine y_50 ?_;intro _)|refine R.Zpo (by rfl) ?_)
    refine R.Zp0 ?_
    repeat (first|refine y_105 ?_|refine Z81 fun _ => ?_|refine Z82 fun _ => ?_)
    obtain ⟨l, hl⟩ : ∃ l : F2, l = Kf.K2.mul u (Kf.K2.inv v) := ⟨_, rfl⟩
    have k1 := sinvE v
    have k2 := smulE u (Kf.K2.inv v)
    rw [← hl] at k2 ⊢
    generalize Kf.K2.inv v = vi at k1 k2
    clear hl
    have k3 := smulE l l
    have k4 := ssubE (Kf.K2.mul l l) x1
    have k5 := ssubE (Kf.K2.sub (Kf.K2.mul l l) x1) x2
    have k6 := ssubE x1 (Kf.K2.cx l x1 x2)
    have k7 := smulE l (Kf.K2.sub x1 (Kf.K2.cx l x1 x2))
    have k8 := ssubE (Kf.K2.mul l (Kf.K2.sub x1 (Kf.K2.cx l x1 x2))) y1
    rw [show Kf.K2.sub (Kf.K2.sub (Kf.K2.mul l l) x1) x2 = Kf.K2.cx l x1 x2 from rfl] at k5
    rw [show Kf.K2.sub (Kf.K2.mul l (Kf.K2.sub x1 (Kf.K2.cx l x1 x2))) y1 = Kf.K2.cy l x1 y1 x2 from rfl] at k8
    generalize Kf.K2.cy l x1 y1 x2 = yy at k8 ⊢
    generalize Kf.K2.mul l (Kf.K2.sub x1 (Kf.K2.cx l x1 x2)) = g1 at k7 k8
    generalize Kf.K2.sub x1 (Kf.K2.cx l x1 x2) = g2 at k6 k7
    generalize Kf.K2.cx l x1 x2 = xx at k5 k6 ⊢
    generalize Kf.K2.sub (Kf.K2.mul l l) x1 = g3 at k4 k5
    generalize Kf.K2.mul l l = g4 at k3 k4
    refine R.st_perm [0, 1, 2, 3, 4, 5] (by rfl) ?_
    repeat (first|refine y_181 ?_|refine y_148 ?_|refine y_58 ?_|refine y_59 k1 ?_|refine y_59 k2 ?_|refine y_145 ?_|(refine y_88 ?_;intro _)|(refine y_50 ?_;intro _)|refine R.Zpo (by rfl) ?_)
    refine R.Zp0 ?_
    repeat (first|refine y_105 ?_|refine Z81 fun _ => ?_|refine Z82 fun _ => ?_)
    refine R.st_perm [0, 1, 2, 3, 4, 5, 6, 7, 8, 9, 10] (by rfl) ?_
    repeat (first|refine y_189 ?_|refine y_59 k3 ?_|refine y_59 k4 ?_|refine y_59 k5 ?_|refine y_145 ?_|(refine y_88 ?_;intro _)|(refine y_50 ?_;intro _)|refine R.Zpo (by rfl) ?_)
    refine R.Zp0 ?_
    repeat (first|refine y_105 ?_|refine Z81 fun _ => ?_|refine Z82 fun _ => ?_)
    refine R.st_perm [0, 1, 2, 3, 4, 5, 6, 7, 8, 9, 10, 11] (by rfl) ?_
    repeat (first|refine y_182 ?_|refine y_59 k6 ?_|refine y_59 k7 ?_|refine y_59 k8 ?_|refine y_180 ?_|(refine y_50 ?_;intro _)|refine R.Zpo (by rfl) ?_)
    refine R.Zp0 ?_
    repeat (first|refine y_105 ?_|refine Z81 fun _ => ?_|refine Z82 fun _ => ?_)
    refine st_endc_GL (m := 24) (by rfl) (by rfl) (by repeat first|apply Find.here|apply Find.there) (by rfl) (by rfl) (by first|with_reducible assumption|simp) fun _ hw => post_of hw SubW.nil ⟨?_, rfl⟩
    rfl
end Go.Proofs.Ytbpmbdlgmmabcaa.L
namespace Go.Proofs.Ytbpmbdlgmmabcaa.L
open Go Go.Proofs
set_option maxRecDepth 100000
attribute [local irreducible] Code.wp wpList Af bodyPost L.Go
open Num
attribute [local simp] D_len
abbrev J36 (x y z : F2) : Value := LV .u64 (E2 x ++ (E2 y ++ E2 z))
theorem zero36 : (List.replicate 36 0 : List Nat) = E2 (Kf.K2.zero : F2) ++ (E2 (Kf.K2.zero : F2) ++ E2 (Kf.K2.zero : F2)) := by decide +kernel
theorem J36_len (x y z : F2) : (E2 x ++ (E2 y ++ E2 z)).length = 36 := by simp
theorem y_110 {a b : Prop} (k : b) (h : Rm b → a := by intro k;refine st_alloc (E := 97) (v := LV .u64 (List.replicate 36 0)) (by kernel_rfl) (by rfl) ?_;exact k.h) : a := h ⟨k⟩
theorem y_111 {a b : Prop} (k : b) (h : Rm b → a := by intro k;(first|refine Z01 ?_|refine Z03 ?_|refine Z04 ?_|refine Z05 ?_|refine Z06 ?_|refine Z07 ?_|refine Z08 ?_|refine Z09 ?_|refine Z10 ?_|refine Z11 ?_|refine Z12 ?_|refine Z13 ?_|refine Z14 ?_|refine Z15 ?_|refine Z17 ?_|refine Z18 ?_|refine Z24 ?_|refine Z25 ?_|refine Z26 ?_|refine Z27 ?_|refine Z28 ?_|refine Z29 ?_|refine Z30 ?_|refine Z31 ?_|refine Z32 ?_|refine Z65 ?_|refine Z67 ?_|refine Z70 ?_);exact k.h) : a := h ⟨k⟩
theorem y_112 {a b : Prop} (k : b) (h : Rm b → a := by intro k;refine st_fld (by rfl) (show _ = some (24, 12) from rfl) (by rfl) (by rfl) ?_;exact k.h) : a := h ⟨k⟩
theorem y_113 {a b : Prop} (k : b) (h : Rm b → a := by intro k;refine R.Zpp (by rfl) (by intro _ _ _;(refine st_ldp (by rfl) (by repeat first|apply Find.here|apply Find.there) (by rfl) (by rfl) (PartAt.t0 (E2_len _)) (by rfl) ?_);exact Zq) ?_;exact k.h) : a := h ⟨k⟩
theorem y_114 {a b : Prop} (k : b) (h : Rm b → a := by intro k;refine R.Zpp (by rfl) (by intro _ _ _;(refine st_ldp (by rfl) (by repeat first|apply Find.here|apply Find.there) (by rfl) (by rfl) (PartAt.t1 (E2_len _) (E2_len _)) (by rfl) ?_);exact Zq) ?_;exact k.h) : a := h ⟨k⟩
theorem y_115 {a b : Prop} (k : b) (h : Rm b → a := by intro k;refine R.Zpp (by rfl) (by intro _ _ _;(refine st_ldp (by rfl) (by repeat first|apply Find.here|apply Find.there) (by rfl) (by rfl) (PartAt.t2 (E2_len _) (E2_len _) (E2_len _)) (by rfl) ?_);exact Zq) ?_;exact k.h) : a := h ⟨k⟩
theorem y_116 {a b : Prop} (k : b) (h : Rm b → a := by intro k;refine st_ldp (by rfl) (by repeat first|apply Find.here|apply Find.there) (by rfl) (by rfl) (PartAt.t0 (E2_len _)) (by rfl) ?_;exact k.h) : a := h ⟨k⟩
theorem y_117 {a b : Prop} (k : b) (h : Rm b → a := by intro k;refine st_ldp (by rfl) (by repeat first|apply Find.here|apply Find.there) (by rfl) (by rfl) (PartAt.t1 (E2_len _) (E2_len _)) (by rfl) ?_;exact k.h) : a := h ⟨k⟩
theorem y_118 {a b : Prop} (k : b) (h : Rm b → a := by intro k;refine st_ldp (by rfl) (by repeat first|apply Find.here|apply Find.there) (by rfl) (by rfl) (PartAt.t2 (E2_len _) (E2_len _) (E2_len _)) (by rfl) ?_;exact k.h) : a := h ⟨k⟩
theorem y_119 {a b : Prop} (k : b) (h : Rm b → a := by intro k;refine st_build3 (m := 12) (by rfl) (by rfl) (by kernel_rfl) (by rfl) (E2_len _) (E2_len _) (E2_len _) (by rfl) ?_;exact k.h) : a := h ⟨k⟩
theorem y_120 {a b : Prop} (k : b) (h : Rm b → a := by intro k;refine R.Zps (by rfl) (by intro _ _ _;(refine st_store_LV (m := 36) (by rfl) (by rfl) (by repeat first|apply Find.here|apply Find.there) (by rfl) (by simp) (J36_len _ _ _) ?_);exact Zqq) ?_;exact k.h) : a := h ⟨k⟩
theorem y_165 {a b : Prop} (k : b) (h : Rm b → a := by intro k;(first|refine y_54 ?_|refine y_112 ?_|refine Z01 ?_|refine Z15 ?_|refine Z17 ?_|refine Z18 ?_|refine Z65 ?_|refine Z70 ?_);exact k.h) : a := h ⟨k⟩
theorem y_166 {a b : Prop} (k : b) (h : Rm b → a := by intro k;(first|refine y_116 ?_|refine y_117 ?_|refine y_118 ?_|refine y_54 ?_|refine y_64 ?_|refine y_112 ?_);exact k.h) : a := h ⟨k⟩
theorem y_167 {a b : Prop} (k : b) (h : Rm b → a := by intro k;(first|refine y_54 ?_|refine Z01 ?_|refine Z15 ?_|refine Z17 ?_|refine Z18 ?_|refine Z65 ?_|refine Z70 ?_);exact k.h) : a := h ⟨k⟩
theorem y_168 {a b : Prop} (k : b) (h : Rm b → a := by intro k;(first|refine y_54 ?_|refine y_119 ?_|refine Z01 ?_|refine Z15 ?_|refine Z17 ?_|refine Z18 ?_|refine Z65 ?_|refine Z70 ?_);exact k.h) : a := h ⟨k⟩
theorem y_183 {a b : Prop} (k : b) (h : Rm b → a := by intro k;(first|(refine R.Zpf (by rfl) (by intro _ _ _;(first|refine y_165 ?_);exact Zq) ?_)|refine y_148 ?_|refine y_58 ?_|refine y_113 ?_|refine y_114 ?_|refine y_115 ?_);exact k.h) : a := h ⟨k⟩
theorem y_184 {a b : Prop} (k : b) (h : Rm b → a := by intro k;refine R.Zpf (by rfl) (by intro _ _ _;(first|refine y_167 ?_);exact Zq) ?_;exact k.h) : a := h ⟨k⟩
theorem y_190 {a b : Prop} (k : b) (h : Rm b → a := by intro k;(first|refine y_184 ?_|refine y_148 ?_|refine y_58 ?_);exact k.h) : a := h ⟨k⟩
set_option maxHeartbeats 8000000 in
theorem twice_spec (x y z : F2) : Spec Try.prog 127 [J36 x y z] NoPre [] (IsV (J36 (Kf.K2.tX x y) (Kf.K2.tY x y) (Kf.K2.tZ y z))) := by
 refine mk_spec Try.func127 rfl rfl rfl fun w _ => ?_
 have hl0 := fun x => D_len 6 x
 have hle := fun x : F2 => E2_len x
 have a1 := smulE x x
 have a2 := smulE y y
 have a3 := smulE x (Kf.K2.mul y y)
 have a4 := saddE (Kf.K2.td0 x y) (Kf.K2.td0 x y)
 have a5 := saddE (Kf.K2.td1 x y) (Kf.K2.td1 x y)
 have a6 := saddE (Kf.K2.mul x x) (Kf.K2.mul x x)
 have a7 := saddE (Kf.K2.add (Kf.K2.mul x x) (Kf.K2.mul x x)) (Kf.K2.mul x x)
 have a8 := smulE (Kf.K2.te x) (Kf.K2.te x)
 have a9 := saddE (Kf.K2.td x y) (Kf.K2.td x y)
 have b1 := ssubE (Kf.K2.mul (Kf.K2.te x) (Kf.K2.te x)) (Kf.K2.add (Kf.K2.td x y) (Kf.K2.td x y))
 have b2 := smulE (Kf.K2.mul y y) (Kf.K2.mul y y)
 have b3 := fun k => saddE (Kf.K2.tc y k) (Kf.K2.tc y k)
 have b4 := smulE y z
 have b5 := saddE (Kf.K2.mul y z) (Kf.K2.mul y z)
 have b6 := ssubE (Kf.K2.td x y) (Kf.K2.tX x y)
 have b7 := smulE (Kf.K2.te x) (Kf.K2.sub (Kf.K2.td x y) (Kf.K2.tX x y))
 have b8 := ssubE (Kf.K2.mul (Kf.K2.te x) (Kf.K2.sub (Kf.K2.td x y) (Kf.K2.tX x y))) (Kf.K2.tc y 3)
 rw [show Kf.K2.mul x (Kf.K2.mul y y) = Kf.K2.td0 x y from rfl] at a3
 rw [show Kf.K2.add (Kf.K2.td0 x y) (Kf.K2.td0 x y) = Kf.K2.td1 x y from rfl] at a4
 rw [show Kf.K2.add (Kf.K2.td1 x y) (Kf.K2.td1 x y) = Kf.K2.td x y from rfl] at a5
 rw [show Kf.K2.add (Kf.K2.add (Kf.K2.mul x x) (Kf.K2.mul x x)) (Kf.K2.mul x x) = Kf.K2.te x from rfl] at a7
 rw [show Kf.K2.sub (Kf.K2.mul (Kf.K2.te x) (Kf.K2.te x)) (Kf.K2.add (Kf.K2.td x y) (Kf.K2.td x y)) = Kf.K2.tX x y from rfl] at b1
 rw [show Kf.K2.mul (Kf.K2.mul y y) (Kf.K2.mul y y) = Kf.K2.tc y 0 from rfl] at b2
 have b3 : ∀ k, Spec Try.prog 31 [LV .u64 (E2 (Kf.K2.tc y k)), LV .u64 (E2 (Kf.K2.tc y k))] NoPre [] (IsV (LV .u64 (E2 (Kf.K2.tc y (k + 1))))) := b3
 rw [show Kf.K2.add (Kf.K2.mul y z) (Kf.K2.mul y z) = Kf.K2.tZ y z from rfl] at b5
 rw [show Kf.K2.sub (Kf.K2.mul (Kf.K2.te x) (Kf.K2.sub (Kf.K2.td x y) (Kf.K2.tX x y))) (Kf.K2.tc y 3) = Kf.K2.tY x y from rfl] at b8
 generalize Kf.K2.mul (Kf.K2.te x) (Kf.K2.sub (Kf.K2.td x y) (Kf.K2.tX x y)) = c1 at *
 generalize Kf.K2.sub (Kf.K2.td x y) (Kf.K2.tX x y) = c2 at *
 generalize Kf.K2.mul y z = c3 at *
 generalize Kf.K2.mul (Kf.K2.te x) (Kf.K2.te x) = c4 at *
 generalize Kf.K2.add (Kf.K2.td x y) (Kf.K2.td x y) = c5 at *
 generalize Kf.K2.add (Kf.K2.mul x x) (Kf.K2.mul x x) = c6 at *
 generalize Kf.K2.mul x x = c7 at *
 generalize Kf.K2.mul y y = c8 at *
 generalize Kf.K2.tX x y = d1 at *
 generalize Kf.K2.tY x y = d2 at *
 generalize Kf.K2.tZ y z = d3 at *
 generalize Kf.K2.td x y = d4 at *
 generalize Kf.K2.td1 x y = d5 at *
 generalize Kf.K2.td0 x y = d6 at *
 generalize Kf.K2.te x = d7 at *
 generalize Kf.K2.tc y = tc at *
 repeat (first|(refine y_110 ?_;intro _)|refine y_111 ?_|refine Z81 fun _ => ?_|refine Z82 fun _ => ?_)
 refine R.st_perm [0, 1, 2, 3, 4, 5, 6, 7, 8, 9, 10, 11, 12, 13] (by rfl) ?_
 repeat (first|refine y_183 ?_|refine y_59 a1 ?_|refine y_59 a2 ?_|refine y_145 ?_|(refine R.Zpbb (by rfl) (by rfl) (by intro _ _ _;refine st_alloc (v := LV .u64 (List.replicate 12 0)) (by rfl) (by rfl) fun _ => ?_;exact R.Zpbx) (by intro _ _ _;refine st_alloc (v := LV .u64 (List.replicate 12 0)) (by rfl) (by rfl) fun _ => ?_;exact R.Zpbx) (fun _ => ?_) (fun _ => ?_))|(refine y_88 ?_;intro _)|(refine y_50 ?_;intro _)|refine R.Zpo (by rfl) ?_)
 all_goals
  repeat (first|refine y_183 ?_|refine y_59 a1 ?_|refine y_59 a2 ?_|refine y_145 ?_|(refine R.Zpbb (by rfl) (by rfl) (by intro _ _ _;refine st_alloc (v := LV .u64 (List.replicate 12 0)) (by rfl) (by rfl) fun _ => ?_;exact R.Zpbx) (by intro _ _ _;refine st_alloc (v := LV .u64 (List.replicate 12 0)) (by rfl) (by rfl) fun _ => ?_;exact R.Zpbx) (fun _ => ?_) (fun _ => ?_))|(refine y_88 ?_;intro _)|(refine y_50 ?_;intro _)|refine R.Zpo (by rfl) ?_)
 all_goals refine R.Zp0 ?_
 ·repeat (first|(refine y_52 ?_;intro _)|refine y_166 ?_|refine y_2 a3 ?_|refine y_2 a4 ?_|refine y_2 a5 ?_|refine y_111 ?_|refine Z81 fun _ => ?_|refine Z82 fun _ => ?_)
  refine R.st_perm [0, 1, 2, 3, 4, 5, 6] (by rfl) ?_
  repeat (first|refine y_190 ?_|refine y_59 a6 ?_|refine y_59 a7 ?_|refine y_145 ?_|(refine y_88 ?_;intro _)|(refine y_50 ?_;intro _)|refine R.Zpo (by rfl) ?_)
  refine R.Zp0 ?_
  repeat (first|refine y_111 ?_|refine Z81 fun _ => ?_|refine Z82 fun _ => ?_)
  refine R.st_perm [0, 1, 2, 3, 4, 5, 6, 7, 8] (by rfl) ?_
  repeat (first|refine y_190 ?_|refine y_59 a8 ?_|refine y_59 a9 ?_|refine y_59 b1 ?_|refine y_145 ?_|(refine y_88 ?_;intro _)|(refine y_50 ?_;intro _)|refine R.Zpo (by rfl) ?_)
  refine R.Zp0 ?_
  repeat (first|refine y_2 b2 ?_|refine y_111 ?_|refine Z81 fun _ => ?_|refine Z82 fun _ => ?_)
  rename_i p1 p2 p3 p4 p5 p6 p7
  refine st_loop (ι := Nat) (fun j => j ≤ 3) (fun j => [(44, N .i64 j), (1, pt p1 0), (2, pt p2 0), (4, pt p4 0), (5, pt p5 0), (6, pt p6 0), (7, pt p7 0)])
   (fun j => [.blk p4 (LV .u64 (E2 (tc j))) 26, .blk p7 (LV .u64 (E2 d1)) 26, .blk p6 (LV .u64 (E2 d7)) 26, .blk p5 (LV .u64 (E2 d4)) 26, .blk p2 (LV .u64 (List.replicate 36 0)) 97, .blk p1 (J36 x y z) 97]) (fun j => 3 - j) 0 (by omega) (by repeat (first|apply subL.nil|refine subL.cons (by rfl) ?_)) (by repeat (first|apply SubW.nil|refine y_6 ?_)) ?_
  intro j hj
  repeat (first|refine y_111 ?_|refine Z81 fun _ => ?_|refine Z82 fun _ => ?_)
  refine st_cond (by rfl) (fun h => ?_) (fun h => ?_)
  ·repeat (first|refine y_2 (b3 j) ?_|refine y_111 ?_|refine Z81 fun _ => ?_|refine Z82 fun _ => ?_)
   exact st_round (j + 1) (by omega) (by omega) (by repeat (first|apply subL.nil|refine subL.cons (by rfl) ?_)) (by repeat (first|apply SubW.nil|refine y_6 ?_))
  ·have hj3 : j = 3 := by omega
   subst hj3
   repeat (first|(refine y_52 ?_;intro _)|refine y_166 ?_|refine y_2 b4 ?_|refine y_111 ?_|refine Z81 fun _ => ?_|refine Z82 fun _ => ?_)
   refine R.st_perm [0, 1, 2, 3, 4, 5, 6, 7, 8, 9, 10, 11, 12] (by rfl) ?_
   repeat (first|(refine R.Zpf (by rfl) (by intro _ _ _;(first|refine y_168 ?_);exact Zq) ?_)|refine y_148 ?_|refine y_58 ?_|refine y_59 b6 ?_|refine y_59 b7 ?_|refine y_59 b8 ?_|refine y_59 b5 ?_|refine y_145 ?_|refine y_120 ?_|(refine y_50 ?_;intro _)|refine R.Zpo (by rfl) ?_)
   refine R.Zp0 ?_
   repeat (first|refine y_111 ?_|refine Z81 fun _ => ?_|refine Z82 fun _ => ?_)
   refine Zec fun _ hw => post_of hw SubW.nil ⟨?_, rfl⟩
   rfl
 ·repeat (first|(refine y_52 ?_;intro _)|refine y_166 ?_|refine y_2 a3 ?_|refine y_2 a4 ?_|refine y_2 a5 ?_|refine y_111 ?_|refine Z81 fun _ => ?_|refine Z82 fun _ => ?_)
  refine R.st_perm [0, 1, 2, 3, 4, 5, 6] (by rfl) ?_
  repeat (first|refine y_190 ?_|refine y_59 a6 ?_|refine y_59 a7 ?_|refine y_145 ?_|(refine y_88 ?_;intro _)|(refine y_50 ?_;intro _)|refine R.Zpo (by rfl) ?_)
  refine R.Zp0 ?_
  repeat (first|refine y_111 ?_|refine Z81 fun _ => ?_|refine Z82 fun _ => ?_)
  refine R.st_perm [0, 1, 2, 3, 4, 5, 6, 7, 8] (by rfl) ?_
  repeat (first|refine y_190 ?_|refine y_59 a8 ?_|refine y_59 a9 ?_|refine y_59 b1 ?_|refine y_145 ?_|(refine y_88 ?_;intro _)|(refine y_50 ?_;intro _)|refine R.Zpo (by rfl) ?_)
  refine R.Zp0 ?_
  repeat (first|refine y_2 b2 ?_|refine y_111 ?_|refine Z81 fun _ => ?_|refine Z82 fun _ => ?_)
  rename_i p1 p2 p4 p3 p5 p6 p7
  refine st_loop (ι := Nat) (fun j => j ≤ 3) (fun j => [(44, N .i64 j), (1, pt p1 0), (2, pt p2 0), (4, pt p4 0), (5, pt p5 0), (6, pt p6 0), (7, pt p7 0)])
   (fun j => [.blk p4 (LV .u64 (E2 (tc j))) 26, .blk p7 (LV .u64 (E2 d1)) 26, .blk p6 (LV .u64 (E2 d7)) 26, .blk p5 (LV .u64 (E2 d4)) 26, .blk p2 (LV .u64 (List.replicate 36 0)) 97, .blk p1 (J36 x y z) 97]) (fun j => 3 - j) 0 (by omega) (by repeat (first|apply subL.nil|refine subL.cons (by rfl) ?_)) (by repeat (first|apply SubW.nil|refine y_6 ?_)) ?_
  intro j hj
  repeat (first|refine y_111 ?_|refine Z81 fun _ => ?_|refine Z82 fun _ => ?_)
  refine st_cond (by rfl) (fun h => ?_) (fun h => ?_)
  ·repeat (first|refine y_2 (b3 j) ?_|refine y_111 ?_|refine Z81 fun _ => ?_|refine Z82 fun _ => ?_)
   exact st_round (j + 1) (by omega) (by omega) (by repeat (first|apply subL.nil|refine subL.cons (by rfl) ?_)) (by repeat (first|apply SubW.nil|refine y_6 ?_))
  ·have hj3 : j = 3 := by omega
   subst hj3
   repeat (first|(refine y_52 ?_;intro _)|refine y_166 ?_|refine y_2 b4 ?_|refine y_111 ?_|refine Z81 fun _ => ?_|refine Z82 fun _ => ?_)
   refine R.st_perm [0, 1, 2, 3, 4, 5, 6, 7, 8, 9, 10, 11, 12] (by rfl) ?_
   repeat (first|(refine R.Zpf (by rfl) (by intro _ _ _;(first|refine y_168 ?_);exact Zq) ?_)|refine y_148 ?_|refine y_58 ?_|refine y_59 b6 ?_|refine y_59 b7 ?_|refine y_59 b8 ?_|refine y_59 b5 ?_|refine y_145 ?_|refine y_120 ?_|(refine y_50 ?_;intro _)|refine R.Zpo (by rfl) ?_)
   refine R.Zp0 ?_
   repeat (first|refine y_111 ?_|refine Z81 fun _ => ?_|refine Z82 fun _ => ?_)
   refine Zec fun _ hw => post_of hw SubW.nil ⟨?_, rfl⟩
   rfl
end Go.Proofs.Ytbpmbdlgmmabcaa.L
namespace Go.Proofs.Ytbpmbdlgmmabcaa.L
open Go Go.Proofs
set_option maxRecDepth 100000
attribute [local irreducible] Code.wp wpList Af bodyPost L.Go
open Num
attribute [local simp] D_len
theorem y_121 {a b : Prop} (k : b) (h : Rm b → a := by intro k;refine st_store_LV (m := 36) (by rfl) (by rfl) (by repeat first|apply Find.here|apply Find.there) (by rfl) (by simp) (J36_len _ _ _) ?_;exact k.h) : a := h ⟨k⟩
theorem y_122 {a b : Prop} (k : b) (h : Rm b → a := by intro k;refine st_build20 (t := 97) (k := .u64) (z := List.replicate 36 0) (by rfl) (by rfl) (by kernel_rfl) (by rfl) ?_; rw [zero36];exact k.h) : a := h ⟨k⟩
theorem y_169 {a b : Prop} (k : b) (h : Rm b → a := by intro k;(first|refine y_72 ?_|refine y_54 ?_|refine y_64 ?_|refine y_82 ?_|refine y_65 ?_|refine y_66 ?_|refine y_112 ?_|refine y_116 ?_|refine y_117 ?_|refine y_118 ?_|refine y_104 ?_);exact k.h) : a := h ⟨k⟩
theorem y_170 {a b : Prop} (k : b) (h : Rm b → a := by intro k;(first|refine y_54 ?_|refine y_82 ?_|refine y_65 ?_|refine y_66 ?_|refine Z01 ?_|refine Z02 ?_|refine Z49 ?_|refine Z50 ?_|refine Z65 ?_|refine Z77 ?_|refine Z78 ?_|refine Z79 ?_);exact k.h) : a := h ⟨k⟩
theorem y_171 {a b : Prop} (k : b) (h : Rm b → a := by intro k;(first|refine y_54 ?_|refine y_82 ?_|refine y_65 ?_|refine y_66 ?_|refine y_112 ?_|refine Z01 ?_|refine Z02 ?_|refine Z49 ?_|refine Z50 ?_|refine Z65 ?_|refine Z77 ?_|refine Z78 ?_|refine Z79 ?_);exact k.h) : a := h ⟨k⟩
theorem y_185 {a b : Prop} (k : b) (h : Rm b → a := by intro k;refine R.Zpf (by rfl) (by intro _ _ _;(first|refine y_170 ?_);exact Zq) ?_;exact k.h) : a := h ⟨k⟩
theorem y_186 {a b : Prop} (k : b) (h : Rm b → a := by intro k;refine R.Zpf (by rfl) (by intro _ _ _;(first|refine y_171 ?_);exact Zq) ?_;exact k.h) : a := h ⟨k⟩
theorem y_191 {a b : Prop} (k : b) (h : Rm b → a := by intro k;(first|refine y_185 ?_|refine y_148 ?_|refine y_58 ?_|refine y_113 ?_|refine y_114 ?_|refine y_115 ?_|refine y_102 ?_);exact k.h) : a := h ⟨k⟩
theorem y_192 {a b : Prop} (k : b) (h : Rm b → a := by intro k;(first|refine y_186 ?_|refine y_148 ?_|refine y_58 ?_|refine y_113 ?_|refine y_114 ?_|refine y_115 ?_|refine y_102 ?_);exact k.h) : a := h ⟨k⟩
set_option maxHeartbeats 8000000 in
theorem plus_ex (x y z qx qy : F2) (ho : Kf.K2.Onc b2c (Kf.K2.jp x y z)) :
  ∃ X Y Z, Kf.K2.jp X Y Z = Kf.K2.pa (Kf.K2.jp x y z) (some (qx, qy)) ∧ Spec Try.prog 128 [J36 x y z, GE qx qy false] NoPre [] (IsV (J36 X Y Z)) := by
 by_cases hz : z = Kf.K2.zero
 ·refine ⟨qx, qy, Kf.K2.one, ?_, ?_⟩
  ·rw [Kf.K2.one_sq p_3, Kf.K2.jp_z hz]; rfl
  ·have hz2 : (decide (D 6 z.re.val = D 6 (Kf.K2.zero : F2).re.val) && decide (D 6 z.im.val = D 6 (Kf.K2.zero : F2).im.val)) = true := by rw [hz]; exact E2_same _
   refine mk_spec Try.func128 rfl rfl rfl fun w _ => ?_
   have hl0 := fun x => D_len 6 x
   have hle := fun x : F2 => E2_len x
   repeat (first|refine y_91 hz2 ?_|(refine y_52 ?_;intro _)|(refine y_110 ?_;intro _)|refine y_72 ?_|refine y_38 ?_|refine y_84 ?_|refine y_54 ?_|refine y_64 ?_|refine y_82 ?_|refine y_65 ?_|refine y_66 ?_|refine y_112 ?_|refine y_116 ?_|refine y_117 ?_|refine y_118 ?_|refine y_104 ?_|refine y_119 ?_|refine y_121 ?_|refine Z01 ?_|refine Z02 ?_|refine Z03 ?_|refine Z04 ?_|refine Z05 ?_|refine Z06 ?_|refine Z07 ?_|refine Z08 ?_|refine Z09 ?_|refine Z10 ?_|refine Z11 ?_|refine Z12 ?_|refine Z13 ?_|refine Z14 ?_|refine Z24 ?_|refine Z25 ?_|refine Z26 ?_|refine Z27 ?_|refine Z28 ?_|refine Z29 ?_|refine Z30 ?_|refine Z31 ?_|refine Z32 ?_|refine Z49 ?_|refine Z50 ?_|refine Z51 ?_|refine Z52 ?_|refine Z53 ?_|refine Z65 ?_|refine Z67 ?_|refine Z77 ?_|refine Z78 ?_|refine Z79 ?_|refine Z81 fun _ => ?_|refine Z82 fun _ => ?_)
   refine Zec fun _ hw => post_of hw SubW.nil ⟨?_, rfl⟩
   rfl
 ·by_cases hh : Kf.K2.pH x z qx = Kf.K2.zero
  ·by_cases hr : Kf.K2.pR y z qy = Kf.K2.zero
   ·refine ⟨Kf.K2.tX x y, Kf.K2.tY x y, Kf.K2.tZ y z, ?_, ?_⟩
    ·rw [Kf.K2.jp_plus_2 p_3 hz hh hr]
     exact Kf.K2.jp_twice p_3 no2 ho
    ·have ht := twice_spec x y z
     generalize Kf.K2.tX x y = X at ht ⊢
     generalize Kf.K2.tY x y = Y at ht ⊢
     generalize Kf.K2.tZ y z = Z at ht ⊢
     have a1 := smulE z z
     have a2 := smulE qx (Kf.K2.mul z z)
     have a3 := ssubE (Kf.K2.mul qx (Kf.K2.mul z z)) x
     have a4 := smulE (Kf.K2.mul z z) z
     have a5 := smulE qy (Kf.K2.mul (Kf.K2.mul z z) z)
     have a6 := ssubE (Kf.K2.mul qy (Kf.K2.mul (Kf.K2.mul z z) z)) y
     rw [show Kf.K2.sub (Kf.K2.mul qx (Kf.K2.mul z z)) x = Kf.K2.pH x z qx from rfl] at a3
     rw [show Kf.K2.sub (Kf.K2.mul qy (Kf.K2.mul (Kf.K2.mul z z) z)) y = Kf.K2.pR y z qy from rfl] at a6
     generalize Kf.K2.mul qx (Kf.K2.mul z z) = c1 at a2 a3
     generalize Kf.K2.mul qy (Kf.K2.mul (Kf.K2.mul z z) z) = c2 at a5 a6
     generalize Kf.K2.mul (Kf.K2.mul z z) z = c3 at a4 a5
     generalize Kf.K2.mul z z = c4 at a1 a2 a4
     generalize Kf.K2.pH x z qx = h at *
     generalize Kf.K2.pR y z qy = r at *
     refine mk_spec Try.func128 rfl rfl rfl fun w _ => ?_
     have hl0 := fun x => D_len 6 x
     have hle := fun x : F2 => E2_len x
     repeat (first|refine y_91 (E2_diff hz) ?_|(refine y_52 ?_;intro _)|(refine y_110 ?_;intro _)|refine y_169 ?_|refine y_2 a1 ?_|refine y_105 ?_|refine Z81 fun _ => ?_|refine Z82 fun _ => ?_)
     refine R.st_perm [0, 1, 2, 3, 4, 5, 6, 7, 8] (by rfl) ?_
     repeat (first|refine y_191 ?_|refine y_59 a2 ?_|refine y_59 a3 ?_|refine y_145 ?_|(refine y_88 ?_;intro _)|(refine y_50 ?_;intro _)|refine R.Zpo (by rfl) ?_)
     refine R.Zp0 ?_
     repeat (first|refine y_105 ?_|refine Z81 fun _ => ?_|refine Z82 fun _ => ?_)
     refine R.st_perm [0, 1, 2, 3, 4, 5, 6, 7, 8, 9, 10, 11] (by rfl) ?_
     repeat (first|refine y_192 ?_|refine y_59 a4 ?_|refine y_59 a5 ?_|refine y_59 a6 ?_|refine y_145 ?_|(refine y_88 ?_;intro _)|(refine y_50 ?_;intro _)|refine R.Zpo (by rfl) ?_)
     refine R.Zp0 ?_
     have hh2 : (decide (D 6 h.re.val = D 6 (Kf.K2.zero : F2).re.val) && decide (D 6 h.im.val = D 6 (Kf.K2.zero : F2).im.val)) = true := by rw [hh]; exact E2_same _
     have hr2 : (decide (D 6 r.re.val = D 6 (Kf.K2.zero : F2).re.val) && decide (D 6 r.im.val = D 6 (Kf.K2.zero : F2).im.val)) = true := by rw [hr]; exact E2_same _
     repeat (first|refine y_91 hh2 ?_|refine y_91 hr2 ?_|(refine y_52 ?_;intro _)|refine y_2 ht ?_|refine y_121 ?_|refine Z01 ?_|refine Z02 ?_|refine Z03 ?_|refine Z04 ?_|refine Z05 ?_|refine Z06 ?_|refine Z07 ?_|refine Z08 ?_|refine Z09 ?_|refine Z10 ?_|refine Z11 ?_|refine Z12 ?_|refine Z13 ?_|refine Z14 ?_|refine Z24 ?_|refine Z25 ?_|refine Z26 ?_|refine Z27 ?_|refine Z28 ?_|refine Z29 ?_|refine Z30 ?_|refine Z31 ?_|refine Z32 ?_|refine Z49 ?_|refine Z50 ?_|refine Z51 ?_|refine Z52 ?_|refine Z53 ?_|refine Z65 ?_|refine Z67 ?_|refine Z77 ?_|refine Z78 ?_|refine Z79 ?_|refine Z81 fun _ => ?_|refine Z82 fun _ => ?_)
     refine Zec fun _ hw => post_of hw SubW.nil ⟨?_, rfl⟩
     rfl
   ·refine ⟨Kf.K2.zero, Kf.K2.zero, Kf.K2.zero, ?_, ?_⟩
    ·rw [Kf.K2.jp_0, Kf.K2.jp_plus_0 p_3 hz hh hr]
    ·have a1 := smulE z z
     have a2 := smulE qx (Kf.K2.mul z z)
     have a3 := ssubE (Kf.K2.mul qx (Kf.K2.mul z z)) x
     have a4 := smulE (Kf.K2.mul z z) z
     have a5 := smulE qy (Kf.K2.mul (Kf.K2.mul z z) z)
     have a6 := ssubE (Kf.K2.mul qy (Kf.K2.mul (Kf.K2.mul z z) z)) y
     rw [show Kf.K2.sub (Kf.K2.mul qx (Kf.K2.mul z z)) x = Kf.K2.pH x z qx from rfl] at a3
     rw [show Kf.K2.sub (Kf.K2.mul qy (Kf.K2.mul (Kf.K2.mul z z) z)) y = Kf.K2.pR y z qy from rfl] at a6
     generalize Kf.K2.mul qx (Kf.K2.mul z z) = c1 at a2 a3
     generalize Kf.K2.mul qy (Kf.K2.mul (Kf.K2.mul z z) z) = c2 at a5 a6
     generalize Kf.K2.mul (Kf.K2.mul z z) z = c3 at a4 a5
     generalize Kf.K2.mul z z = c4 at a1 a2 a4
     generalize Kf.K2.pH x z qx = h at *
     generalize Kf.K2.pR y z qy = r at *
     refine mk_spec Try.func128 rfl rfl rfl fun w _ => ?_
     have hl0 := fun x => D_len 6 x
     have hle := fun x : F2 => E2_len x
     repeat (first|refine y_91 (E2_diff hz) ?_|(refine y_52 ?_;intro _)|(refine y_110 ?_;intro _)|refine y_169 ?_|refine y_2 a1 ?_|refine y_105 ?_|refine Z81 fun _ => ?_|refine Z82 fun _ => ?_)
     refine R.st_perm [0, 1, 2, 3, 4, 5, 6, 7, 8] (by rfl) ?_
     repeat (first|refine y_191 ?_|refine y_59 a2 ?_|refine y_59 a3 ?_|refine y_145 ?_|(refine y_88 ?_;intro _)|(refine y_50 ?_;intro _)|refine R.Zpo (by rfl) ?_)
     refine R.Zp0 ?_
     repeat (first|refine y_105 ?_|refine Z81 fun _ => ?_|refine Z82 fun _ => ?_)
     refine R.st_perm [0, 1, 2, 3, 4, 5, 6, 7, 8, 9, 10, 11] (by rfl) ?_
     repeat (first|refine y_192 ?_|refine y_59 a4 ?_|refine y_59 a5 ?_|refine y_59 a6 ?_|refine y_145 ?_|(refine y_88 ?_;intro _)|(refine y_50 ?_;intro _)|refine R.Zpo (by rfl) ?_)
     refine R.Zp0 ?_
     have hh2 : (decide (D 6 h.re.val = D 6 (Kf.K2.zero : F2).re.val) && decide (D 6 h.im.val = D 6 (Kf.K2.zero : F2).im.val)) = true := by rw [hh]; exact E2_same _
     repeat (first|refine y_91 (E2_diff hr) ?_|refine y_91 hh2 ?_|(refine y_52 ?_;intro _)|refine y_122 ?_|refine y_121 ?_|refine Z01 ?_|refine Z02 ?_|refine Z03 ?_|refine Z04 ?_|refine Z05 ?_|refine Z06 ?_|refine Z07 ?_|refine Z08 ?_|refine Z09 ?_|refine Z10 ?_|refine Z11 ?_|refine Z12 ?_|refine Z13 ?_|refine Z14 ?_|refine Z24 ?_|refine Z25 ?_|refine Z26 ?_|refine Z27 ?_|refine Z28 ?_|refine Z29 ?_|refine Z30 ?_|refine Z31 ?_|refine Z32 ?_|refine Z49 ?_|refine Z50 ?_|refine Z51 ?_|refine Z52 ?_|refine Z53 ?_|refine Z65 ?_|refine Z67 ?_|refine Z77 ?_|refine Z78 ?_|refine Z79 ?_|refine Z81 fun _ => ?_|refine Z82 fun _ => ?_)
     refine Zec fun _ hw => post_of hw SubW.nil ⟨?_, rfl⟩
     rfl
  ·refine ⟨_, _, _, Kf.K2.jp_plus p_3 hz hh, ?_⟩
   have b1 := smulE (Kf.K2.pH x z qx) (Kf.K2.pH x z qx)
   have b2 := smulE (Kf.K2.mul (Kf.K2.pH x z qx) (Kf.K2.pH x z qx)) (Kf.K2.pH x z qx)
   have b3 := smulE x (Kf.K2.mul (Kf.K2.pH x z qx) (Kf.K2.pH x z qx))
   have b4 := smulE (Kf.K2.pR y z qy) (Kf.K2.pR y z qy)
   have b5 := ssubE (Kf.K2.mul (Kf.K2.pR y z qy) (Kf.K2.pR y z qy)) (Kf.K2.mul (Kf.K2.mul (Kf.K2.pH x z qx) (Kf.K2.pH x z qx)) (Kf.K2.pH x z qx))
   have b6 := saddE (Kf.K2.pV x (Kf.K2.pH x z qx)) (Kf.K2.pV x (Kf.K2.pH x z qx))
   have b7 := ssubE (Kf.K2.sub (Kf.K2.mul (Kf.K2.pR y z qy) (Kf.K2.pR y z qy)) (Kf.K2.mul (Kf.K2.mul (Kf.K2.pH x z qx) (Kf.K2.pH x z qx)) (Kf.K2.pH x z qx))) (Kf.K2.add (Kf.K2.pV x (Kf.K2.pH x z qx)) (Kf.K2.pV x (Kf.K2.pH x z qx)))
   have d1 := ssubE (Kf.K2.pV x (Kf.K2.pH x z qx)) (Kf.K2.pX x (Kf.K2.pH x z qx) (Kf.K2.pR y z qy))
   have d2 := smulE (Kf.K2.pR y z qy) (Kf.K2.sub (Kf.K2.pV x (Kf.K2.pH x z qx)) (Kf.K2.pX x (Kf.K2.pH x z qx) (Kf.K2.pR y z qy)))
   have d3 := smulE y (Kf.K2.mul (Kf.K2.mul (Kf.K2.pH x z qx) (Kf.K2.pH x z qx)) (Kf.K2.pH x z qx))
   have d4 := ssubE (Kf.K2.mul (Kf.K2.pR y z qy) (Kf.K2.sub (Kf.K2.pV x (Kf.K2.pH x z qx)) (Kf.K2.pX x (Kf.K2.pH x z qx) (Kf.K2.pR y z qy)))) (Kf.K2.mul y (Kf.K2.mul (Kf.K2.mul (Kf.K2.pH x z qx) (Kf.K2.pH x z qx)) (Kf.K2.pH x z qx)))
   have d5 := smulE z (Kf.K2.pH x z qx)
   have a1 := smulE z z
   have a2 := smulE qx (Kf.K2.mul z z)
   have a3 := ssubE (Kf.K2.mul qx (Kf.K2.mul z z)) x
   have a4 := smulE (Kf.K2.mul z z) z
   have a5 := smulE qy (Kf.K2.mul (Kf.K2.mul z z) z)
   have a6 := ssubE (Kf.K2.mul qy (Kf.K2.mul (Kf.K2.mul z z) z)) y
   rw [show Kf.K2.sub (Kf.K2.mul qx (Kf.K2.mul z z)) x = Kf.K2.pH x z qx from rfl] at a3
   rw [show Kf.K2.sub (Kf.K2.mul qy (Kf.K2.mul (Kf.K2.mul z z) z)) y = Kf.K2.pR y z qy from rfl] at a6
   generalize Kf.K2.mul qx (Kf.K2.mul z z) = c1 at a2 a3
   generalize Kf.K2.mul qy (Kf.K2.mul (Kf.K2.mul z z) z) = c2 at a5 a6
   generalize Kf.K2.mul (Kf.K2.mul z z) z = c3 at a4 a5
   generalize Kf.K2.mul z z = c4 at a1 a2 a4
   generalize Kf.K2.pH x z qx = h at *
   generalize Kf.K2.pR y z qy = r at *
   refine mk_spec Try.func128 rfl rfl rfl fun w _ => ?_
   have hl0 := fun x => D_len 6 x
   have hle := fun x : F2 => E2_len x
   repeat (first|refine y_91 (E2_diff hz) ?_|(refine y_52 ?_;intro _)|(refine y_110 ?_;intro _)|refine y_169 ?_|refine y_2 a1 ?_|refine y_105 ?_|refine Z81 fun _ => ?_|refine Z82 fun _ => ?_)
   refine R.st_perm [0, 1, 2, 3, 4, 5, 6, 7, 8] (by rfl) ?_
   repeat (first|refine y_191 ?_|refine y_59 a2 ?_|refine y_59 a3 ?_|refine y_145 ?_|(refine y_88 ?_;intro _)|(refine y_50 ?_;intro _)|refine R.Zpo (by rfl) ?_)
   refine R.Zp0 ?_
   repeat (first|refine y_105 ?_|refine Z81 fun _ => ?_|refine Z82 fun _ => ?_)
   refine R.st_perm [0, 1, 2, 3, 4, 5, 6, 7, 8, 9, 10, 11] (by rfl) ?_
   repeat (first|refine y_192 ?_|refine y_59 a4 ?_|refine y_59 a5 ?_|refine y_59 a6 ?_|refine y_145 ?_|(refine y_88 ?_;intro _)|(refine y_50 ?_;intro _)|refine R.Zpo (by rfl) ?_)
   refine R.Zp0 ?_
   rw [show Kf.K2.mul x (Kf.K2.mul h h) = Kf.K2.pV x h from rfl] at b3
   rw [show Kf.K2.sub (Kf.K2.sub (Kf.K2.mul r r) (Kf.K2.mul (Kf.K2.mul h h) h)) (Kf.K2.add (Kf.K2.pV x h) (Kf.K2.pV x h)) = Kf.K2.pX x h r from rfl] at b7
   rw [show Kf.K2.sub (Kf.K2.mul r (Kf.K2.sub (Kf.K2.pV x h) (Kf.K2.pX x h r))) (Kf.K2.mul y (Kf.K2.mul (Kf.K2.mul h h) h)) = Kf.K2.pY x y h r from rfl] at d4
   generalize Kf.K2.pY x y h r = Y at *
   generalize Kf.K2.mul y (Kf.K2.mul (Kf.K2.mul h h) h) = e1 at *
   generalize Kf.K2.mul r (Kf.K2.sub (Kf.K2.pV x h) (Kf.K2.pX x h r)) = e2 at *
   generalize Kf.K2.sub (Kf.K2.pV x h) (Kf.K2.pX x h r) = e3 at *
   generalize Kf.K2.pX x h r = X at *
   generalize Kf.K2.sub (Kf.K2.mul r r) (Kf.K2.mul (Kf.K2.mul h h) h) = e4 at *
   generalize Kf.K2.add (Kf.K2.pV x h) (Kf.K2.pV x h) = e5 at *
   generalize Kf.K2.pV x h = e6 at *
   generalize Kf.K2.mul (Kf.K2.mul h h) h = e7 at *
   generalize Kf.K2.mul h h = e8 at *
   generalize Kf.K2.mul r r = e9 at *
   generalize Kf.K2.mul z h = Z at *
   repeat (first|refine y_91 (E2_diff hh) ?_|refine y_105 ?_|refine Z81 fun _ => ?_|refine Z82 fun _ => ?_)
   repeat (first|(refine y_52 ?_;intro _)|refine y_2 b1 ?_|refine y_105 ?_|refine Z81 fun _ => ?_|refine Z82 fun _ => ?_)
   refine R.st_perm [0, 1, 2, 3, 4, 5, 6, 7, 8, 9, 10] (by rfl) ?_
   repeat (first|refine y_185 ?_|refine y_148 ?_|refine y_58 ?_|refine y_113 ?_|refine y_114 ?_|refine y_115 ?_|refine y_59 b2 ?_|refine y_59 b3 ?_|refine y_145 ?_|(refine R.Zpbb (by rfl) (by rfl) (by intro _ _ _;refine st_alloc (v := LV .u64 (List.replicate 12 0)) (by rfl) (by rfl) fun _ => ?_;exact R.Zpbx) (by intro _ _ _;refine st_alloc (v := LV .u64 (List.replicate 12 0)) (by rfl) (by rfl) fun _ => ?_;exact R.Zpbx) (fun _ => ?_) (fun _ => ?_))|(refine y_88 ?_;intro _)|(refine y_50 ?_;intro _)|refine R.Zpo (by rfl) ?_)
   all_goals
    repeat (first|refine y_185 ?_|refine y_148 ?_|refine y_58 ?_|refine y_113 ?_|refine y_114 ?_|refine y_115 ?_|refine y_59 b2 ?_|refine y_59 b3 ?_|refine y_145 ?_|(refine R.Zpbb (by rfl) (by rfl) (by intro _ _ _;refine st_alloc (v := LV .u64 (List.replicate 12 0)) (by rfl) (by rfl) fun _ => ?_;exact R.Zpbx) (by intro _ _ _;refine st_alloc (v := LV .u64 (List.replicate 12 0)) (by rfl) (by rfl) fun _ => ?_;exact R.Zpbx) (fun _ => ?_) (fun _ => ?_))|(refine y_88 ?_;intro _)|(refine y_50 ?_;intro _)|refine R.Zpo (by rfl) ?_)
   all_goals refine R.Zp0 ?_
   all_goals
    repeat (first|refine y_105 ?_|refine Z81 fun _ => ?_|refine Z82 fun _ => ?_)
    refine R.st_perm [0, 1, 2, 3, 4, 5, 6, 7, 8, 9, 10] (by rfl) ?_
    repeat (first|refine y_185 ?_|refine y_148 ?_|refine y_58 ?_|refine y_59 b4 ?_|refine y_59 b5 ?_|refine y_59 b6 ?_|refine y_59 b7 ?_|refine y_145 ?_|(refine y_88 ?_;intro _)|(refine y_50 ?_;intro _)|refine R.Zpo (by rfl) ?_)
    refine R.Zp0 ?_
    repeat (first|refine y_105 ?_|refine Z81 fun _ => ?_|refine Z82 fun _ => ?_)
    refine R.st_perm [0, 1, 2, 3, 4, 5, 6, 7, 8, 9, 10, 11, 12, 13, 14, 15, 16] (by rfl) ?_
    repeat (first|(refine R.Zpf (by rfl) (by intro _ _ _;(first|refine y_54 ?_|refine y_82 ?_|refine y_65 ?_|refine y_66 ?_|refine y_112 ?_|refine y_119 ?_|refine Z01 ?_|refine Z02 ?_|refine Z49 ?_|refine Z50 ?_|refine Z65 ?_|refine Z77 ?_|refine Z78 ?_|refine Z79 ?_);exact Zq) ?_)|refine y_148 ?_|refine y_58 ?_|refine y_113 ?_|refine y_114 ?_|refine y_115 ?_|refine y_59 d1 ?_|refine y_59 d2 ?_|refine y_59 d3 ?_|refine y_59 d4 ?_|refine y_59 d5 ?_|refine y_145 ?_|refine y_120 ?_|(refine y_50 ?_;intro _)|refine R.Zpo (by rfl) ?_)
    refine R.Zp0 ?_
    repeat (first|refine y_105 ?_|refine Z81 fun _ => ?_|refine Z82 fun _ => ?_)
    refine Zec fun _ hw => post_of hw SubW.nil ⟨?_, rfl⟩
    rfl
theorem zero_diff {x y z : F2} (h : z ≠ Kf.K2.zero) : (((decide (D 6 x.re.val = D 6 (Kf.K2.zero : F2).re.val) && decide (D 6 x.im.val = D 6 (Kf.K2.zero : F2).im.val)) && (decide (D 6 y.re.val = D 6 (Kf.K2.zero : F2).re.val) && decide (D 6 y.im.val = D 6 (Kf.K2.zero : F2).im.val))) && (decide (D 6 z.re.val = D 6 (Kf.K2.zero : F2).re.val) && decide (D 6 z.im.val = D 6 (Kf.K2.zero : F2).im.val))) = false := by
 rw [E2_diff h, Bool.and_false]
theorem y_123 {a b : Prop} (k : b) (h : Rm b → a := by intro k;refine st_eq3v (m := 6) (hr := hc.symm) (by rfl) (by rfl) (by rfl) (by kernel_rfl) (by rfl) (by rfl) (by rfl) (by rfl) (by rfl) (by rfl) (by rfl) (by rfl) (by rfl) (by rfl) (by rfl) (by kernel_rfl) (by rfl) (by rfl) (by rfl) (by rfl) (by rfl) (by rfl) (by rfl) (by rfl) (by rfl) (by rfl) (by kernel_rfl) (by simp; done) (by simp; done) (by simp; done) (by simp; done) (by simp; done) (by simp; done) (by simp; done) (by simp; done) (by simp; done) (by simp; done) (by simp; done) (by simp; done) (by rfl) ?_;exact k.h) : a := h ⟨k⟩
theorem y_124 {a b : Prop} (k : b) (h : Rm b → a := by intro k;refine st_ldp (by rfl) (by repeat first|apply Find.here|apply Find.there) (by rfl) (by rfl) (PartAt.all (J36_len _ _ _)) (by rfl) ?_;exact k.h) : a := h ⟨k⟩
theorem y_172 {a b : Prop} (k : b) (h : Rm b → a := by intro k;(first|refine y_72 ?_|refine y_122 ?_|refine y_124 ?_|refine y_112 ?_|refine y_116 ?_|refine y_117 ?_|refine y_118 ?_|refine y_95 ?_|refine y_96 ?_|refine Z01 ?_|refine Z03 ?_|refine Z04 ?_|refine Z05 ?_|refine Z06 ?_|refine Z07 ?_|refine Z08 ?_|refine Z09 ?_|refine Z10 ?_|refine Z11 ?_|refine Z12 ?_|refine Z13 ?_|refine Z14 ?_|refine Z24 ?_|refine Z25 ?_|refine Z26 ?_|refine Z27 ?_|refine Z28 ?_|refine Z29 ?_|refine Z30 ?_|refine Z31 ?_|refine Z32 ?_|refine Z49 ?_|refine Z50 ?_|refine Z51 ?_|refine Z52 ?_|refine Z53 ?_|refine Z65 ?_|refine Z67 ?_|refine Z77 ?_|refine Z78 ?_|refine Z79 ?_);exact k.h) : a := h ⟨k⟩
set_option maxHeartbeats 8000000 in
theorem point_spec (x y z : F2) : Spec Try.prog 129 [J36 x y z] NoPre [] (IsV (GV (Kf.K2.jp x y z))) := by
 refine mk_spec Try.func129 rfl rfl rfl fun w _ => ?_
 have hl0 := fun x => D_len 6 x
 have hle := fun x : F2 => E2_len x
 by_cases hz : z = Kf.K2.zero
 ·rw [Kf.K2.jp_z hz, GV_none]
  have hz2 : (decide (D 6 z.re.val = D 6 (Kf.K2.zero : F2).re.val) && decide (D 6 z.im.val = D 6 (Kf.K2.zero : F2).im.val)) = true := by rw [hz]; exact E2_same _
  obtain ⟨c, hc⟩ : ∃ c, c = (((decide (D 6 x.re.val = D 6 (Kf.K2.zero : F2).re.val) && decide (D 6 x.im.val = D 6 (Kf.K2.zero : F2).im.val)) && (decide (D 6 y.re.val = D 6 (Kf.K2.zero : F2).re.val) && decide (D 6 y.im.val = D 6 (Kf.K2.zero : F2).im.val))) && (decide (D 6 z.re.val = D 6 (Kf.K2.zero : F2).re.val) && decide (D 6 z.im.val = D 6 (Kf.K2.zero : F2).im.val))) := ⟨_, rfl⟩
  cases c with
  | true =>
   repeat (first|refine y_123 ?_|refine y_91 hz2 ?_|(refine y_92 ?_;intro _)|refine y_172 ?_|refine Z81 fun _ => ?_|refine Z82 fun _ => ?_)
   refine st_endc_GL (m := 24) (by rfl) (by rfl) (by repeat first|apply Find.here|apply Find.there) (by rfl) (by rfl) (by first|with_reducible assumption|simp) fun _ hw => post_of hw SubW.nil ⟨?_, rfl⟩
   rfl
  | false =>
   repeat (first|refine y_123 ?_|refine y_91 hz2 ?_|(refine y_92 ?_;intro _)|refine y_172 ?_|refine Z81 fun _ => ?_|refine Z82 fun _ => ?_)
   refine st_endc_GL (m := 24) (by rfl) (by rfl) (by repeat first|apply Find.here|apply Find.there) (by rfl) (by rfl) (by first|with_reducible assumption|simp) fun _ hw => post_of hw SubW.nil ⟨?_, rfl⟩
   rfl
 ·rw [Kf.K2.jp_n hz, GV_some, Kf.K2.jx, Kf.K2.jy]
  have a1 := sinvE z
  have a2 := smulE (Kf.K2.inv z) (Kf.K2.inv z)
  have a3 := smulE x (Kf.K2.mul (Kf.K2.inv z) (Kf.K2.inv z))
  have a4 := smulE (Kf.K2.mul (Kf.K2.inv z) (Kf.K2.inv z)) (Kf.K2.inv z)
  have a5 := smulE y (Kf.K2.mul (Kf.K2.mul (Kf.K2.inv z) (Kf.K2.inv z)) (Kf.K2.inv z))
  generalize Kf.K2.mul y (Kf.K2.mul (Kf.K2.mul (Kf.K2.inv z) (Kf.K2.inv z)) (Kf.K2.inv z)) = c1 at *
  generalize Kf.K2.mul (Kf.K2.mul (Kf.K2.inv z) (Kf.K2.inv z)) (Kf.K2.inv z) = c2 at *
  generalize Kf.K2.mul x (Kf.K2.mul (Kf.K2.inv z) (Kf.K2.inv z)) = c3 at *
  generalize Kf.K2.mul (Kf.K2.inv z) (Kf.K2.inv z) = c4 at *
  generalize Kf.K2.inv z = c5 at *
  repeat (first|(refine st_eq3v (m := 6) (hr := zero_diff hz) (by rfl) (by rfl) (by rfl) (by kernel_rfl) (by rfl) (by rfl) (by rfl) (by rfl) (by rfl) (by rfl) (by rfl) (by rfl) (by rfl) (by rfl) (by rfl) (by kernel_rfl) (by rfl) (by rfl) (by rfl) (by rfl) (by rfl) (by rfl) (by rfl) (by rfl) (by rfl) (by rfl) (by kernel_rfl) (by simp; done) (by simp; done) (by simp; done) (by simp; done) (by simp; done) (by simp; done) (by simp; done) (by simp; done) (by simp; done) (by simp; done) (by simp; done) (by simp; done) (by rfl) ?_)|refine y_91 (E2_diff hz) ?_|(refine y_52 ?_;intro _)|(refine y_92 ?_;intro _)|refine y_72 ?_|refine y_122 ?_|refine y_124 ?_|refine y_112 ?_|refine y_116 ?_|refine y_117 ?_|refine y_118 ?_|refine y_2 a1 ?_|refine y_2 a2 ?_|refine y_94 ?_|refine Z81 fun _ => ?_|refine Z82 fun _ => ?_)
  refine R.st_perm [0, 1, 2, 3, 4, 5, 6, 7, 8, 9, 10, 11] (by rfl) ?_
  repeat (first|(refine R.Zpf (by rfl) (by intro _ _ _;(first|refine y_54 ?_|refine y_55 ?_|refine y_65 ?_|refine y_66 ?_|refine y_97 ?_|refine Z01 ?_|refine Z49 ?_|refine Z50 ?_|refine Z65 ?_|refine Z77 ?_|refine Z78 ?_|refine Z79 ?_);exact Zq) ?_)|refine y_148 ?_|refine y_58 ?_|refine y_113 ?_|refine y_114 ?_|refine y_115 ?_|refine y_59 a3 ?_|refine y_59 a4 ?_|refine y_59 a5 ?_|refine y_180 ?_|(refine y_50 ?_;intro _)|refine R.Zpo (by rfl) ?_)
  refine R.Zp0 ?_
  repeat (first|refine y_94 ?_|refine Z81 fun _ => ?_|refine Z82 fun _ => ?_)
  refine st_endc_GL (m := 24) (by rfl) (by rfl) (by repeat first|apply Find.here|apply Find.there) (by rfl) (by rfl) (by first|with_reducible assumption|simp) fun _ hw => post_of hw SubW.nil ⟨?_, rfl⟩
  rfl
end Go.Proofs.Ytbpmbdlgmmabcaa.L
namespace Go.Proofs.Ytbpmbdlgmmabcaa.L
open Go Go.Proofs
set_option maxRecDepth 100000
attribute [local irreducible] Code.wp wpList Af bodyPost L.Go
open Num
attribute [local simp] D_len
theorem gonP {P : Kf.K2.Pt p} (h : Kf.K2.Onc b2c P) : Spec Try.prog 37 [GV P] NoPre [] (IsV (.bool true)) := by
 cases P with
 | none =>
  have := gon_spec (val_lt (Kf.K2.zero : F2).re) (val_lt (Kf.K2.zero : F2).im) (val_lt (Kf.K2.zero : F2).re) (val_lt (Kf.K2.zero : F2).im) true
  rwa [Bool.true_or] at this
 | some q =>
  have := gon_spec (val_lt q.1.re) (val_lt q.1.im) (val_lt q.2.re) (val_lt q.2.im) false
  rwa [k2_val, k2_val, Bool.false_or, decide_eq_true (show Kf.K2.mul q.2 q.2 = Kf.K2.add (Kf.K2.mul (Kf.K2.mul q.1 q.1) q.1) b2c from h)] at this
theorem y_125 {a b : Prop} (k : b) (h : Rm b → a := by intro k;(first|refine Z01 ?_|refine Z02 ?_|refine Z03 ?_|refine Z04 ?_|refine Z05 ?_|refine Z06 ?_|refine Z07 ?_|refine Z08 ?_|refine Z09 ?_|refine Z10 ?_|refine Z11 ?_|refine Z12 ?_|refine Z13 ?_|refine Z14 ?_|refine Z16 ?_|refine Z17 ?_|refine Z18 ?_|refine Z20 ?_|refine Z21 ?_|refine Z22 ?_|refine Z23 ?_|refine Z24 ?_|refine Z25 ?_|refine Z26 ?_|refine Z27 ?_|refine Z28 ?_|refine Z29 ?_|refine Z30 ?_|refine Z31 ?_|refine Z32 ?_|refine Z36 ?_|refine Z37 ?_|refine Z38 ?_|refine Z40 ?_|refine Z42 ?_|refine Z54 ?_|refine Z58 ?_|refine Z59 ?_|refine Z65 ?_|refine Z67 ?_|refine Z71 ?_);exact k.h) : a := h ⟨k⟩
theorem y_126 {a b : Prop} (k : b) (h : Rm b → a := by intro k;refine st_store_LV (m := 36) (by rfl) (by rfl) (by repeat first|apply Find.here|apply Find.there) (by rfl) (J36_len _ _ _) (J36_len _ _ _) ?_;exact k.h) : a := h ⟨k⟩
set_option maxHeartbeats 8000000 in
theorem gmul_on {P : Kf.K2.Pt p} (h : Kf.K2.Onc b2c P) {a b e f : Nat} (ha : a < W ^ 6) (hb : b < W ^ 6) (he : e < W ^ 6) (hf : f < W ^ 6) (i : Bool) (hP : P = ptv (k2 a b) (k2 e f) i) (s : Value) (xs : List Nat) (hx : Lt 18446744073709551616 xs) (hl : xs.length < 65536) :
  Spec Try.prog 90 [s, G4 a b e f i] (fun w => Rd w s (xs.map (N .u64))) [] (IsV (.tuple [GV (Kf.K2.tim P (V xs)), N .i64 0].toArray)) := by
 refine mk_spec Try.func90 rfl rfl rfl fun w hr => ?_
 have hr := RdC.mk0 hr
 have hl0 := fun x => D_len 6 x
 have hle := fun x : F2 => E2_len x
 have h1 := gred_spec ha hb he hf i
 rw [← hP] at h1
 have h2 := gonP h
 cases P with
 | none =>
  rw [Kf.K2.tim_none]
  rw [GV_none] at h1 h2 ⊢
  repeat (first|(refine y_92 ?_;intro _)|refine y_103 ?_|refine y_101 ?_|refine y_54 ?_|refine y_64 ?_|refine y_65 ?_|refine y_2 h1 ?_|refine y_2 h2 ?_|refine y_96 ?_|refine st_scope0 ?_|refine st_label ?_|refine Z01 ?_|refine Z02 ?_|refine Z03 ?_|refine Z04 ?_|refine Z05 ?_|refine Z06 ?_|refine Z07 ?_|refine Z08 ?_|refine Z09 ?_|refine Z10 ?_|refine Z11 ?_|refine Z12 ?_|refine Z13 ?_|refine Z14 ?_|refine Z16 ?_|refine Z17 ?_|refine Z18 ?_|refine Z20 ?_|refine Z21 ?_|refine Z22 ?_|refine Z23 ?_|refine Z24 ?_|refine Z25 ?_|refine Z26 ?_|refine Z27 ?_|refine Z28 ?_|refine Z29 ?_|refine Z30 ?_|refine Z31 ?_|refine Z32 ?_|refine Z36 ?_|refine Z37 ?_|refine Z38 ?_|refine Z40 ?_|refine Z42 ?_|refine Z54 ?_|refine Z58 ?_|refine Z59 ?_|refine Z65 ?_|refine Z67 ?_|refine Z71 ?_|refine Z81 fun _ => ?_|refine Z82 fun _ => ?_)
  repeat (first|with_reducible refine st_ng_ret ?_|refine y_125 ?_|refine Z81 fun _ => ?_|refine Z82 fun _ => ?_)
  refine st_endc2_GL (m := 24) (by rfl) (by rfl) (by rfl) (by repeat first|apply Find.here|apply Find.there) (by rfl) (by rfl) (by first|with_reducible assumption|simp) fun _ hw => post_of hw SubW.nil ⟨?_, rfl⟩
  rfl
 | some q =>
  obtain ⟨qx, qy⟩ := q
  rw [GV_some] at h1 h2
  have hz : V xs / 2 ^ (64 * xs.length) = 0 := Nat.div_eq_of_lt (by rw [Nat.pow_mul, ← W_2]; exact V_lt hx)
  repeat (first|(refine y_92 ?_;intro _)|refine y_103 ?_|refine y_101 ?_|refine y_54 ?_|refine y_64 ?_|refine y_65 ?_|refine y_2 h1 ?_|refine y_2 h2 ?_|refine y_96 ?_|(refine y_110 ?_;intro _)|refine st_scope0 ?_|refine st_label ?_|refine Z01 ?_|refine Z02 ?_|refine Z03 ?_|refine Z04 ?_|refine Z05 ?_|refine Z06 ?_|refine Z07 ?_|refine Z08 ?_|refine Z09 ?_|refine Z10 ?_|refine Z11 ?_|refine Z12 ?_|refine Z13 ?_|refine Z14 ?_|refine Z16 ?_|refine Z17 ?_|refine Z18 ?_|refine Z20 ?_|refine Z21 ?_|refine Z22 ?_|refine Z23 ?_|refine Z24 ?_|refine Z25 ?_|refine Z26 ?_|refine Z27 ?_|refine Z28 ?_|refine Z29 ?_|refine Z30 ?_|refine Z31 ?_|refine Z32 ?_|refine Z36 ?_|refine Z37 ?_|refine Z38 ?_|refine Z40 ?_|refine Z42 ?_|refine Z54 ?_|refine Z58 ?_|refine Z59 ?_|refine Z65 ?_|refine Z67 ?_|refine Z71 ?_|refine Z81 fun _ => ?_|refine Z82 fun _ => ?_)
  rename_i p3 p4 p6
  refine st_loop (ι := Nat × F2 × F2 × F2) (fun q => q.1 ≤ 64 * xs.length ∧ Kf.K2.jp q.2.1 q.2.2.1 q.2.2.2 = Kf.K2.tim (some (qx, qy)) (V xs / 2 ^ q.1)) (fun q => [(0, s), (3, pt p3 0), (4, pt p4 0), (6, pt p6 0), (7, .int .i64 ((q.1 : Int) - 1))])
   (fun q => [.blk p6 (J36 q.2.1 q.2.2.1 q.2.2.2) 97, .blk p3 (GE qx qy false) 38, .blk p4 (GL (List.replicate 24 0) false) 38]) (fun q => q.1) (64 * xs.length, Kf.K2.zero, Kf.K2.zero, Kf.K2.zero) ⟨Nat.le_refl _, by simp only; rw [hz, Kf.K2.jp_0]; rfl⟩ (by repeat (first|apply subL.nil|refine subL.cons (by rfl) ?_)) (by simp only [J36]; rw [← zero36]; exact (by repeat (first|apply SubW.nil|refine y_6 ?_))) ?_
  rintro ⟨j, X, Y, Z⟩ ⟨hj, hjp⟩
  simp only at hj hjp ⊢
  repeat (first|refine y_125 ?_|refine Z81 fun _ => ?_|refine Z82 fun _ => ?_)
  refine st_cond (by rfl) (fun hc => ?_) (fun hc => ?_)
  ·have h0 : (0 : Int) ≤ (j : Int) - 1 := hc
   obtain ⟨i, rfl⟩ : ∃ i, j = i + 1 := ⟨j - 1, by omega⟩
   rw [show ((i + 1 : Nat) : Int) - 1 = Int.ofNat i by simp]
   have hst := bit_step (V xs) i
   have hbt := bit_and6 hx i
   generalize V xs / 2 ^ (i + 1) = m at hst hjp
   have ht := twice_spec X Y Z
   have hoj : Kf.K2.Onc b2c (Kf.K2.jp X Y Z) := by rw [hjp]; exact Kf.K2.Onc_tim p_3 h m
   have hjt := Kf.K2.jp_twice p_3 no2 hoj
   rw [hjp, ← Kf.K2.tim_add p_3 no2 h] at hjt
   generalize Kf.K2.tX X Y = X2 at ht hjt
   generalize Kf.K2.tY X Y = Y2 at ht hjt
   generalize Kf.K2.tZ Y Z = Z2 at ht hjt
   repeat (first|refine y_124 ?_|refine y_2 ht ?_|refine y_126 ?_|refine st_shr (by rfl) (by rfl) (show i % 64 ≤ 64 by omega) (by rfl) ?_|rw [hbt]|refine y_125 ?_|refine Z81 fun _ => ?_|refine Z82 fun _ => ?_)
   refine st_cond (by rfl) (fun hb => ?_) (fun hb => ?_)
   ·have hx1 : V xs / 2 ^ i = m + m := by omega
    repeat (first|refine y_125 ?_|refine Z81 fun _ => ?_|refine Z82 fun _ => ?_)
    refine st_round (i, X2, Y2, Z2) ⟨by simp only; omega, by simp only; rw [hjt, hx1]⟩ (by simp only; omega) ?_ (by repeat (first|apply SubW.nil|refine y_6 ?_))
    rw [show ((i : Int) - 1) = Int.ofNat i - Int.ofNat 1 from rfl]
    exact (by repeat (first|apply subL.nil|refine subL.cons (by rfl) ?_))
   ·have hx1 : V xs / 2 ^ i = m + m + 1 := by omega
    have ho2 : Kf.K2.Onc b2c (Kf.K2.jp X2 Y2 Z2) := by rw [hjt]; exact Kf.K2.Onc_tim p_3 h _
    obtain ⟨X3, Y3, Z3, hj3, hs3⟩ := plus_ex X2 Y2 Z2 qx qy ho2
    rw [hjt, show Kf.K2.pa (Kf.K2.tim (some (qx, qy)) (m + m)) (some (qx, qy)) = Kf.K2.tim (some (qx, qy)) (m + m + 1) from rfl] at hj3
    repeat (first|refine y_124 ?_|refine y_103 ?_|refine y_2 hs3 ?_|refine y_126 ?_|refine Z01 ?_|refine Z02 ?_|refine Z03 ?_|refine Z04 ?_|refine Z05 ?_|refine Z06 ?_|refine Z07 ?_|refine Z08 ?_|refine Z09 ?_|refine Z10 ?_|refine Z11 ?_|refine Z12 ?_|refine Z13 ?_|refine Z14 ?_|refine Z16 ?_|refine Z17 ?_|refine Z18 ?_|refine Z20 ?_|refine Z21 ?_|refine Z22 ?_|refine Z23 ?_|refine Z24 ?_|refine Z25 ?_|refine Z26 ?_|refine Z27 ?_|refine Z28 ?_|refine Z29 ?_|refine Z30 ?_|refine Z31 ?_|refine Z32 ?_|refine Z36 ?_|refine Z37 ?_|refine Z38 ?_|refine Z40 ?_|refine Z42 ?_|refine Z54 ?_|refine Z58 ?_|refine Z59 ?_|refine Z65 ?_|refine Z67 ?_|refine Z71 ?_|refine Z81 fun _ => ?_|refine Z82 fun _ => ?_)
    refine st_round (i, X3, Y3, Z3) ⟨by simp only; omega, by simp only; rw [hj3, hx1]⟩ (by simp only; omega) ?_ (by repeat (first|apply SubW.nil|refine y_6 ?_))
    rw [show ((i : Int) - 1) = Int.ofNat i - Int.ofNat 1 from rfl]
    exact (by repeat (first|apply subL.nil|refine subL.cons (by rfl) ?_))
  ·have hp0 : ¬ (0 : Int) ≤ (j : Int) - 1 := hc
   have hj0 : j = 0 := by omega
   subst hj0
   rw [Nat.pow_zero, Nat.div_one] at hjp
   have hpt := point_spec X Y Z
   rw [hjp] at hpt
   obtain ⟨x1, y1, i1, hq⟩ : ∃ x1 y1 i1, GV (Kf.K2.tim (some (qx, qy)) (V xs)) = GE x1 y1 i1 := ⟨_, _, _, rfl⟩
   rw [hq] at hpt ⊢
   repeat (first|refine y_124 ?_|refine y_2 hpt ?_|refine y_96 ?_|refine Z01 ?_|refine Z02 ?_|refine Z03 ?_|refine Z04 ?_|refine Z05 ?_|refine Z06 ?_|refine Z07 ?_|refine Z08 ?_|refine Z09 ?_|refine Z10 ?_|refine Z11 ?_|refine Z12 ?_|refine Z13 ?_|refine Z14 ?_|refine Z16 ?_|refine Z17 ?_|refine Z18 ?_|refine Z20 ?_|refine Z21 ?_|refine Z22 ?_|refine Z23 ?_|refine Z24 ?_|refine Z25 ?_|refine Z26 ?_|refine Z27 ?_|refine Z28 ?_|refine Z29 ?_|refine Z30 ?_|refine Z31 ?_|refine Z32 ?_|refine Z36 ?_|refine Z37 ?_|refine Z38 ?_|refine Z40 ?_|refine Z42 ?_|refine Z54 ?_|refine Z58 ?_|refine Z59 ?_|refine Z65 ?_|refine Z67 ?_|refine Z71 ?_|refine Z81 fun _ => ?_|refine Z82 fun _ => ?_)
   repeat (first|with_reducible refine st_ng_ret ?_|refine y_125 ?_|refine Z81 fun _ => ?_|refine Z82 fun _ => ?_)
   refine st_endc2_GL (m := 24) (by rfl) (by rfl) (by rfl) (by repeat first|apply Find.here|apply Find.there) (by rfl) (by rfl) (by first|with_reducible assumption|simp) fun _ hw => post_of hw SubW.nil ⟨?_, rfl⟩
   rfl
end Go.Proofs.Ytbpmbdlgmmabcaa.L
namespace Go.Proofs.Ytbpmbdlgmmabcaa.L
open Go Go.Proofs
set_option maxRecDepth 100000
attribute [local irreducible] Code.wp wpList Af bodyPost L.Go
open Num
attribute [local simp] D_len
theorem isoP_on {x y : F2} (h : Kf.K2.mul y y = side x) : isoP x y = (phx x, phy x y, false) :=
 isoP_0 rfl rfl rfl rfl (lin_Q2 (lin_ne h)) (lin_Q4 (lin_ne h))
theorem isoE (x y : F2) : Spec Try.prog 30 [LV .u64 (E2 x), LV .u64 (E2 y)] NoPre [] (IsV (GE (isoP x y).1 (isoP x y).2.1 (isoP x y).2.2)) := by
 have := iso_spec (val_lt x.re) (val_lt x.im) (val_lt y.re) (val_lt y.im); rwa [k2_val, k2_val] at this
theorem isoT {x y : F2} (h : Kf.K2.mul y y = side x) : Spec Try.prog 30 [LV .u64 (E2 x), LV .u64 (E2 y)] NoPre [] (IsV (GE (phx x) (phy x y) false)) := by
 have := isoE x y; rwa [isoP_on h] at this
theorem gnegE (P : Kf.K2.Pt p) : Spec Try.prog 39 [GV P] NoPre [] (IsV (GV (Kf.K2.pn P))) := by
 have := gneg_spec (val_lt (gx P).re) (val_lt (gx P).im) (val_lt (gy P).re) (val_lt (gy P).im) (gi P); rwa [k2_val, k2_val, ptv_gv] at this
theorem gaddE (P Q : Kf.K2.Pt p) : Spec Try.prog 41 [GV P, GV Q] NoPre [] (IsV (GV (Kf.K2.pa P Q))) := by
 have := gadd_spec (val_lt (gx P).re) (val_lt (gx P).im) (val_lt (gy P).re) (val_lt (gy P).im) (gi P) (val_lt (gx Q).re) (val_lt (gx Q).im) (val_lt (gy Q).re) (val_lt (gy Q).im) (gi Q)
 rwa [k2_val, k2_val, k2_val, k2_val, ptv_gv, ptv_gv] at this
end Go.Proofs.Ytbpmbdlgmmabcaa.L
namespace Go.Proofs.Ytbpmbdlgmmabcaa.L
open Go Go.Proofs
set_option maxRecDepth 100000
attribute [local irreducible] Code.wp wpList Af bodyPost L.Go
open Num
attribute [local simp] D_len
theorem geq_same (x y : F2) (i : Bool) : (((decide (D 6 x.re.val = D 6 x.re.val) && decide (D 6 x.im.val = D 6 x.im.val)) && (decide (D 6 y.re.val = D 6 y.re.val) && decide (D 6 y.im.val = D 6 y.im.val))) && decide (i = i)) = true := by
 rw [E2_same, E2_same, decide_eq_true rfl]; rfl
theorem mapP_neg {u : F2} (h : u ≠ Kf.K2.zero) : mapP (Kf.K2.neg u) = ((mapP u).1, Kf.K2.neg (mapP u).2) := by
 have hw : wz (Kf.K2.neg u) = wz u := by rw [wz, wz, Kf.K2.neg_mul_neg]
 have hf := Kf.K2.sgn_flip p_3 h
 have hl := Kf.K2.sgn_lt u
 have hk : Kf.K2.sgn u < 2 ∧ Kf.K2.sgn (Kf.K2.neg u) < 2 ∧ Kf.K2.sgn u ≠ Kf.K2.sgn (Kf.K2.neg u) := ⟨hl, Kf.K2.sgn_lt _, by omega⟩
 cases hb : (rootd (Kf.K2.sgn u) (xone (wz u))).2 with
 | true =>
  have e1 := mapP_1 (u := u) rfl rfl rfl hb
  have hb2 : (rootd (Kf.K2.sgn (Kf.K2.neg u)) (xone (wz u))).2 = true := by rw [rootd_2, ← rootd_2 (Kf.K2.sgn u)]; exact hb
  have e2 := mapP_1 (u := Kf.K2.neg u) hw.symm rfl rfl hb2
  rw [e1, e2, rootd_flip hk]
 | false =>
  have e1 := mapP_0 (u := u) rfl rfl rfl hb rfl
  have hb2 : (rootd (Kf.K2.sgn (Kf.K2.neg u)) (xone (wz u))).2 = false := by rw [rootd_2, ← rootd_2 (Kf.K2.sgn u)]; exact hb
  have e2 := mapP_0 (u := Kf.K2.neg u) hw.symm rfl rfl hb2 rfl
  rw [e1, e2, rootd_flip hk]
end Go.Proofs.Ytbpmbdlgmmabcaa.L
namespace Go.Proofs.Ytbpmbdlgmmabcaa.L
open Go Go.Proofs
set_option maxRecDepth 100000
attribute [local irreducible] Code.wp wpList Af bodyPost L.Go
open Num
attribute [local simp] D_len
def hC : List Nat := [16717924791090763089, 6451771550755190452, 16813287336095381155, 3368952460600638490, 7891079509683868336, 3646841576362204053, 11062809923385098209, 9863631852917151592, 6362576984766887208, 848540440590185907]
theorem hC_lt : Lt 18446744073709551616 hC := by unfold Lt hC; decide
theorem hC_len : hC.length = 10 := rfl
theorem y_127 {a b : Prop} (k : b) (h : Rm b → a := by intro k;(first|refine Z02 ?_|refine Z03 ?_|refine Z04 ?_|refine Z05 ?_|refine Z06 ?_|refine Z07 ?_|refine Z08 ?_|refine Z09 ?_|refine Z10 ?_|refine Z11 ?_|refine Z12 ?_|refine Z13 ?_|refine Z14 ?_|refine Z19 ?_|refine Z24 ?_|refine Z25 ?_|refine Z26 ?_|refine Z27 ?_|refine Z28 ?_|refine Z29 ?_|refine Z30 ?_|refine Z31 ?_|refine Z32 ?_|refine Z62 ?_|refine Z63 ?_|refine Z64 ?_|refine Z65 ?_|refine Z67 ?_);exact k.h) : a := h ⟨k⟩
set_option maxHeartbeats 8000000 in
theorem clear_on {P : Kf.K2.Pt p} (h : Kf.K2.Onc b2c P) {a b e f : Nat} (ha : a < W ^ 6) (hb : b < W ^ 6) (he : e < W ^ 6) (hf : f < W ^ 6) (i : Bool) (hP : P = ptv (k2 a b) (k2 e f) i) :
  Spec Try.prog 49 [G4 a b e f i] NoPre [] (IsV (.tuple [GV (Kf.K2.tim P (V hC)), N .i64 0].toArray)) := by
 refine mk_spec Try.func49 rfl rfl rfl fun w hr => ?_
 have hl0 := fun x => D_len 6 x
 have hle := fun x : F2 => E2_len x
 have hm := fun s => gmul_on h ha hb he hf i hP s hC hC_lt (by decide)
 obtain ⟨x1, y1, i1, hq⟩ : ∃ x1 y1 i1, GV (Kf.K2.tim P (V hC)) = GE x1 y1 i1 := ⟨_, _, _, rfl⟩
 rw [hq] at hm ⊢
 repeat (first|(refine y_92 ?_;intro _)|refine st_alloc (v := LV .u64 (List.replicate 10 0)) (by rfl) (by rfl) fun _ => ?_|(refine st_buildC (m := 10) (kk := .u64) (by rfl) (by rfl) (by rfl) (by rfl) (by rfl) (by rfl) (by rfl) (by rfl) ?_; rw [show [16717924791090763089, 6451771550755190452, 16813287336095381155, 3368952460600638490, 7891079509683868336, 3646841576362204053, 11062809923385098209, 9863631852917151592, 6362576984766887208, 848540440590185907] ++ List.replicate (10 - [16717924791090763089, 6451771550755190452, 16813287336095381155, 3368952460600638490, 7891079509683868336, 3646841576362204053, 11062809923385098209, 9863631852917151592, 6362576984766887208, 848540440590185907].length) 0 = hC from rfl])|refine y_127 ?_|refine Z81 fun _ => ?_|refine Z82 fun _ => ?_)
 refine R.st_perm [0, 1, 2, 3, 4, 5, 6] (by rfl) ?_
 repeat (first|(refine R.Zpf (by rfl) (by intro _ _ _;(first|refine Z02 ?_|refine Z19 ?_|refine Z62 ?_|refine Z63 ?_|refine Z64 ?_|refine Z65 ?_);exact Zq) ?_)|refine y_144 ?_|refine y_106 ?_|(refine R.Zpp (by rfl) (by intro _ _ _;refine st_callV (by rfl) (by rfl) (by rfl) (hm _) (RdW.arrAll (m := 10) (by repeat first|apply Find.here|apply Find.there) hC_len) (by rfl) ?_;exact Zq) ?_)|refine y_180 ?_|(refine y_50 ?_;intro _)|refine R.Zpo (by rfl) ?_)
 refine R.Zp0 ?_
 repeat (first|refine y_127 ?_|refine Z81 fun _ => ?_|refine Z82 fun _ => ?_)
 refine st_endc2_GL (m := 24) (by rfl) (by rfl) (by rfl) (by repeat first|apply Find.here|apply Find.there) (by rfl) (by rfl) (by first|with_reducible assumption|simp) fun _ hw => post_of hw SubW.nil ⟨?_, rfl⟩
 rfl
theorem clearE {P : Kf.K2.Pt p} (h : Kf.K2.Onc b2c P) : Spec Try.prog 49 [GV P] NoPre [] (IsV (.tuple [GV (Kf.K2.tim P (V hC)), N .i64 0].toArray)) :=
 clear_on h (val_lt (gx P).re) (val_lt (gx P).im) (val_lt (gy P).re) (val_lt (gy P).im) (gi P) (by rw [k2_val, k2_val, ptv_gv])
def sent (u : F2) : Kf.K2.Pt p := some (phx (mapP u).1, phy (mapP u).1 (mapP u).2)
theorem sent_on (u : F2) : Kf.K2.Onc b2c (sent u) := ph_on (mapP_on u)
theorem sent_spec {a b : Nat} (ha : a < W ^ 6) (hb : b < W ^ 6) : Spec Try.prog 91 [LV .u64 (D 6 a ++ D 6 b)] NoPre [] (IsV (GV (sent (k2 a b)))) := by
 refine mk_spec Try.func91 rfl rfl rfl fun w hr => ?_
 have hl0 := fun x => D_len 6 x
 have hle := fun x : F2 => E2_len x
 have hm := map_spec ha hb
 have hi := isoT (mapP_on (k2 a b))
 rw [sent, GV_some]
 generalize mapP (k2 a b) = r at hm hi ⊢
 obtain ⟨x, y⟩ := r
 simp only at hm hi ⊢
 generalize phx x = c at hi ⊢
 generalize phy x y = d at hi ⊢
 repeat (first|(refine y_92 ?_;intro _)|refine y_2 hm ?_|refine y_2 hi ?_|refine y_96 ?_|refine Z03 ?_|refine Z04 ?_|refine Z05 ?_|refine Z06 ?_|refine Z07 ?_|refine Z08 ?_|refine Z09 ?_|refine Z10 ?_|refine Z11 ?_|refine Z12 ?_|refine Z13 ?_|refine Z14 ?_|refine Z19 ?_|refine Z24 ?_|refine Z25 ?_|refine Z26 ?_|refine Z27 ?_|refine Z28 ?_|refine Z29 ?_|refine Z30 ?_|refine Z31 ?_|refine Z32 ?_|refine Z67 ?_|refine Z81 fun _ => ?_|refine Z82 fun _ => ?_)
 refine st_endc_GL (m := 24) (by rfl) (by rfl) (by repeat first|apply Find.here|apply Find.there) (by rfl) (by rfl) (by first|with_reducible assumption|simp) fun _ hw => post_of hw SubW.nil ⟨?_, rfl⟩
 rfl
def send (u v : F2) : Kf.K2.Pt p := Kf.K2.tim (Kf.K2.pa (sent u) (sent v)) (V hC)
theorem send_on (u v : F2) : Kf.K2.Onc b2c (send u v) := Kf.K2.Onc_tim p_3 (Kf.K2.Onc_pa p_3 (sent_on u) (sent_on v)) _
theorem y_128 {a b : Prop} (k : b) (h : Rm b → a := by intro k;refine R.Zpb (by rfl) (by intro _ _ _;refine st_alloc (E := 38) (v := GL (List.replicate 24 0) false) (by kernel_rfl) (by rfl) fun _ => ?_;exact R.Zpbx) ?_;exact k.h) : a := h ⟨k⟩
set_option maxHeartbeats 8000000 in
theorem send_spec {a b e f : Nat} (ha : a < W ^ 6) (hb : b < W ^ 6) (he : e < W ^ 6) (hf : f < W ^ 6) : Spec Try.prog 50 [LV .u64 (D 6 a ++ D 6 b), LV .u64 (D 6 e ++ D 6 f)] NoPre [] (IsV (GV (send (k2 a b) (k2 e f)))) := by
 refine mk_spec Try.func50 rfl rfl rfl fun w hr => ?_
 have hl0 := fun x => D_len 6 x
 have hle := fun x : F2 => E2_len x
 have h1 := sent_spec ha hb
 have h2 := sent_spec he hf
 have h3 := gaddE (sent (k2 a b)) (sent (k2 e f))
 have h4 := clearE (Kf.K2.Onc_pa p_3 (sent_on (k2 a b)) (sent_on (k2 e f)))
 rw [send]
 obtain ⟨x1, y1, i1, hq1⟩ : ∃ x1 y1 i1, GV (sent (k2 a b)) = GE x1 y1 i1 := ⟨_, _, _, rfl⟩
 obtain ⟨x2, y2, i2, hq2⟩ : ∃ x1 y1 i1, GV (sent (k2 e f)) = GE x1 y1 i1 := ⟨_, _, _, rfl⟩
 obtain ⟨x3, y3, i3, hq3⟩ : ∃ x1 y1 i1, GV (Kf.K2.pa (sent (k2 a b)) (sent (k2 e f))) = GE x1 y1 i1 := ⟨_, _, _, rfl⟩
 obtain ⟨x4, y4, i4, hq4⟩ : ∃ x1 y1 i1, GV (Kf.K2.tim (Kf.K2.pa (sent (k2 a b)) (sent (k2 e f))) (V hC)) = GE x1 y1 i1 := ⟨_, _, _, rfl⟩
 rw [hq1] at h1 h3
 rw [hq2] at h2 h3
 rw [hq3] at h3 h4
 rw [hq4] at h4 ⊢
 repeat (first|(refine y_92 ?_;intro _)|refine Z01 ?_|refine Z02 ?_|refine Z03 ?_|refine Z04 ?_|refine Z05 ?_|refine Z06 ?_|refine Z07 ?_|refine Z08 ?_|refine Z09 ?_|refine Z10 ?_|refine Z11 ?_|refine Z12 ?_|refine Z13 ?_|refine Z14 ?_|refine Z19 ?_|refine Z24 ?_|refine Z25 ?_|refine Z26 ?_|refine Z27 ?_|refine Z28 ?_|refine Z29 ?_|refine Z30 ?_|refine Z31 ?_|refine Z32 ?_|refine Z67 ?_|refine Z81 fun _ => ?_|refine Z82 fun _ => ?_)
 refine R.st_perm [0, 1, 2, 3, 4, 5, 6, 7, 8, 9, 10, 11, 12, 13] (by rfl) ?_
 repeat (first|(refine R.Zpf (by rfl) (by intro _ _ _;(first|refine Z01 ?_|refine Z02 ?_|refine Z19 ?_);exact Zq) ?_)|refine y_148 ?_|refine y_58 ?_|refine y_59 h1 ?_|refine y_59 h2 ?_|refine y_59 h3 ?_|refine y_59 h4 ?_|refine y_180 ?_|(refine y_128 ?_;intro _)|(refine y_50 ?_;intro _)|refine R.Zpo (by rfl) ?_)
 refine R.Zp0 ?_
 repeat (first|refine y_103 ?_|refine y_96 ?_|refine Z01 ?_|refine Z02 ?_|refine Z03 ?_|refine Z04 ?_|refine Z05 ?_|refine Z06 ?_|refine Z07 ?_|refine Z08 ?_|refine Z09 ?_|refine Z10 ?_|refine Z11 ?_|refine Z12 ?_|refine Z13 ?_|refine Z14 ?_|refine Z19 ?_|refine Z24 ?_|refine Z25 ?_|refine Z26 ?_|refine Z27 ?_|refine Z28 ?_|refine Z29 ?_|refine Z30 ?_|refine Z31 ?_|refine Z32 ?_|refine Z67 ?_|refine Z81 fun _ => ?_|refine Z82 fun _ => ?_)
 refine st_endc_GL (m := 24) (by rfl) (by rfl) (by repeat first|apply Find.here|apply Find.there) (by rfl) (by rfl) (by first|with_reducible assumption|simp) fun _ hw => post_of hw SubW.nil ⟨?_, rfl⟩
 rfl
end Go.Proofs.Ytbpmbdlgmmabcaa.L
