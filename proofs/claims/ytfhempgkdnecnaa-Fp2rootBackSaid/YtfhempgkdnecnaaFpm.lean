/- Signs and numbers with u: the document's answer's walks. Conditions: as each statement says. -/
import Derived.Test.YtfhempgkdnecnaaAuto
import Derived.Test.YtfhempgkdnecnaaPerm
import Derived.Test.YtfhempgkdnecnaaMore
import Derived.Test.YtfhempgkdnecnaaProg
import Derived.Test.YtfhempgkdnecnaaNum
import Derived.Test.YtfhempgkdnecnaaLmb
import Derived.Test.YtfhempgkdnecnaaLmd
import Derived.Test.YtfhempgkdnecnaaLmk
import Derived.Test.YtfhempgkdnecnaaScope
import Derived.Test.YtfhempgkdnecnaaJoin
import Derived.Test.YtfhempgkdnecnaaLma
import Derived.Test.YtfhempgkdnecnaaLmf
import Derived.Test.YtfhempgkdnecnaaLmw
import Derived.Test.YtfhempgkdnecnaaWin
import Derived.Test.YtfhempgkdnecnaaGho
import Derived.Test.YtfhempgkdnecnaaOrd
import Derived.Test.YtfhempgkdnecnaaBld
import Derived.Test.YtfhempgkdnecnaaFld
import Derived.Test.YtfhempgkdnecnaaOld
import Derived.Test.YtfhempgkdnecnaaArr
import Derived.Test.YtfhempgkdnecnaaClr
import Derived.Test.YtfhempgkdnecnaaPq
import Derived.Test.YtfhempgkdnecnaaKf
import Derived.Test.YtfhempgkdnecnaaKs
import Derived.Test.YtfhempgkdnecnaaKt
import Derived.Test.YtfhempgkdnecnaaFpa
import Derived.Test.YtfhempgkdnecnaaFpb
import Derived.Test.YtfhempgkdnecnaaFpc
import Derived.Test.YtfhempgkdnecnaaFpd
import Derived.Test.YtfhempgkdnecnaaFpe
import Derived.Test.YtfhempgkdnecnaaFpf
import Derived.Test.YtfhempgkdnecnaaFpg
import Derived.Test.YtfhempgkdnecnaaFph
import Derived.Test.YtfhempgkdnecnaaFpi
import Derived.Test.YtfhempgkdnecnaaFpj
import Derived.Test.YtfhempgkdnecnaaFpk
namespace Go.Proofs.Ytfhempgkdnecnaa.L
open Go Go.Proofs
set_option maxRecDepth 100000
attribute [local irreducible] Code.wp wpList Af bodyPost L.Go
open Num
attribute [local simp] D_len

theorem rred_spec {a : Nat} (ha : a < W ^ 6) : Spec Try.prog 70 [LV .u64 (D 6 a)] NoPre [] (IsV (LV .u64 (D 6 (kp a).val))) := qreduce_spec ha
theorem radd_spec {a b : Nat} (ha : a < W ^ 6) (hb : b < W ^ 6) : Spec Try.prog 110 [LV .u64 (D 6 a), LV .u64 (D 6 b)] NoPre [] (IsV (LV .u64 (D 6 (kp a + kp b).val))) := by
  rw [← kadd_eq]; exact qadd_spec ha hb
theorem rmul_spec {a b : Nat} (ha : a < W ^ 6) (hb : b < W ^ 6) : Spec Try.prog 109 [LV .u64 (D 6 a), LV .u64 (D 6 b)] NoPre [] (IsV (LV .u64 (D 6 (kp a * kp b).val))) := by
  rw [← kmul_eq]; exact qmul_spec ha hb
theorem rsub_spec {a b : Nat} (ha : a < W ^ 6) (hb : b < W ^ 6) : Spec Try.prog 108 [LV .u64 (D 6 a), LV .u64 (D 6 b)] NoPre [] (IsV (LV .u64 (D 6 (kp a - kp b).val))) := by
  rw [← ksub_eq]; exact qsub_spec ha hb
theorem rneg_spec {a : Nat} (ha : a < W ^ 6) : Spec Try.prog 111 [LV .u64 (D 6 a)] NoPre [] (IsV (LV .u64 (D 6 (- kp a).val))) := by
  rw [← kneg_eq]; exact qneg_spec ha
theorem rinv_spec {a : Nat} (ha : a < W ^ 6) : Spec Try.prog 124 [LV .u64 (D 6 a)] NoPre [] (IsV (LV .u64 (D 6 (Kf.inv (kp a)).val))) := by
  rw [← kinv_eq]; exact qinv_spec ha
theorem raddF (x y : Fq) : Spec Try.prog 110 [LV .u64 (D 6 x.val), LV .u64 (D 6 y.val)] NoPre [] (IsV (LV .u64 (D 6 (x + y).val))) := by
  have := radd_spec (val_lt x) (val_lt y); rwa [kp_val, kp_val] at this
theorem rsubF (x y : Fq) : Spec Try.prog 108 [LV .u64 (D 6 x.val), LV .u64 (D 6 y.val)] NoPre [] (IsV (LV .u64 (D 6 (x - y).val))) := by
  have := rsub_spec (val_lt x) (val_lt y); rwa [kp_val, kp_val] at this
theorem rinvF (x : Fq) : Spec Try.prog 124 [LV .u64 (D 6 x.val)] NoPre [] (IsV (LV .u64 (D 6 (Kf.inv x).val))) := by
  have := rinv_spec (val_lt x); rwa [kp_val] at this

/-! ## Signs -/
theorem low_mod {u : Nat} (hu : u < W ^ 6) : (D 6 u).getD 0 0 % 2 = u % 2 := by
  rw [D_getD' hu, Nat.pow_zero, Nat.div_one, show W = 18446744073709551616 from rfl]
  omega
theorem rsign_spec {a : Nat} (ha : a < W ^ 6) : Spec Try.prog 71 [LV .u64 (D 6 a)] NoPre [] (IsV (N .i64 (Kf.sg (kp a)))) := by
  refine mk_spec Try.func71 rfl rfl rfl fun w _ => ?_
  have hl0 := fun x => D_len 6 x
  have hla := hl0 (kp a).val
  have hb := low_mod (val_lt (kp a))
  repeat (first
    |(refine st_alloc (v := LV .u64 (List.replicate 6 0)) (by rfl) (by rfl) fun _ => ?_)
    |(refine st_callV (by rfl) (by rfl) (by rfl) (rred_spec ha) (fun _ _ => trivial) (by rfl) ?_)|(refine st_umod (by rfl) (by rfl) (by decide) (by rfl) ?_)|(rw [hb])
    |refine Z02 ?_|refine Z03 ?_|refine Z04 ?_|refine Z05 ?_|refine Z06 ?_|refine Z07 ?_|refine Z08 ?_|refine Z09 ?_|refine Z10 ?_|refine Z11 ?_|refine Z12 ?_
    |refine Z13 ?_|refine Z14 ?_|refine Z22 ?_|refine Z23 ?_|refine Z24 ?_|refine Z25 ?_|refine Z26 ?_|refine Z27 ?_|refine Z28 ?_|refine Z29 ?_|refine Z30 ?_
    |refine Z31 ?_|refine Z32 ?_|refine Z38 ?_|refine Z44 ?_|refine Z45 ?_|refine Z67 ?_|refine Z74 ?_|refine Z80 ?_|refine Z81 fun _ => ?_|refine Z82 fun _ => ?_)
  refine Ze1 fun _ hw => post_of hw SubW.nil ⟨?_, rfl⟩
  rfl
theorem rbig_spec {a : Nat} (ha : a < W ^ 6) : Spec Try.prog 72 [LV .u64 (D 6 a)] NoPre [] (IsV (.bool (decide ((- kp a).val < (kp a).val)))) := by
  refine mk_spec Try.func72 rfl rfl rfl fun w _ => ?_
  have hl0 := fun x => D_len 6 x
  have hlx := hl0 (kp a).val
  have hly := hl0 (- kp a).val
  have hv1 := V_D' (val_lt (kp a))
  have hv2 := V_D' (val_lt (- kp a))
  repeat (first
    |(refine st_alloc (v := LV .u64 (List.replicate 6 0)) (by rfl) (by rfl) fun _ => ?_)
    |(refine st_callV (by rfl) (by rfl) (by rfl) (rred_spec ha) (fun _ _ => trivial) (by rfl) ?_)
    |(refine st_callV (by rfl) (by rfl) (by rfl) (rneg_spec ha) (fun _ _ => trivial) (by rfl) ?_)|refine Z02 ?_|refine Z03 ?_|refine Z04 ?_|refine Z05 ?_|refine Z06 ?_
    |refine Z07 ?_|refine Z08 ?_|refine Z09 ?_|refine Z10 ?_|refine Z11 ?_|refine Z12 ?_|refine Z13 ?_|refine Z14 ?_|refine Z17 ?_|refine Z18 ?_|refine Z24 ?_
    |refine Z25 ?_|refine Z26 ?_|refine Z27 ?_|refine Z28 ?_|refine Z29 ?_|refine Z30 ?_|refine Z31 ?_|refine Z32 ?_|refine Z62 ?_|refine Z63 ?_|refine Z64 ?_
    |refine Z67 ?_|refine Z81 fun _ => ?_|refine Z82 fun _ => ?_)
  refine st_draw1 (by rfl) ?_
  repeat (first
    |refine Zqf (by intro _ _ _;(first
      |refine Z02 ?_|refine Z17 ?_|refine Z18 ?_|refine Z62 ?_|refine Z63 ?_|refine Z64 ?_);exact Zq) ?_
    |refine Zqp (by intro _ _ _;(refine st_callV (by rfl) (by rfl) (by rfl) (cmp3_spec _ _ (D 6 (kp a).val) (D 6 (- kp a).val) (D_lt _ _) (D_lt _ _) (by omega) (by omega)) (fun w hw => ⟨RdW.arrAll (m := 6) (by repeat (first | apply Find.here | apply Find.there)) hlx w hw, RdW.arrAll (m := 6) (by repeat (first | apply Find.here | apply Find.there)) hly w hw⟩) (by rfl) ?_; rw [hv1, hv2]);exact Zq) ?_
    |refine Zqp (by intro _ _ _;(first
      |refine Z24 ?_|refine Z25 ?_|refine Z26 ?_|refine Z27 ?_|refine Z28 ?_|refine Z67 ?_|refine Z62 ?_);exact Zq) ?_
    |refine Zqe (by intro _ _ _;(first
      |refine Z29 ?_|refine Z30 ?_|refine Z31 ?_|refine Z32 ?_);exact Zqq) ?_
    |refine Zqn ?_)
  refine Zq0 ?_ (by kernel_rfl)
  rw [ord3_pos]
  repeat (first
    |refine Z02 ?_|refine Z03 ?_|refine Z04 ?_|refine Z05 ?_|refine Z06 ?_|refine Z07 ?_|refine Z08 ?_|refine Z09 ?_|refine Z10 ?_|refine Z11 ?_|refine Z12 ?_
    |refine Z13 ?_|refine Z14 ?_|refine Z17 ?_|refine Z18 ?_|refine Z24 ?_|refine Z25 ?_|refine Z26 ?_|refine Z27 ?_|refine Z28 ?_|refine Z29 ?_|refine Z30 ?_
    |refine Z31 ?_|refine Z32 ?_|refine Z62 ?_|refine Z63 ?_|refine Z64 ?_|refine Z67 ?_|refine Z81 fun _ => ?_|refine Z82 fun _ => ?_)
  refine Ze1 fun _ hw => post_of hw SubW.nil ⟨?_, rfl⟩
  rfl

/-! ## Numbers with u -/
theorem tred_spec {a b : Nat} (ha : a < W ^ 6) (hb : b < W ^ 6) : Spec Try.prog 68 [LV .u64 (D 6 a ++ D 6 b)] NoPre [] (IsV (LV .u64 (E2 (k2 a b)))) := by
  refine mk_spec Try.func68 rfl rfl rfl fun w _ => ?_
  have hl0 := fun x => D_len 6 x
  repeat (first
    |(refine st_alloc (v := LV .u64 (List.replicate 12 0)) (by rfl) (by rfl) fun _ => ?_)|refine Z03 ?_|refine Z04 ?_|refine Z05 ?_|refine Z06 ?_|refine Z07 ?_
    |refine Z08 ?_|refine Z09 ?_|refine Z10 ?_|refine Z11 ?_|refine Z12 ?_|refine Z13 ?_|refine Z14 ?_|refine Z24 ?_|refine Z25 ?_|refine Z26 ?_|refine Z27 ?_
    |refine Z28 ?_|refine Z29 ?_|refine Z30 ?_|refine Z31 ?_|refine Z32 ?_|refine Z65 ?_|refine Z67 ?_|refine Z81 fun _ => ?_|refine Z82 fun _ => ?_)
  refine st_draw1 (by rfl) ?_
  repeat (first
    |refine Zqf (by intro _ _ _;(first
      
      |(refine st_fld (by rfl) (by first | exact (show _ = some (0, 6) from rfl) | exact (show _ = some (6, 6) from rfl) | exact (show _ = some (0, 12) from rfl) | exact (show _ = some (12, 12) from rfl) | exact (show _ = some (24, 1) from rfl)) (by rfl) (by rfl) ?_)
      |(refine st_build2 (by rfl) (by rfl) (by rfl) (by rfl) (by first | exact D_len _ _ | (simp; done)) (by first | exact D_len _ _ | (simp; done)) (by rfl) ?_)
      |(refine st_build2a (by rfl) (by rfl) (by rfl) (by rfl) (by first | exact D_len _ _ | (simp; done)) (by rfl) ?_)
      |(refine st_build2b (by rfl) (by rfl) (by rfl) (by rfl) (by first | exact D_len _ _ | (simp; done)) (by rfl) ?_)
      |(refine st_build20 (by rfl) (by rfl) (by rfl) (by rfl) ?_)
      |(refine st_eq2 (by rfl) (by rfl) (by rfl) (by kernel_rfl) (by rfl) (by rfl) (by rfl) (by rfl) (by rfl) (by rfl) (by rfl) (by rfl) (by rfl) (by rfl) (by kernel_rfl) (by first | exact D_len _ _ | (simp; done)) (by first | exact D_len _ _ | (simp; done)) (by first | exact D_len _ _ | (simp; done)) (by first | exact D_len _ _ | (simp; done)) (by rfl) ?_)
      |(refine st_ne2 (by rfl) (by rfl) (by rfl) (by kernel_rfl) (by rfl) (by rfl) (by rfl) (by rfl) (by rfl) (by rfl) (by rfl) (by rfl) (by rfl) (by rfl) (by kernel_rfl) (by first | exact D_len _ _ | (simp; done)) (by first | exact D_len _ _ | (simp; done)) (by first | exact D_len _ _ | (simp; done)) (by first | exact D_len _ _ | (simp; done)) (by rfl) ?_)
      |(refine st_fieldLV (by rfl) (by first | exact (show _ = some (0, 6) from rfl) | exact (show _ = some (6, 6) from rfl) | exact (show _ = some (0, 12) from rfl) | exact (show _ = some (12, 12) from rfl) | exact (show _ = some (24, 1) from rfl)) (by first | (refine PartAt.l ?_; (first | exact D_len _ _ | (simp; done))) | (refine PartAt.r ?_ ?_ <;> (first | exact D_len _ _ | (simp; done))) | (refine PartAt.all ?_; (first | exact D_len _ _ | (simp; done)))) (by rfl) (by rfl) ?_)
      |refine Z65 ?_);exact Zq) ?_
    |refine Zqp (by intro _ _ _;(refine st_ldp (by rfl) (by repeat (first | apply Find.here | apply Find.there)) (by rfl) (by rfl) (by first | (refine PartAt.l ?_; (first | exact D_len _ _ | (simp; done))) | (refine PartAt.r ?_ ?_ <;> (first | exact D_len _ _ | (simp; done))) | (refine PartAt.all ?_; (first | exact D_len _ _ | (simp; done)))) (by rfl) ?_);exact Zq) ?_
    |refine Zqp (by intro _ _ _;refine st_callV (by rfl) (by rfl) (by rfl) (rred_spec ha) (fun _ _ => trivial) (by rfl) ?_;exact Zq) ?_
    |refine Zqp (by intro _ _ _;refine st_callV (by rfl) (by rfl) (by rfl) (rred_spec hb) (fun _ _ => trivial) (by rfl) ?_;exact Zq) ?_
    |refine Zqp (by intro _ _ _;(first
      |refine Z24 ?_|refine Z25 ?_|refine Z26 ?_|refine Z27 ?_|refine Z28 ?_|refine Z67 ?_);exact Zq) ?_
    |refine Zqe (by intro _ _ _;(first
      |refine Z29 ?_|refine Z30 ?_|refine Z31 ?_|refine Z32 ?_);exact Zqq) ?_
    |refine Zqn ?_)
  refine Zq0 ?_ (by kernel_rfl)
  repeat (first
    |refine Z03 ?_|refine Z04 ?_|refine Z05 ?_|refine Z06 ?_|refine Z07 ?_|refine Z08 ?_|refine Z09 ?_|refine Z10 ?_|refine Z11 ?_|refine Z12 ?_|refine Z13 ?_
    |refine Z14 ?_|refine Z24 ?_|refine Z25 ?_|refine Z26 ?_|refine Z27 ?_|refine Z28 ?_|refine Z29 ?_|refine Z30 ?_|refine Z31 ?_|refine Z32 ?_|refine Z65 ?_
    |refine Z67 ?_|refine Z81 fun _ => ?_|refine Z82 fun _ => ?_)
  refine Zec fun _ hw => post_of hw SubW.nil ⟨?_, rfl⟩
  rfl
theorem tadd_spec {a b e f : Nat} (ha : a < W ^ 6) (hb : b < W ^ 6) (he : e < W ^ 6) (hf : f < W ^ 6) : Spec Try.prog 106 [LV .u64 (D 6 a ++ D 6 b), LV .u64 (D 6 e ++ D 6 f)] NoPre [] (IsV (LV .u64 (E2 (Kf.K2.add (k2 a b) (k2 e f))))) := by
  refine mk_spec Try.func106 rfl rfl rfl fun w _ => ?_
  have hl0 := fun x => D_len 6 x
  repeat (first
    |(refine st_alloc (v := LV .u64 (List.replicate 12 0)) (by rfl) (by rfl) fun _ => ?_)|refine Z03 ?_|refine Z04 ?_|refine Z05 ?_|refine Z06 ?_|refine Z07 ?_
    |refine Z08 ?_|refine Z09 ?_|refine Z10 ?_|refine Z11 ?_|refine Z12 ?_|refine Z13 ?_|refine Z14 ?_|refine Z24 ?_|refine Z25 ?_|refine Z26 ?_|refine Z27 ?_
    |refine Z28 ?_|refine Z29 ?_|refine Z30 ?_|refine Z31 ?_|refine Z32 ?_|refine Z65 ?_|refine Z67 ?_|refine Z81 fun _ => ?_|refine Z82 fun _ => ?_)
  refine st_draw1 (by rfl) ?_
  repeat (first
    |refine Zqf (by intro _ _ _;(first
      
      |(refine st_fld (by rfl) (by first | exact (show _ = some (0, 6) from rfl) | exact (show _ = some (6, 6) from rfl) | exact (show _ = some (0, 12) from rfl) | exact (show _ = some (12, 12) from rfl) | exact (show _ = some (24, 1) from rfl)) (by rfl) (by rfl) ?_)
      |(refine st_build2 (by rfl) (by rfl) (by rfl) (by rfl) (by first | exact D_len _ _ | (simp; done)) (by first | exact D_len _ _ | (simp; done)) (by rfl) ?_)
      |(refine st_build2a (by rfl) (by rfl) (by rfl) (by rfl) (by first | exact D_len _ _ | (simp; done)) (by rfl) ?_)
      |(refine st_build2b (by rfl) (by rfl) (by rfl) (by rfl) (by first | exact D_len _ _ | (simp; done)) (by rfl) ?_)
      |(refine st_build20 (by rfl) (by rfl) (by rfl) (by rfl) ?_)
      |(refine st_eq2 (by rfl) (by rfl) (by rfl) (by kernel_rfl) (by rfl) (by rfl) (by rfl) (by rfl) (by rfl) (by rfl) (by rfl) (by rfl) (by rfl) (by rfl) (by kernel_rfl) (by first | exact D_len _ _ | (simp; done)) (by first | exact D_len _ _ | (simp; done)) (by first | exact D_len _ _ | (simp; done)) (by first | exact D_len _ _ | (simp; done)) (by rfl) ?_)
      |(refine st_ne2 (by rfl) (by rfl) (by rfl) (by kernel_rfl) (by rfl) (by rfl) (by rfl) (by rfl) (by rfl) (by rfl) (by rfl) (by rfl) (by rfl) (by rfl) (by kernel_rfl) (by first | exact D_len _ _ | (simp; done)) (by first | exact D_len _ _ | (simp; done)) (by first | exact D_len _ _ | (simp; done)) (by first | exact D_len _ _ | (simp; done)) (by rfl) ?_)
      |(refine st_fieldLV (by rfl) (by first | exact (show _ = some (0, 6) from rfl) | exact (show _ = some (6, 6) from rfl) | exact (show _ = some (0, 12) from rfl) | exact (show _ = some (12, 12) from rfl) | exact (show _ = some (24, 1) from rfl)) (by first | (refine PartAt.l ?_; (first | exact D_len _ _ | (simp; done))) | (refine PartAt.r ?_ ?_ <;> (first | exact D_len _ _ | (simp; done))) | (refine PartAt.all ?_; (first | exact D_len _ _ | (simp; done)))) (by rfl) (by rfl) ?_)
      |refine Z65 ?_);exact Zq) ?_
    |refine Zqp (by intro _ _ _;(refine st_ldp (by rfl) (by repeat (first | apply Find.here | apply Find.there)) (by rfl) (by rfl) (by first | (refine PartAt.l ?_; (first | exact D_len _ _ | (simp; done))) | (refine PartAt.r ?_ ?_ <;> (first | exact D_len _ _ | (simp; done))) | (refine PartAt.all ?_; (first | exact D_len _ _ | (simp; done)))) (by rfl) ?_);exact Zq) ?_
    |refine Zqp (by intro _ _ _;refine st_callV (by rfl) (by rfl) (by rfl) (radd_spec ha he) (fun _ _ => trivial) (by rfl) ?_;exact Zq) ?_
    |refine Zqp (by intro _ _ _;refine st_callV (by rfl) (by rfl) (by rfl) (radd_spec hb hf) (fun _ _ => trivial) (by rfl) ?_;exact Zq) ?_
    |refine Zqp (by intro _ _ _;(first
      |refine Z24 ?_|refine Z25 ?_|refine Z26 ?_|refine Z27 ?_|refine Z28 ?_|refine Z67 ?_);exact Zq) ?_
    |refine Zqe (by intro _ _ _;(first
      |refine Z29 ?_|refine Z30 ?_|refine Z31 ?_|refine Z32 ?_);exact Zqq) ?_
    |refine Zqn ?_)
  refine Zq0 ?_ (by kernel_rfl)
  repeat (first
    |refine Z03 ?_|refine Z04 ?_|refine Z05 ?_|refine Z06 ?_|refine Z07 ?_|refine Z08 ?_|refine Z09 ?_|refine Z10 ?_|refine Z11 ?_|refine Z12 ?_|refine Z13 ?_
    |refine Z14 ?_|refine Z24 ?_|refine Z25 ?_|refine Z26 ?_|refine Z27 ?_|refine Z28 ?_|refine Z29 ?_|refine Z30 ?_|refine Z31 ?_|refine Z32 ?_|refine Z65 ?_
    |refine Z67 ?_|refine Z81 fun _ => ?_|refine Z82 fun _ => ?_)
  refine Zec fun _ hw => post_of hw SubW.nil ⟨?_, rfl⟩
  rfl
theorem tneg_spec {a b : Nat} (ha : a < W ^ 6) (hb : b < W ^ 6) : Spec Try.prog 69 [LV .u64 (D 6 a ++ D 6 b)] NoPre [] (IsV (LV .u64 (E2 (Kf.K2.neg (k2 a b))))) := by
  refine mk_spec Try.func69 rfl rfl rfl fun w _ => ?_
  have hl0 := fun x => D_len 6 x
  repeat (first
    |(refine st_alloc (v := LV .u64 (List.replicate 12 0)) (by rfl) (by rfl) fun _ => ?_)|refine Z03 ?_|refine Z04 ?_|refine Z05 ?_|refine Z06 ?_|refine Z07 ?_
    |refine Z08 ?_|refine Z09 ?_|refine Z10 ?_|refine Z11 ?_|refine Z12 ?_|refine Z13 ?_|refine Z14 ?_|refine Z24 ?_|refine Z25 ?_|refine Z26 ?_|refine Z27 ?_
    |refine Z28 ?_|refine Z29 ?_|refine Z30 ?_|refine Z31 ?_|refine Z32 ?_|refine Z65 ?_|refine Z67 ?_|refine Z81 fun _ => ?_|refine Z82 fun _ => ?_)
  refine st_draw1 (by rfl) ?_
  repeat (first
    |refine Zqf (by intro _ _ _;(first
      
      |(refine st_fld (by rfl) (by first | exact (show _ = some (0, 6) from rfl) | exact (show _ = some (6, 6) from rfl) | exact (show _ = some (0, 12) from rfl) | exact (show _ = some (12, 12) from rfl) | exact (show _ = some (24, 1) from rfl)) (by rfl) (by rfl) ?_)
      |(refine st_build2 (by rfl) (by rfl) (by rfl) (by rfl) (by first | exact D_len _ _ | (simp; done)) (by first | exact D_len _ _ | (simp; done)) (by rfl) ?_)
      |(refine st_build2a (by rfl) (by rfl) (by rfl) (by rfl) (by first | exact D_len _ _ | (simp; done)) (by rfl) ?_)
      |(refine st_build2b (by rfl) (by rfl) (by rfl) (by rfl) (by first | exact D_len _ _ | (simp; done)) (by rfl) ?_)
      |(refine st_build20 (by rfl) (by rfl) (by rfl) (by rfl) ?_)
      |(refine st_eq2 (by rfl) (by rfl) (by rfl) (by kernel_rfl) (by rfl) (by rfl) (by rfl) (by rfl) (by rfl) (by rfl) (by rfl) (by rfl) (by rfl) (by rfl) (by kernel_rfl) (by first | exact D_len _ _ | (simp; done)) (by first | exact D_len _ _ | (simp; done)) (by first | exact D_len _ _ | (simp; done)) (by first | exact D_len _ _ | (simp; done)) (by rfl) ?_)
      |(refine st_ne2 (by rfl) (by rfl) (by rfl) (by kernel_rfl) (by rfl) (by rfl) (by rfl) (by rfl) (by rfl) (by rfl) (by rfl) (by rfl) (by rfl) (by rfl) (by kernel_rfl) (by first | exact D_len _ _ | (simp; done)) (by first | exact D_len _ _ | (simp; done)) (by first | exact D_len _ _ | (simp; done)) (by first | exact D_len _ _ | (simp; done)) (by rfl) ?_)
      |(refine st_fieldLV (by rfl) (by first | exact (show _ = some (0, 6) from rfl) | exact (show _ = some (6, 6) from rfl) | exact (show _ = some (0, 12) from rfl) | exact (show _ = some (12, 12) from rfl) | exact (show _ = some (24, 1) from rfl)) (by first | (refine PartAt.l ?_; (first | exact D_len _ _ | (simp; done))) | (refine PartAt.r ?_ ?_ <;> (first | exact D_len _ _ | (simp; done))) | (refine PartAt.all ?_; (first | exact D_len _ _ | (simp; done)))) (by rfl) (by rfl) ?_)
      |refine Z65 ?_);exact Zq) ?_
    |refine Zqp (by intro _ _ _;(refine st_ldp (by rfl) (by repeat (first | apply Find.here | apply Find.there)) (by rfl) (by rfl) (by first | (refine PartAt.l ?_; (first | exact D_len _ _ | (simp; done))) | (refine PartAt.r ?_ ?_ <;> (first | exact D_len _ _ | (simp; done))) | (refine PartAt.all ?_; (first | exact D_len _ _ | (simp; done)))) (by rfl) ?_);exact Zq) ?_
    |refine Zqp (by intro _ _ _;refine st_callV (by rfl) (by rfl) (by rfl) (rneg_spec ha) (fun _ _ => trivial) (by rfl) ?_;exact Zq) ?_
    |refine Zqp (by intro _ _ _;refine st_callV (by rfl) (by rfl) (by rfl) (rneg_spec hb) (fun _ _ => trivial) (by rfl) ?_;exact Zq) ?_
    |refine Zqp (by intro _ _ _;(first
      |refine Z24 ?_|refine Z25 ?_|refine Z26 ?_|refine Z27 ?_|refine Z28 ?_|refine Z67 ?_);exact Zq) ?_
    |refine Zqe (by intro _ _ _;(first
      |refine Z29 ?_|refine Z30 ?_|refine Z31 ?_|refine Z32 ?_);exact Zqq) ?_
    |refine Zqn ?_)
  refine Zq0 ?_ (by kernel_rfl)
  repeat (first
    |refine Z03 ?_|refine Z04 ?_|refine Z05 ?_|refine Z06 ?_|refine Z07 ?_|refine Z08 ?_|refine Z09 ?_|refine Z10 ?_|refine Z11 ?_|refine Z12 ?_|refine Z13 ?_
    |refine Z14 ?_|refine Z24 ?_|refine Z25 ?_|refine Z26 ?_|refine Z27 ?_|refine Z28 ?_|refine Z29 ?_|refine Z30 ?_|refine Z31 ?_|refine Z32 ?_|refine Z65 ?_
    |refine Z67 ?_|refine Z81 fun _ => ?_|refine Z82 fun _ => ?_)
  refine Zec fun _ hw => post_of hw SubW.nil ⟨?_, rfl⟩
  rfl
theorem tconj_spec {a b : Nat} (ha : a < W ^ 6) (hb : b < W ^ 6) : Spec Try.prog 122 [LV .u64 (D 6 a ++ D 6 b)] NoPre [] (IsV (LV .u64 (E2 (Kf.K2.conj (k2 a b))))) := by
  refine mk_spec Try.func122 rfl rfl rfl fun w _ => ?_
  have hl0 := fun x => D_len 6 x
  repeat (first
    |(refine st_alloc (v := LV .u64 (List.replicate 12 0)) (by rfl) (by rfl) fun _ => ?_)|refine Z03 ?_|refine Z04 ?_|refine Z05 ?_|refine Z06 ?_|refine Z07 ?_
    |refine Z08 ?_|refine Z09 ?_|refine Z10 ?_|refine Z11 ?_|refine Z12 ?_|refine Z13 ?_|refine Z14 ?_|refine Z24 ?_|refine Z25 ?_|refine Z26 ?_|refine Z27 ?_
    |refine Z28 ?_|refine Z29 ?_|refine Z30 ?_|refine Z31 ?_|refine Z32 ?_|refine Z65 ?_|refine Z67 ?_|refine Z81 fun _ => ?_|refine Z82 fun _ => ?_)
  refine st_draw1 (by rfl) ?_
  repeat (first
    |refine Zqf (by intro _ _ _;(first
      
      |(refine st_fld (by rfl) (by first | exact (show _ = some (0, 6) from rfl) | exact (show _ = some (6, 6) from rfl) | exact (show _ = some (0, 12) from rfl) | exact (show _ = some (12, 12) from rfl) | exact (show _ = some (24, 1) from rfl)) (by rfl) (by rfl) ?_)
      |(refine st_build2 (by rfl) (by rfl) (by rfl) (by rfl) (by first | exact D_len _ _ | (simp; done)) (by first | exact D_len _ _ | (simp; done)) (by rfl) ?_)
      |(refine st_build2a (by rfl) (by rfl) (by rfl) (by rfl) (by first | exact D_len _ _ | (simp; done)) (by rfl) ?_)
      |(refine st_build2b (by rfl) (by rfl) (by rfl) (by rfl) (by first | exact D_len _ _ | (simp; done)) (by rfl) ?_)
      |(refine st_build20 (by rfl) (by rfl) (by rfl) (by rfl) ?_)
      |(refine st_eq2 (by rfl) (by rfl) (by rfl) (by kernel_rfl) (by rfl) (by rfl) (by rfl) (by rfl) (by rfl) (by rfl) (by rfl) (by rfl) (by rfl) (by rfl) (by kernel_rfl) (by first | exact D_len _ _ | (simp; done)) (by first | exact D_len _ _ | (simp; done)) (by first | exact D_len _ _ | (simp; done)) (by first | exact D_len _ _ | (simp; done)) (by rfl) ?_)
      |(refine st_ne2 (by rfl) (by rfl) (by rfl) (by kernel_rfl) (by rfl) (by rfl) (by rfl) (by rfl) (by rfl) (by rfl) (by rfl) (by rfl) (by rfl) (by rfl) (by kernel_rfl) (by first | exact D_len _ _ | (simp; done)) (by first | exact D_len _ _ | (simp; done)) (by first | exact D_len _ _ | (simp; done)) (by first | exact D_len _ _ | (simp; done)) (by rfl) ?_)
      |(refine st_fieldLV (by rfl) (by first | exact (show _ = some (0, 6) from rfl) | exact (show _ = some (6, 6) from rfl) | exact (show _ = some (0, 12) from rfl) | exact (show _ = some (12, 12) from rfl) | exact (show _ = some (24, 1) from rfl)) (by first | (refine PartAt.l ?_; (first | exact D_len _ _ | (simp; done))) | (refine PartAt.r ?_ ?_ <;> (first | exact D_len _ _ | (simp; done))) | (refine PartAt.all ?_; (first | exact D_len _ _ | (simp; done)))) (by rfl) (by rfl) ?_)
      |refine Z65 ?_);exact Zq) ?_
    |refine Zqp (by intro _ _ _;(refine st_ldp (by rfl) (by repeat (first | apply Find.here | apply Find.there)) (by rfl) (by rfl) (by first | (refine PartAt.l ?_; (first | exact D_len _ _ | (simp; done))) | (refine PartAt.r ?_ ?_ <;> (first | exact D_len _ _ | (simp; done))) | (refine PartAt.all ?_; (first | exact D_len _ _ | (simp; done)))) (by rfl) ?_);exact Zq) ?_
    |refine Zqp (by intro _ _ _;refine st_callV (by rfl) (by rfl) (by rfl) (rred_spec ha) (fun _ _ => trivial) (by rfl) ?_;exact Zq) ?_
    |refine Zqp (by intro _ _ _;refine st_callV (by rfl) (by rfl) (by rfl) (rneg_spec hb) (fun _ _ => trivial) (by rfl) ?_;exact Zq) ?_
    |refine Zqp (by intro _ _ _;(first
      |refine Z24 ?_|refine Z25 ?_|refine Z26 ?_|refine Z27 ?_|refine Z28 ?_|refine Z67 ?_);exact Zq) ?_
    |refine Zqe (by intro _ _ _;(first
      |refine Z29 ?_|refine Z30 ?_|refine Z31 ?_|refine Z32 ?_);exact Zqq) ?_
    |refine Zqn ?_)
  refine Zq0 ?_ (by kernel_rfl)
  repeat (first
    |refine Z03 ?_|refine Z04 ?_|refine Z05 ?_|refine Z06 ?_|refine Z07 ?_|refine Z08 ?_|refine Z09 ?_|refine Z10 ?_|refine Z11 ?_|refine Z12 ?_|refine Z13 ?_
    |refine Z14 ?_|refine Z24 ?_|refine Z25 ?_|refine Z26 ?_|refine Z27 ?_|refine Z28 ?_|refine Z29 ?_|refine Z30 ?_|refine Z31 ?_|refine Z32 ?_|refine Z65 ?_
    |refine Z67 ?_|refine Z81 fun _ => ?_|refine Z82 fun _ => ?_)
  refine Zec fun _ hw => post_of hw SubW.nil ⟨?_, rfl⟩
  rfl
theorem tscale_spec {a b e : Nat} (ha : a < W ^ 6) (hb : b < W ^ 6) (he : e < W ^ 6) : Spec Try.prog 123 [LV .u64 (D 6 a ++ D 6 b), LV .u64 (D 6 e)] NoPre [] (IsV (LV .u64 (E2 (Kf.K2.scale (k2 a b) (kp e))))) := by
  refine mk_spec Try.func123 rfl rfl rfl fun w _ => ?_
  have hl0 := fun x => D_len 6 x
  repeat (first
    |(refine st_alloc (v := LV .u64 (List.replicate 12 0)) (by rfl) (by rfl) fun _ => ?_)|refine Z03 ?_|refine Z04 ?_|refine Z05 ?_|refine Z06 ?_|refine Z07 ?_
    |refine Z08 ?_|refine Z09 ?_|refine Z10 ?_|refine Z11 ?_|refine Z12 ?_|refine Z13 ?_|refine Z14 ?_|refine Z24 ?_|refine Z25 ?_|refine Z26 ?_|refine Z27 ?_
    |refine Z28 ?_|refine Z29 ?_|refine Z30 ?_|refine Z31 ?_|refine Z32 ?_|refine Z65 ?_|refine Z67 ?_|refine Z81 fun _ => ?_|refine Z82 fun _ => ?_)
  refine st_draw1 (by rfl) ?_
  repeat (first
    |refine Zqf (by intro _ _ _;(first
      
      |(refine st_fld (by rfl) (by first | exact (show _ = some (0, 6) from rfl) | exact (show _ = some (6, 6) from rfl) | exact (show _ = some (0, 12) from rfl) | exact (show _ = some (12, 12) from rfl) | exact (show _ = some (24, 1) from rfl)) (by rfl) (by rfl) ?_)
      |(refine st_build2 (by rfl) (by rfl) (by rfl) (by rfl) (by first | exact D_len _ _ | (simp; done)) (by first | exact D_len _ _ | (simp; done)) (by rfl) ?_)
      |(refine st_build2a (by rfl) (by rfl) (by rfl) (by rfl) (by first | exact D_len _ _ | (simp; done)) (by rfl) ?_)
      |(refine st_build2b (by rfl) (by rfl) (by rfl) (by rfl) (by first | exact D_len _ _ | (simp; done)) (by rfl) ?_)
      |(refine st_build20 (by rfl) (by rfl) (by rfl) (by rfl) ?_)
      |(refine st_eq2 (by rfl) (by rfl) (by rfl) (by kernel_rfl) (by rfl) (by rfl) (by rfl) (by rfl) (by rfl) (by rfl) (by rfl) (by rfl) (by rfl) (by rfl) (by kernel_rfl) (by first | exact D_len _ _ | (simp; done)) (by first | exact D_len _ _ | (simp; done)) (by first | exact D_len _ _ | (simp; done)) (by first | exact D_len _ _ | (simp; done)) (by rfl) ?_)
      |(refine st_ne2 (by rfl) (by rfl) (by rfl) (by kernel_rfl) (by rfl) (by rfl) (by rfl) (by rfl) (by rfl) (by rfl) (by rfl) (by rfl) (by rfl) (by rfl) (by kernel_rfl) (by first | exact D_len _ _ | (simp; done)) (by first | exact D_len _ _ | (simp; done)) (by first | exact D_len _ _ | (simp; done)) (by first | exact D_len _ _ | (simp; done)) (by rfl) ?_)
      |(refine st_fieldLV (by rfl) (by first | exact (show _ = some (0, 6) from rfl) | exact (show _ = some (6, 6) from rfl) | exact (show _ = some (0, 12) from rfl) | exact (show _ = some (12, 12) from rfl) | exact (show _ = some (24, 1) from rfl)) (by first | (refine PartAt.l ?_; (first | exact D_len _ _ | (simp; done))) | (refine PartAt.r ?_ ?_ <;> (first | exact D_len _ _ | (simp; done))) | (refine PartAt.all ?_; (first | exact D_len _ _ | (simp; done)))) (by rfl) (by rfl) ?_)
      |refine Z65 ?_);exact Zq) ?_
    |refine Zqp (by intro _ _ _;(refine st_ldp (by rfl) (by repeat (first | apply Find.here | apply Find.there)) (by rfl) (by rfl) (by first | (refine PartAt.l ?_; (first | exact D_len _ _ | (simp; done))) | (refine PartAt.r ?_ ?_ <;> (first | exact D_len _ _ | (simp; done))) | (refine PartAt.all ?_; (first | exact D_len _ _ | (simp; done)))) (by rfl) ?_);exact Zq) ?_
    |refine Zqp (by intro _ _ _;refine st_callV (by rfl) (by rfl) (by rfl) (rmul_spec ha he) (fun _ _ => trivial) (by rfl) ?_;exact Zq) ?_
    |refine Zqp (by intro _ _ _;refine st_callV (by rfl) (by rfl) (by rfl) (rmul_spec hb he) (fun _ _ => trivial) (by rfl) ?_;exact Zq) ?_
    |refine Zqp (by intro _ _ _;(first
      |refine Z24 ?_|refine Z25 ?_|refine Z26 ?_|refine Z27 ?_|refine Z28 ?_|refine Z67 ?_);exact Zq) ?_
    |refine Zqe (by intro _ _ _;(first
      |refine Z29 ?_|refine Z30 ?_|refine Z31 ?_|refine Z32 ?_);exact Zqq) ?_
    |refine Zqn ?_)
  refine Zq0 ?_ (by kernel_rfl)
  repeat (first
    |refine Z03 ?_|refine Z04 ?_|refine Z05 ?_|refine Z06 ?_|refine Z07 ?_|refine Z08 ?_|refine Z09 ?_|refine Z10 ?_|refine Z11 ?_|refine Z12 ?_|refine Z13 ?_
    |refine Z14 ?_|refine Z24 ?_|refine Z25 ?_|refine Z26 ?_|refine Z27 ?_|refine Z28 ?_|refine Z29 ?_|refine Z30 ?_|refine Z31 ?_|refine Z32 ?_|refine Z65 ?_
    |refine Z67 ?_|refine Z81 fun _ => ?_|refine Z82 fun _ => ?_)
  refine Zec fun _ hw => post_of hw SubW.nil ⟨?_, rfl⟩
  rfl
set_option maxHeartbeats 4000000 in
theorem tmul_spec {a b e f : Nat} (ha : a < W ^ 6) (hb : b < W ^ 6) (he : e < W ^ 6) (hf : f < W ^ 6) : Spec Try.prog 67 [LV .u64 (D 6 a ++ D 6 b), LV .u64 (D 6 e ++ D 6 f)] NoPre [] (IsV (LV .u64 (E2 (Kf.K2.mul (k2 a b) (k2 e f))))) := by
  refine mk_spec Try.func67 rfl rfl rfl fun w _ => ?_
  have hl0 := fun x => D_len 6 x
  repeat (first
    |(refine st_alloc (v := LV .u64 (List.replicate 12 0)) (by rfl) (by rfl) fun _ => ?_)|refine Z03 ?_|refine Z04 ?_|refine Z05 ?_|refine Z06 ?_|refine Z07 ?_
    |refine Z08 ?_|refine Z09 ?_|refine Z10 ?_|refine Z11 ?_|refine Z12 ?_|refine Z13 ?_|refine Z14 ?_|refine Z24 ?_|refine Z25 ?_|refine Z26 ?_|refine Z27 ?_
    |refine Z28 ?_|refine Z29 ?_|refine Z30 ?_|refine Z31 ?_|refine Z32 ?_|refine Z65 ?_|refine Z67 ?_|refine Z81 fun _ => ?_|refine Z82 fun _ => ?_)
  refine R.st_perm [0, 1, 2, 3, 4, 5, 6, 7, 8, 9, 10, 11, 12] (by rfl) ?_
  repeat (first
    |refine R.Zpf (by rfl)
      (by intro _ _ _;(first
      
      |(refine st_fld (by rfl) (by first | exact (show _ = some (0, 6) from rfl) | exact (show _ = some (6, 6) from rfl) | exact (show _ = some (0, 12) from rfl) | exact (show _ = some (12, 12) from rfl) | exact (show _ = some (24, 1) from rfl)) (by rfl) (by rfl) ?_)
      |(refine st_build2 (by rfl) (by rfl) (by rfl) (by rfl) (by first | exact D_len _ _ | (simp; done)) (by first | exact D_len _ _ | (simp; done)) (by rfl) ?_)
      |(refine st_build2a (by rfl) (by rfl) (by rfl) (by rfl) (by first | exact D_len _ _ | (simp; done)) (by rfl) ?_)
      |(refine st_build2b (by rfl) (by rfl) (by rfl) (by rfl) (by first | exact D_len _ _ | (simp; done)) (by rfl) ?_)
      |(refine st_build20 (by rfl) (by rfl) (by rfl) (by rfl) ?_)
      |(refine st_eq2 (by rfl) (by rfl) (by rfl) (by kernel_rfl) (by rfl) (by rfl) (by rfl) (by rfl) (by rfl) (by rfl) (by rfl) (by rfl) (by rfl) (by rfl) (by kernel_rfl) (by first | exact D_len _ _ | (simp; done)) (by first | exact D_len _ _ | (simp; done)) (by first | exact D_len _ _ | (simp; done)) (by first | exact D_len _ _ | (simp; done)) (by rfl) ?_)
      |(refine st_ne2 (by rfl) (by rfl) (by rfl) (by kernel_rfl) (by rfl) (by rfl) (by rfl) (by rfl) (by rfl) (by rfl) (by rfl) (by rfl) (by rfl) (by rfl) (by kernel_rfl) (by first | exact D_len _ _ | (simp; done)) (by first | exact D_len _ _ | (simp; done)) (by first | exact D_len _ _ | (simp; done)) (by first | exact D_len _ _ | (simp; done)) (by rfl) ?_)
      |(refine st_fieldLV (by rfl) (by first | exact (show _ = some (0, 6) from rfl) | exact (show _ = some (6, 6) from rfl) | exact (show _ = some (0, 12) from rfl) | exact (show _ = some (12, 12) from rfl) | exact (show _ = some (24, 1) from rfl)) (by first | (refine PartAt.l ?_; (first | exact D_len _ _ | (simp; done))) | (refine PartAt.r ?_ ?_ <;> (first | exact D_len _ _ | (simp; done))) | (refine PartAt.all ?_; (first | exact D_len _ _ | (simp; done)))) (by rfl) (by rfl) ?_)
      |refine Z65 ?_);exact Zq) ?_
    |refine R.Zpp (by rfl)
      (by intro _ _ _;(first
      |refine Z24 ?_|refine Z25 ?_|refine Z26 ?_|refine Z27 ?_|refine Z28 ?_|refine Z67 ?_);exact Zq) ?_
    |refine R.Zpp (by rfl)
      (by intro _ _ _;(refine st_ldp (by rfl) (by repeat (first | apply Find.here | apply Find.there)) (by rfl) (by rfl) (by first | (refine PartAt.l ?_; (first | exact D_len _ _ | (simp; done))) | (refine PartAt.r ?_ ?_ <;> (first | exact D_len _ _ | (simp; done))) | (refine PartAt.all ?_; (first | exact D_len _ _ | (simp; done)))) (by rfl) ?_);exact Zq) ?_
    |refine R.Zpp (by rfl)
      (by intro _ _ _;refine st_callV (by rfl) (by rfl) (by rfl) (rmul_spec ha he) (fun _ _ => trivial) (by rfl) ?_;exact Zq) ?_
    |refine R.Zpp (by rfl)
      (by intro _ _ _;refine st_callV (by rfl) (by rfl) (by rfl) (rmul_spec hb hf) (fun _ _ => trivial) (by rfl) ?_;exact Zq) ?_
    |refine R.Zpp (by rfl)
      (by intro _ _ _;refine st_callV (by rfl) (by rfl) (by rfl) (rsubF (kp a * kp e) (kp b * kp f)) (fun _ _ => trivial) (by rfl) ?_;exact Zq) ?_
    |refine R.Zps (by rfl)
      (by intro _ _ _;(first
      |refine Z29 ?_|refine Z30 ?_|refine Z31 ?_|refine Z32 ?_);exact Zqq) ?_
    |refine R.Zpb (by rfl)
      (by intro _ _ _;refine st_alloc (v := LV .u64 (List.replicate 6 0)) (by rfl) (by rfl) fun _ => ?_;exact R.Zpbx) fun _ => ?_
    |refine R.Zpn (by rfl)
      (by intro _ _ _;(first
      |refine Z81 fun _ => ?_|refine Z82 fun _ => ?_);exact R.Zpx) fun _ => ?_
    |refine R.Zpo (by rfl) ?_)
  refine R.Zp0 ?_
  repeat (first
    |refine Z03 ?_|refine Z04 ?_|refine Z05 ?_|refine Z06 ?_|refine Z07 ?_|refine Z08 ?_|refine Z09 ?_|refine Z10 ?_|refine Z11 ?_|refine Z12 ?_|refine Z13 ?_
    |refine Z14 ?_|refine Z24 ?_|refine Z25 ?_|refine Z26 ?_|refine Z27 ?_|refine Z28 ?_|refine Z29 ?_|refine Z30 ?_|refine Z31 ?_|refine Z32 ?_|refine Z65 ?_
    |refine Z67 ?_|refine Z81 fun _ => ?_|refine Z82 fun _ => ?_)
  refine R.st_perm [0, 1, 2, 3, 4, 5, 6, 7, 8, 9, 10, 11, 12] (by rfl) ?_
  repeat (first
    |refine R.Zpf (by rfl)
      (by intro _ _ _;(first
      
      |(refine st_fld (by rfl) (by first | exact (show _ = some (0, 6) from rfl) | exact (show _ = some (6, 6) from rfl) | exact (show _ = some (0, 12) from rfl) | exact (show _ = some (12, 12) from rfl) | exact (show _ = some (24, 1) from rfl)) (by rfl) (by rfl) ?_)
      |(refine st_build2 (by rfl) (by rfl) (by rfl) (by rfl) (by first | exact D_len _ _ | (simp; done)) (by first | exact D_len _ _ | (simp; done)) (by rfl) ?_)
      |(refine st_build2a (by rfl) (by rfl) (by rfl) (by rfl) (by first | exact D_len _ _ | (simp; done)) (by rfl) ?_)
      |(refine st_build2b (by rfl) (by rfl) (by rfl) (by rfl) (by first | exact D_len _ _ | (simp; done)) (by rfl) ?_)
      |(refine st_build20 (by rfl) (by rfl) (by rfl) (by rfl) ?_)
      |(refine st_eq2 (by rfl) (by rfl) (by rfl) (by kernel_rfl) (by rfl) (by rfl) (by rfl) (by rfl) (by rfl) (by rfl) (by rfl) (by rfl) (by rfl) (by rfl) (by kernel_rfl) (by first | exact D_len _ _ | (simp; done)) (by first | exact D_len _ _ | (simp; done)) (by first | exact D_len _ _ | (simp; done)) (by first | exact D_len _ _ | (simp; done)) (by rfl) ?_)
      |(refine st_ne2 (by rfl) (by rfl) (by rfl) (by kernel_rfl) (by rfl) (by rfl) (by rfl) (by rfl) (by rfl) (by rfl) (by rfl) (by rfl) (by rfl) (by rfl) (by kernel_rfl) (by first | exact D_len _ _ | (simp; done)) (by first | exact D_len _ _ | (simp; done)) (by first | exact D_len _ _ | (simp; done)) (by first | exact D_len _ _ | (simp; done)) (by rfl) ?_)
      |(refine st_fieldLV (by rfl) (by first | exact (show _ = some (0, 6) from rfl) | exact (show _ = some (6, 6) from rfl) | exact (show _ = some (0, 12) from rfl) | exact (show _ = some (12, 12) from rfl) | exact (show _ = some (24, 1) from rfl)) (by first | (refine PartAt.l ?_; (first | exact D_len _ _ | (simp; done))) | (refine PartAt.r ?_ ?_ <;> (first | exact D_len _ _ | (simp; done))) | (refine PartAt.all ?_; (first | exact D_len _ _ | (simp; done)))) (by rfl) (by rfl) ?_)
      |refine Z65 ?_);exact Zq) ?_
    |refine R.Zpp (by rfl)
      (by intro _ _ _;(first
      |refine Z24 ?_|refine Z25 ?_|refine Z26 ?_|refine Z27 ?_|refine Z28 ?_|refine Z67 ?_);exact Zq) ?_
    |refine R.Zpp (by rfl)
      (by intro _ _ _;(refine st_ldp (by rfl) (by repeat (first | apply Find.here | apply Find.there)) (by rfl) (by rfl) (by first | (refine PartAt.l ?_; (first | exact D_len _ _ | (simp; done))) | (refine PartAt.r ?_ ?_ <;> (first | exact D_len _ _ | (simp; done))) | (refine PartAt.all ?_; (first | exact D_len _ _ | (simp; done)))) (by rfl) ?_);exact Zq) ?_
    |refine R.Zpp (by rfl)
      (by intro _ _ _;refine st_callV (by rfl) (by rfl) (by rfl) (rmul_spec ha hf) (fun _ _ => trivial) (by rfl) ?_;exact Zq) ?_
    |refine R.Zpp (by rfl)
      (by intro _ _ _;refine st_callV (by rfl) (by rfl) (by rfl) (rmul_spec hb he) (fun _ _ => trivial) (by rfl) ?_;exact Zq) ?_
    |refine R.Zpp (by rfl)
      (by intro _ _ _;refine st_callV (by rfl) (by rfl) (by rfl) (raddF (kp a * kp f) (kp b * kp e)) (fun _ _ => trivial) (by rfl) ?_;exact Zq) ?_
    |refine R.Zps (by rfl)
      (by intro _ _ _;(first
      |refine Z29 ?_|refine Z30 ?_|refine Z31 ?_|refine Z32 ?_);exact Zqq) ?_
    |refine R.Zpb (by rfl)
      (by intro _ _ _;refine st_alloc (v := LV .u64 (List.replicate 6 0)) (by rfl) (by rfl) fun _ => ?_;exact R.Zpbx) fun _ => ?_
    |refine R.Zpn (by rfl)
      (by intro _ _ _;(first
      |refine Z81 fun _ => ?_|refine Z82 fun _ => ?_);exact R.Zpx) fun _ => ?_
    |refine R.Zpo (by rfl) ?_)
  refine R.Zp0 ?_
  repeat (first
    |(refine st_alloc (v := LV .u64 (List.replicate 12 0)) (by rfl) (by rfl) fun _ => ?_)
    |((refine st_build2 (by rfl) (by rfl) (by rfl) (by rfl) (by first | exact D_len _ _ | (simp; done)) (by first | exact D_len _ _ | (simp; done)) (by rfl) ?_; skip))
    |(refine st_fld (by rfl) (by first | exact (show _ = some (0, 6) from rfl) | exact (show _ = some (6, 6) from rfl) | exact (show _ = some (0, 12) from rfl) | exact (show _ = some (12, 12) from rfl) | exact (show _ = some (24, 1) from rfl)) (by rfl) (by rfl) ?_)
    |((refine st_ldp (by rfl) (by repeat (first | apply Find.here | apply Find.there)) (by rfl) (by rfl) (by first | (refine PartAt.l ?_; (first | exact D_len _ _ | (simp; done))) | (refine PartAt.r ?_ ?_ <;> (first | exact D_len _ _ | (simp; done))) | (refine PartAt.all ?_; (first | exact D_len _ _ | (simp; done)))) (by rfl) ?_))
    |(refine st_build2 (by rfl) (by rfl) (by rfl) (by rfl) (by first | exact D_len _ _ | (simp; done)) (by first | exact D_len _ _ | (simp; done)) (by rfl) ?_)
    |(refine st_build2a (by rfl) (by rfl) (by rfl) (by rfl) (by first | exact D_len _ _ | (simp; done)) (by rfl) ?_)
    |(refine st_build2b (by rfl) (by rfl) (by rfl) (by rfl) (by first | exact D_len _ _ | (simp; done)) (by rfl) ?_)
    |(refine st_build20 (by rfl) (by rfl) (by rfl) (by rfl) ?_)
    |(refine st_eq2 (by rfl) (by rfl) (by rfl) (by kernel_rfl) (by rfl) (by rfl) (by rfl) (by rfl) (by rfl) (by rfl) (by rfl) (by rfl) (by rfl) (by rfl) (by kernel_rfl) (by first | exact D_len _ _ | (simp; done)) (by first | exact D_len _ _ | (simp; done)) (by first | exact D_len _ _ | (simp; done)) (by first | exact D_len _ _ | (simp; done)) (by rfl) ?_)
    |(refine st_ne2 (by rfl) (by rfl) (by rfl) (by kernel_rfl) (by rfl) (by rfl) (by rfl) (by rfl) (by rfl) (by rfl) (by rfl) (by rfl) (by rfl) (by rfl) (by kernel_rfl) (by first | exact D_len _ _ | (simp; done)) (by first | exact D_len _ _ | (simp; done)) (by first | exact D_len _ _ | (simp; done)) (by first | exact D_len _ _ | (simp; done)) (by rfl) ?_)
    |(refine st_fieldLV (by rfl) (by first | exact (show _ = some (0, 6) from rfl) | exact (show _ = some (6, 6) from rfl) | exact (show _ = some (0, 12) from rfl) | exact (show _ = some (12, 12) from rfl) | exact (show _ = some (24, 1) from rfl)) (by first | (refine PartAt.l ?_; (first | exact D_len _ _ | (simp; done))) | (refine PartAt.r ?_ ?_ <;> (first | exact D_len _ _ | (simp; done))) | (refine PartAt.all ?_; (first | exact D_len _ _ | (simp; done)))) (by rfl) (by rfl) ?_)
    |refine Z03 ?_|refine Z04 ?_|refine Z05 ?_|refine Z06 ?_|refine Z07 ?_|refine Z08 ?_|refine Z09 ?_|refine Z10 ?_|refine Z11 ?_|refine Z12 ?_|refine Z13 ?_
    |refine Z14 ?_|refine Z24 ?_|refine Z25 ?_|refine Z26 ?_|refine Z27 ?_|refine Z28 ?_|refine Z29 ?_|refine Z30 ?_|refine Z31 ?_|refine Z32 ?_|refine Z65 ?_
    |refine Z67 ?_|refine Z81 fun _ => ?_|refine Z82 fun _ => ?_)
  refine Zec fun _ hw => post_of hw SubW.nil ⟨?_, rfl⟩
  rfl
theorem tmulE (x y : F2) : Spec Try.prog 67 [LV .u64 (E2 x), LV .u64 (E2 y)] NoPre [] (IsV (LV .u64 (E2 (Kf.K2.mul x y)))) := by
  have := tmul_spec (val_lt x.re) (val_lt x.im) (val_lt y.re) (val_lt y.im); rwa [k2_val, k2_val] at this
theorem taddE (x y : F2) : Spec Try.prog 106 [LV .u64 (E2 x), LV .u64 (E2 y)] NoPre [] (IsV (LV .u64 (E2 (Kf.K2.add x y)))) := by
  have := tadd_spec (val_lt x.re) (val_lt x.im) (val_lt y.re) (val_lt y.im); rwa [k2_val, k2_val] at this
theorem tnegE (x : F2) : Spec Try.prog 69 [LV .u64 (E2 x)] NoPre [] (IsV (LV .u64 (E2 (Kf.K2.neg x)))) := by
  have := tneg_spec (val_lt x.re) (val_lt x.im); rwa [k2_val] at this
theorem tredE (x : F2) : Spec Try.prog 68 [LV .u64 (E2 x)] NoPre [] (IsV (LV .u64 (E2 x))) := by
  have := tred_spec (val_lt x.re) (val_lt x.im); rwa [k2_val] at this
theorem tscaleE (x : F2) (k : Fq) : Spec Try.prog 123 [LV .u64 (E2 x), LV .u64 (D 6 k.val)] NoPre [] (IsV (LV .u64 (E2 (Kf.K2.scale x k)))) := by
  have := tscale_spec (val_lt x.re) (val_lt x.im) (val_lt k); rwa [k2_val, kp_val] at this
theorem tconjE (x : F2) : Spec Try.prog 122 [LV .u64 (E2 x)] NoPre [] (IsV (LV .u64 (E2 (Kf.K2.conj x)))) := by
  have := tconj_spec (val_lt x.re) (val_lt x.im); rwa [k2_val] at this
theorem norm_mul_conj (x : F2) : (Kf.K2.mul x (Kf.K2.conj x)).re = Kf.K2.norm x := by simp only [Kf.K2.mul, Kf.K2.conj, Kf.K2.norm]; grind
set_option maxHeartbeats 4000000 in
theorem tinvE (x : F2) : Spec Try.prog 86 [LV .u64 (E2 x)] NoPre [] (IsV (LV .u64 (E2 (Kf.K2.inv x)))) := by
  refine mk_spec Try.func86 rfl rfl rfl fun w _ => ?_
  have hl0 := fun x => D_len 6 x
  have hn := norm_mul_conj x
  obtain ⟨m, hm⟩ : ∃ m, m = Kf.K2.mul x (Kf.K2.conj x) := ⟨_, rfl⟩
  rw [← hm] at hn
  repeat (first
    |(refine st_alloc (v := LV .u64 (List.replicate 12 0)) (by rfl) (by rfl) fun _ => ?_)
    |(refine st_fld (by rfl) (by first | exact (show _ = some (0, 6) from rfl) | exact (show _ = some (6, 6) from rfl) | exact (show _ = some (0, 12) from rfl) | exact (show _ = some (12, 12) from rfl) | exact (show _ = some (24, 1) from rfl)) (by rfl) (by rfl) ?_)
    |((refine st_ldp (by rfl) (by repeat (first | apply Find.here | apply Find.there)) (by rfl) (by rfl) (by first | (refine PartAt.l ?_; (first | exact D_len _ _ | (simp; done))) | (refine PartAt.r ?_ ?_ <;> (first | exact D_len _ _ | (simp; done))) | (refine PartAt.all ?_; (first | exact D_len _ _ | (simp; done)))) (by rfl) ?_))
    |(refine st_build2 (by rfl) (by rfl) (by rfl) (by rfl) (by first | exact D_len _ _ | (simp; done)) (by first | exact D_len _ _ | (simp; done)) (by rfl) ?_)
    |(refine st_build2a (by rfl) (by rfl) (by rfl) (by rfl) (by first | exact D_len _ _ | (simp; done)) (by rfl) ?_)
    |(refine st_build2b (by rfl) (by rfl) (by rfl) (by rfl) (by first | exact D_len _ _ | (simp; done)) (by rfl) ?_)
    |(refine st_build20 (by rfl) (by rfl) (by rfl) (by rfl) ?_)
    |(refine st_eq2 (by rfl) (by rfl) (by rfl) (by kernel_rfl) (by rfl) (by rfl) (by rfl) (by rfl) (by rfl) (by rfl) (by rfl) (by rfl) (by rfl) (by rfl) (by kernel_rfl) (by first | exact D_len _ _ | (simp; done)) (by first | exact D_len _ _ | (simp; done)) (by first | exact D_len _ _ | (simp; done)) (by first | exact D_len _ _ | (simp; done)) (by rfl) ?_)
    |(refine st_ne2 (by rfl) (by rfl) (by rfl) (by kernel_rfl) (by rfl) (by rfl) (by rfl) (by rfl) (by rfl) (by rfl) (by rfl) (by rfl) (by rfl) (by rfl) (by kernel_rfl) (by first | exact D_len _ _ | (simp; done)) (by first | exact D_len _ _ | (simp; done)) (by first | exact D_len _ _ | (simp; done)) (by first | exact D_len _ _ | (simp; done)) (by rfl) ?_)
    |(refine st_fieldLV (by rfl) (by first | exact (show _ = some (0, 6) from rfl) | exact (show _ = some (6, 6) from rfl) | exact (show _ = some (0, 12) from rfl) | exact (show _ = some (12, 12) from rfl) | exact (show _ = some (24, 1) from rfl)) (by first | (refine PartAt.l ?_; (first | exact D_len _ _ | (simp; done))) | (refine PartAt.r ?_ ?_ <;> (first | exact D_len _ _ | (simp; done))) | (refine PartAt.all ?_; (first | exact D_len _ _ | (simp; done)))) (by rfl) (by rfl) ?_)
    |(refine st_callV (by rfl) (by rfl) (by rfl) (tconjE x) (fun _ _ => trivial) (by rfl) ?_)
    |((refine st_callV (by rfl) (by rfl) (by rfl) (tmulE x (Kf.K2.conj x)) (fun _ _ => trivial) (by rfl) ?_; rw [← hm]))|refine Z03 ?_|refine Z04 ?_|refine Z05 ?_
    |refine Z06 ?_|refine Z07 ?_|refine Z08 ?_|refine Z09 ?_|refine Z10 ?_|refine Z11 ?_|refine Z12 ?_|refine Z13 ?_|refine Z14 ?_|refine Z24 ?_|refine Z25 ?_
    |refine Z26 ?_|refine Z27 ?_|refine Z28 ?_|refine Z29 ?_|refine Z30 ?_|refine Z31 ?_|refine Z32 ?_|refine Z67 ?_|refine Z81 fun _ => ?_|refine Z82 fun _ => ?_)
  refine st_draw1 (by rfl) ?_
  repeat (first
    |refine Zqf (by intro _ _ _;(first
      
      |(refine st_fld (by rfl) (by first | exact (show _ = some (0, 6) from rfl) | exact (show _ = some (6, 6) from rfl) | exact (show _ = some (0, 12) from rfl) | exact (show _ = some (12, 12) from rfl) | exact (show _ = some (24, 1) from rfl)) (by rfl) (by rfl) ?_)
      |(refine st_build2 (by rfl) (by rfl) (by rfl) (by rfl) (by first | exact D_len _ _ | (simp; done)) (by first | exact D_len _ _ | (simp; done)) (by rfl) ?_)
      |(refine st_build2a (by rfl) (by rfl) (by rfl) (by rfl) (by first | exact D_len _ _ | (simp; done)) (by rfl) ?_)
      |(refine st_build2b (by rfl) (by rfl) (by rfl) (by rfl) (by first | exact D_len _ _ | (simp; done)) (by rfl) ?_)
      |(refine st_build20 (by rfl) (by rfl) (by rfl) (by rfl) ?_)
      |(refine st_eq2 (by rfl) (by rfl) (by rfl) (by kernel_rfl) (by rfl) (by rfl) (by rfl) (by rfl) (by rfl) (by rfl) (by rfl) (by rfl) (by rfl) (by rfl) (by kernel_rfl) (by first | exact D_len _ _ | (simp; done)) (by first | exact D_len _ _ | (simp; done)) (by first | exact D_len _ _ | (simp; done)) (by first | exact D_len _ _ | (simp; done)) (by rfl) ?_)
      |(refine st_ne2 (by rfl) (by rfl) (by rfl) (by kernel_rfl) (by rfl) (by rfl) (by rfl) (by rfl) (by rfl) (by rfl) (by rfl) (by rfl) (by rfl) (by rfl) (by kernel_rfl) (by first | exact D_len _ _ | (simp; done)) (by first | exact D_len _ _ | (simp; done)) (by first | exact D_len _ _ | (simp; done)) (by first | exact D_len _ _ | (simp; done)) (by rfl) ?_)
      |(refine st_fieldLV (by rfl) (by first | exact (show _ = some (0, 6) from rfl) | exact (show _ = some (6, 6) from rfl) | exact (show _ = some (0, 12) from rfl) | exact (show _ = some (12, 12) from rfl) | exact (show _ = some (24, 1) from rfl)) (by first | (refine PartAt.l ?_; (first | exact D_len _ _ | (simp; done))) | (refine PartAt.r ?_ ?_ <;> (first | exact D_len _ _ | (simp; done))) | (refine PartAt.all ?_; (first | exact D_len _ _ | (simp; done)))) (by rfl) (by rfl) ?_));exact Zq) ?_
    |refine Zqp (by intro _ _ _;(refine st_ldp (by rfl) (by repeat (first | apply Find.here | apply Find.there)) (by rfl) (by rfl) (by first | (refine PartAt.l ?_; (first | exact D_len _ _ | (simp; done))) | (refine PartAt.r ?_ ?_ <;> (first | exact D_len _ _ | (simp; done))) | (refine PartAt.all ?_; (first | exact D_len _ _ | (simp; done)))) (by rfl) ?_);exact Zq) ?_
    |refine Zqp (by intro _ _ _;refine st_callV (by rfl) (by rfl) (by rfl) (rinvF m.re) (fun _ _ => trivial) (by rfl) ?_;exact Zq) ?_
    |refine Zqp (by intro _ _ _;refine st_callV (by rfl) (by rfl) (by rfl) (tscaleE (Kf.K2.conj x) (Kf.inv m.re)) (fun _ _ => trivial) (by rfl) ?_;exact Zq) ?_
    |refine Zqp (by intro _ _ _;(first
      |refine Z24 ?_|refine Z25 ?_|refine Z26 ?_|refine Z27 ?_|refine Z28 ?_|refine Z67 ?_);exact Zq) ?_
    |refine Zqe (by intro _ _ _;(first
      |refine Z29 ?_|refine Z30 ?_|refine Z31 ?_|refine Z32 ?_);exact Zqq) ?_
    |refine Zqn ?_)
  refine Zq0 ?_ (by kernel_rfl)
  rw [hn]
  repeat (first
    |refine Z03 ?_|refine Z04 ?_|refine Z05 ?_|refine Z06 ?_|refine Z07 ?_|refine Z08 ?_|refine Z09 ?_|refine Z10 ?_|refine Z11 ?_|refine Z12 ?_|refine Z13 ?_
    |refine Z14 ?_|refine Z24 ?_|refine Z25 ?_|refine Z26 ?_|refine Z27 ?_|refine Z28 ?_|refine Z29 ?_|refine Z30 ?_|refine Z31 ?_|refine Z32 ?_|refine Z67 ?_
    |refine Z81 fun _ => ?_|refine Z82 fun _ => ?_)
  refine Zec fun _ hw => post_of hw SubW.nil ⟨?_, rfl⟩
  rfl
end Go.Proofs.Ytfhempgkdnecnaa.L
