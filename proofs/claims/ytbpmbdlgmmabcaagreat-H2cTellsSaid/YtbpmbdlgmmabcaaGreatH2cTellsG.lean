/- What the proof of the statement about H2cTells stands on, part G. Conditions: as each statement says. -/
import Derived.Test.YtbpmbdlgmmabcaaGreatH2cTellsF
import Derived.ProofKit
import Derived.Test.YtbpmbdlgmmabcaaGreatProg
import Derived.WalkKit
namespace Go.Proofs.YtbpmbdlgmmabcaaGreat.L
open Go Go.Proofs
set_option maxRecDepth 100000
attribute [local irreducible] Code.wp wpList Af bodyPost L.Go PartAt
open Num
attribute [local simp] D_len
section
variable {P : Program} {c : Cx} {n : Nat} {l : Sl} {W : List Res} {ops : Array Oper} {Q : Exit → Act → World → Prop} {rest : List Oper}
variable {d : Nat} {T : TypeId} {pos : String} {after : Array Edge}
theorem st_ldnG {x : Operand} {b off v : Nat} {ys : List Nat} {i : Bool} {E U : TypeId} {R : List Res} (hx : ev l x = some (pt b off)) (hf : Find W (.blk b (GL ys i) U) R) (hs : scal P E = true) (hv : ys[off]? = some v) (hn : Nat.blt d n = true)
  (hk : Go c n ((d, N .u64 v) :: l) W (wpList P ops Q rest)) : Go c n l W (wpList P ops Q (⟨some d, .load E x, T, pos, after, none⟩ :: rest)) :=
 st_val rfl rfl hn (fun a w ha hw => by
  have hh : w.heap[b]? = some (.cells (GL ys i).cells U (0, 0)) := hw.holds _ hf.mem
  rw [GL_cells] at hh
  have hlt : off < ys.length := (List.getElem?_eq_some_iff.1 hv).1
  have hc : w.cell? ⟨b, off, none⟩ = some (N .u64 v) := by
   rw [cell_of_row w b off _ U _ hh]
   rw [List.getElem?_toArray, List.getElem?_append_left (by simpa using hlt), List.getElem?_map, hv]; rfl
  simp [execOp, ha.ev hx, Instr.loadAt, Instr.sureAddr, run_loadVar_s hs hc]) hk
end
def hu (m d : List Nat) (i : Nat) : F2 := k2 (bval (((xpand m d (128 * 2)).drop (128 * i)).take 64)) (bval ((((xpand m d (128 * 2)).drop (128 * i)).take 128).drop 64))
theorem fel_hu (m d : List Nat) (i : Nat) : fel ((xpand m d (128 * 2)).drop (128 * i)) = E2 (hu m d i) := fel_def _
theorem sendE (x y : F2) : Spec Tryz.prog 9 [LV .u64 (E2 x), LV .u64 (E2 y)] NoPre [] (IsV (GV (send x y))) := by
 have := send_spec (val_lt x.re) (val_lt x.im) (val_lt y.re) (val_lt y.im); rwa [k2_val, k2_val] at this
theorem y_172 {a b : Prop} (k : b) (h : Rm b → a := by intro k;refine R.Zpf (by rfl) (by intro _ _ _;(first|refine Z01 ?_|refine Z02 ?_|refine Z17 ?_|refine Z18 ?_|refine Z19 ?_|refine Z22 ?_|refine Z23 ?_|refine Z65 ?_);exact Zq) ?_;exact k.h) : a := h ⟨k⟩
theorem y_173 {a b : Prop} (k : b) (h : Rm b → a := by intro k;(first|refine Z01 ?_|refine Z02 ?_|refine Z03 ?_|refine Z04 ?_|refine Z05 ?_|refine Z06 ?_|refine Z07 ?_|refine Z08 ?_|refine Z09 ?_|refine Z10 ?_|refine Z11 ?_|refine Z12 ?_|refine Z13 ?_|refine Z14 ?_|refine Z17 ?_|refine Z18 ?_|refine Z19 ?_|refine Z22 ?_|refine Z23 ?_|refine Z24 ?_|refine Z25 ?_|refine Z26 ?_|refine Z27 ?_|refine Z28 ?_|refine Z29 ?_|refine Z30 ?_|refine Z31 ?_|refine Z32 ?_|refine Z65 ?_|refine Z67 ?_);exact k.h) : a := h ⟨k⟩
theorem y_242 {a b : Prop} (k : b) (h : Rm b → a := by intro k;(first|refine y_25 ?_|refine Z01 ?_|refine Z02 ?_|refine Z03 ?_|refine Z04 ?_|refine Z05 ?_|refine Z06 ?_|refine Z07 ?_|refine Z08 ?_|refine Z09 ?_|refine Z10 ?_|refine Z11 ?_|refine Z12 ?_|refine Z13 ?_|refine Z14 ?_|refine Z17 ?_|refine Z18 ?_|refine Z19 ?_|refine Z22 ?_|refine Z23 ?_|refine Z24 ?_|refine Z25 ?_|refine Z26 ?_|refine Z27 ?_|refine Z28 ?_|refine Z29 ?_|refine Z30 ?_|refine Z31 ?_|refine Z32 ?_|refine Z65 ?_|refine Z67 ?_);exact k.h) : a := h ⟨k⟩
set_option maxHeartbeats 8000000 in
theorem hash_ok (s1 s2 : Value) (m d : List Nat) (hm : Lt 256 m) (hd : Lt 256 d) (hl1 : m.length < 1073741824) (h1 : 1 ≤ d.length) (h2 : d.length ≤ 255) :
  Spec Tryz.prog 7 [s1, s2] (fun w => Rd w s1 (m.map (N .u8)) ∧ Rd w s2 (d.map (N .u8))) [] (IsV (.tuple [GV (send (hu m d 0) (hu m d 1)), N .i64 0].toArray)) := by
 refine mk_spec Tryz.func7 rfl rfl rfl fun w hr => ?_
 have hr1 := RdC.mk0 hr.1
 have hr2 := RdC.mk0 hr.2
 have hl0 := fun x => D_len 6 x
 have hle := fun x : F2 => E2_len x
 have hs := sendE (hu m d 0) (hu m d 1)
 have hfl : (((fels (xpand m d (128 * 2)) 2).flatten).map (N .u64)).length = 2 * 12 := by rw [List.length_map, fels_flat, fels_len]
 have g0 := fels_get (xpand m d (128 * 2)) (k := 2) (i := 0) (by decide)
 have g1 := fels_get (xpand m d (128 * 2)) (k := 2) (i := 1) (by decide)
 rw [fel_hu] at g0 g1
 have hE := fels_each (xpand m d (128 * 2)) 2
 obtain ⟨x1, y1, i1, hq⟩ : ∃ x1 y1 i1, GV (send (hu m d 0) (hu m d 1)) = GE x1 y1 i1 := ⟨_, _, _, rfl⟩
 rw [hq] at hs ⊢
 generalize hu m d 0 = u at *
 generalize hu m d 1 = v at *
 repeat (first|(refine y_125 ?_;intro _)|(refine st_call (by rfl) (by rfl) (by rfl) (fields_ok s1 s2 m d 2 hm hd hl1 h1 h2 (by decide) (by decide)) .nil (fun w hw => ⟨RdW.old hr1 w hw, RdW.old hr2 w hw⟩) (by rfl) ?_; rintro _ _ ⟨x, rfl, rfl⟩)|refine y_242 ?_|refine Z82 fun _ => ?_)
 generalize fels (xpand m d (128 * 2)) 2 = L at *
 refine R.st_perm [0, 1, 2, 3, 4, 5, 6, 7, 8] (by rfl) ?_
 repeat (first|refine y_172 ?_|(refine R.Zpp (by rfl) (by intro _ _ _;(first|refine y_13 ?_);exact Zq) ?_)|(refine R.Zpp (by rfl) (by intro _ _ _;(refine st_ia_M (m := 12) (s := x) (i := 0) (k := 2) (kk := .i64) (by rfl) (by rfl) (by rfl) (by rfl) (RdW.own (by repeat first|apply Find.here|apply Find.there)) (by decide) hfl (by decide) (by rfl) ?_);exact Zq) ?_)|(refine R.Zpp (by rfl) (by intro _ _ _;(refine st_ia_M (m := 12) (s := x) (i := 1) (k := 2) (kk := .i64) (by rfl) (by rfl) (by rfl) (by rfl) (RdW.own (by repeat first|apply Find.here|apply Find.there)) (by decide) hfl (by decide) (by rfl) ?_);exact Zq) ?_)|(refine R.Zpp (by rfl) (by intro _ _ _;(refine st_load_M (m := 12) (s := wide 12 x) (i := 0) (by rfl) (by rfl) (by rfl) (RdW.own (by repeat first|apply Find.here|apply Find.there)) hE g0 (by decide) (by rfl) ?_);exact Zq) ?_)|(refine R.Zpp (by rfl) (by intro _ _ _;(refine st_load_M (m := 12) (s := wide 12 x) (i := 1) (by rfl) (by rfl) (by rfl) (RdW.own (by repeat first|apply Find.here|apply Find.there)) hE g1 (by decide) (by rfl) ?_);exact Zq) ?_)|refine y_69 hs ?_|refine y_263 ?_|(refine R.Zpn (by rfl) (by intro _ _ _;(first|refine Z82 fun _ => ?_);exact R.Zpx) fun _ => ?_)|refine R.Zpo (by rfl) ?_)
 refine R.Zp0 ?_
 repeat (first|refine y_173 ?_|refine Z82 fun _ => ?_)
 refine st_endc2_GL (m := 24) (by rfl) (by rfl) (by rfl) (by repeat first|apply Find.here|apply Find.there) (by rfl) (by rfl) (by first|with_reducible assumption|simp) fun _ hw => post_of hw SubW.nil ⟨?_, rfl⟩
 rfl
theorem y_243 {a b : Prop} (k : b) (h : Rm b → a := by intro k;(first|(refine st_build0G (t := 31) (m := 24) (by rfl) (by rfl) (by kernel_rfl) (by rfl) ?_; rw [zero24])|refine y_129 ?_|refine y_30 ?_|refine Z01 ?_|refine Z02 ?_|refine Z03 ?_|refine Z04 ?_|refine Z05 ?_|refine Z06 ?_|refine Z07 ?_|refine Z08 ?_|refine Z09 ?_|refine Z10 ?_|refine Z11 ?_|refine Z12 ?_|refine Z13 ?_|refine Z14 ?_|refine Z17 ?_|refine Z18 ?_|refine Z19 ?_|refine Z22 ?_|refine Z23 ?_|refine Z24 ?_|refine Z25 ?_|refine Z26 ?_|refine Z27 ?_|refine Z28 ?_|refine Z29 ?_|refine Z30 ?_|refine Z31 ?_|refine Z32 ?_|refine Z65 ?_|refine Z67 ?_);exact k.h) : a := h ⟨k⟩
theorem hash_bad (s1 s2 : Value) (d : List Nat) (h : d.length < 1 ∨ 255 < d.length) :
  Spec Tryz.prog 7 [s1, s2] (fun w => Rd w s2 (d.map (N .u8))) [] (IsV (.tuple [GE Kf.K2.zero Kf.K2.zero false, N .i64 170].toArray)) := by
 refine mk_spec Tryz.func7 rfl rfl rfl fun w hr => ?_
 have hr2 := RdC.mk0 hr
 have hf := fields_bad s1 s2 d 2 256 170 (by decide) (xexpand_dst s1 s2 d 256 h)
 repeat (first|(refine y_125 ?_;intro _)|refine st_callV (by rfl) (by rfl) (by rfl) (hf) (RdW.old hr2) (by rfl) ?_|refine y_243 ?_|refine Z82 fun _ => ?_)
 refine st_endc2_GL (m := 24) (by rfl) (by rfl) (by rfl) (by repeat first|apply Find.here|apply Find.there) (by rfl) (by rfl) (by first|with_reducible assumption|simp) fun _ hw => post_of hw SubW.nil ⟨?_, rfl⟩
 rfl
theorem hu0_eq : hu [] kT 0 = aU0 := by unfold hu; rw [xQ_eq]; decide +kernel
theorem hu1_eq : hu [] kT 1 = aU1 := by unfold hu; rw [xQ_eq]; decide +kernel
theorem aw_w0 : (E2 aRX ++ E2 aRY)[0]? = some 6022433060188829578 := by decide +kernel
theorem aw_w5 : (E2 aRX ++ E2 aRY)[5]? = some 90612934495178424 := by decide +kernel
set_option maxHeartbeats 4000000 in
theorem awake19_spec : Spec Tryz.prog 5 [] NoPre [] (IsV (.bool true)) := by
 refine mk_spec Tryz.func5 rfl rfl rfl fun w hr => ?_
 have hl0 := fun x => D_len 6 x
 have hle := fun x : F2 => E2_len x
 have h1 := fun s => hash_ok (.slice none 0 0) s [] kT (fun x hx => by cases hx) kT_lt (by simp) (by simp [kT]) (by simp [kT])
 rw [hu0_eq, hu1_eq, aSend, GV_some] at h1
 have h2 := hash_bad (.slice none 0 0) (.slice none 0 0) [] (.inl (by decide))
 have w0 := aw_w0
 have w5 := aw_w5
 generalize aRX = x at *
 generalize aRY = y at *
 repeat (first|refine y_129 ?_|(refine y_125 ?_;intro _)|refine st_buildSliceN (vs := kT) (kk := .u8) (by rfl) (by rfl) (by rfl) (by rfl) (by rfl) (by rfl) (by rfl) (by rfl) fun _ => ?_|refine st_conv_sl (xs := kT.map (N .u8)) (by rfl) (by repeat first|apply Find.here|apply Find.there) (by simp [kT]) (by rfl) (by rfl) (by rfl) ?_|refine st_callV (by rfl) (by rfl) (by rfl) (h1 _) (fun w hw => ⟨RdW.nil w hw, RdW.own (by repeat first|apply Find.here|apply Find.there) w hw⟩) (by rfl) ?_|refine st_callV (by rfl) (by rfl) (by rfl) (h2) (RdW.nil) (by rfl) ?_|refine y_64 ?_|refine y_71 ?_|refine st_ia_arr (i := 0) (k := .i64) (by rfl) (by rfl) (by rfl) (by rfl) (by decide) (by rfl) ?_|refine st_ia_arr (i := 5) (k := .i64) (by rfl) (by rfl) (by rfl) (by rfl) (by decide) (by rfl) ?_|refine st_ldnG (by rfl) (by repeat first|apply Find.here|apply Find.there) (by rfl) w0 (by rfl) ?_|refine st_ldnG (by rfl) (by repeat first|apply Find.here|apply Find.there) (by rfl) w5 (by rfl) ?_|refine st_shr (by rfl) (by rfl) (by decide) (by rfl) ?_|refine Z01 ?_|refine Z02 ?_|refine Z03 ?_|refine Z04 ?_|refine Z05 ?_|refine Z06 ?_|refine Z07 ?_|refine Z08 ?_|refine Z09 ?_|refine Z10 ?_|refine Z11 ?_|refine Z12 ?_|refine Z13 ?_|refine Z14 ?_|refine Z17 ?_|refine Z18 ?_|refine Z19 ?_|refine Z22 ?_|refine Z23 ?_|refine Z24 ?_|refine Z25 ?_|refine Z26 ?_|refine Z27 ?_|refine Z28 ?_|refine Z29 ?_|refine Z30 ?_|refine Z31 ?_|refine Z32 ?_|refine Z40 ?_|refine Z42 ?_|refine Z44 ?_|refine Z45 ?_|refine Z49 ?_|refine Z50 ?_|refine Z51 ?_|refine Z52 ?_|refine Z53 ?_|refine Z67 ?_|refine Z74 ?_|refine Z80 ?_|refine Z82 fun _ => ?_|refine Z85 fun _ => ?_)
 refine Ze1 fun _ hw => post_of hw SubW.nil ⟨?_, rfl⟩
 rfl
end Go.Proofs.YtbpmbdlgmmabcaaGreat.L
namespace Go.Proofs.YtbpmbdlgmmabcaaGreat.L
open Go Go.Proofs
set_option maxRecDepth 100000
attribute [local irreducible] Code.wp wpList Af bodyPost L.Go PartAt
open Num
attribute [local simp] D_len
theorem num_spec {k : Nat} {v : F2} (h : ([k] ++ List.replicate (6 - [k].length) 0) ++ List.replicate 6 0 = E2 v) : Spec Tryz.prog 90 [N .u64 k] NoPre [] (IsV (LV .u64 (E2 v))) := by
 refine mk_spec Tryz.func90 rfl rfl rfl fun w _ => ?_
 repeat (first|(refine y_62 ?_;intro _)|refine st_buildP (kk := .u64) (vs := [k]) (by rfl) (by rfl) (by rfl) (by rfl) (by rfl) (by rfl) (by rfl) (by rfl) ?_|refine y_96 ?_|refine Z01 ?_|refine Z03 ?_|refine Z04 ?_|refine Z05 ?_|refine Z06 ?_|refine Z07 ?_|refine Z08 ?_|refine Z09 ?_|refine Z10 ?_|refine Z11 ?_|refine Z12 ?_|refine Z13 ?_|refine Z14 ?_|refine Z29 ?_|refine Z30 ?_|refine Z31 ?_|refine Z32 ?_|refine Z65 ?_|refine Z82 fun _ => ?_)
 refine Zec fun _ hw => post_of hw SubW.nil ⟨?_, rfl⟩
 rw [h]
theorem n0_spec : Spec Tryz.prog 90 [N .u64 0] NoPre [] (IsV (LV .u64 (E2 (Kf.K2.zero : F2)))) := num_spec (by decide +kernel)
theorem n1_spec : Spec Tryz.prog 90 [N .u64 1] NoPre [] (IsV (LV .u64 (E2 (Kf.K2.one : F2)))) := num_spec (by decide +kernel)
theorem nk_spec {k : Nat} (h : ([k] ++ List.replicate (6 - [k].length) 0) ++ List.replicate 6 0 = E2 (k2 k 0)) : Spec Tryz.prog 90 [N .u64 k] NoPre [] (IsV (LV .u64 (E2 (k2 k 0)))) := num_spec h
theorem m2E (a : F2) : Kf.K2.mul (k2 2 0) a = Kf.K2.add a a := by
 rw [show (k2 2 0 : F2) = Kf.K2.ofZ 2 from by decide +kernel]; exact Kf.K2.ring (x := (.m (.c 2) (.v 0))) (y := (.a (.v 0) (.v 0))) (by decide +kernel) [a]
theorem m3E (a : F2) : Kf.K2.mul (k2 3 0) a = Kf.K2.add (Kf.K2.add a a) a := by
 rw [show (k2 3 0 : F2) = Kf.K2.ofZ 3 from by decide +kernel]; exact Kf.K2.ring (x := (.m (.c 3) (.v 0))) (y := (.a (.a (.v 0) (.v 0)) (.v 0))) (by decide +kernel) [a]
theorem m4E (a : F2) : Kf.K2.mul (k2 4 0) a = Kf.K2.add (Kf.K2.add a a) (Kf.K2.add a a) := by
 rw [show (k2 4 0 : F2) = Kf.K2.ofZ 4 from by decide +kernel]; exact Kf.K2.ring (x := (.m (.c 4) (.v 0))) (y := (.a (.a (.v 0) (.v 0)) (.a (.v 0) (.v 0)))) (by decide +kernel) [a]
theorem m8E (a : F2) : Kf.K2.mul (k2 8 0) a = Kf.K2.add (Kf.K2.add (Kf.K2.add a a) (Kf.K2.add a a)) (Kf.K2.add (Kf.K2.add a a) (Kf.K2.add a a)) := by
 rw [show (k2 8 0 : F2) = Kf.K2.ofZ 8 from by decide +kernel]; exact Kf.K2.ring (x := (.m (.c 8) (.v 0))) (y := (.a (.a (.a (.v 0) (.v 0)) (.a (.v 0) (.v 0))) (.a (.a (.v 0) (.v 0)) (.a (.v 0) (.v 0))))) (by decide +kernel) [a]
theorem rgb_spec : Spec Tryz.prog 127 [] NoPre [] (IsV (LV .u64 (E2 b2c))) := by
 refine mk_spec Tryz.func127 rfl rfl rfl fun w _ => ?_
 repeat (first|(refine y_62 ?_;intro _)|refine y_221 ?_|refine Z82 fun _ => ?_)
 refine Zec fun _ hw => post_of hw SubW.nil ⟨?_, rfl⟩
 rw [← b4E]
theorem tsubE (x y : F2) : Spec Tryz.prog 52 [LV .u64 (E2 x), LV .u64 (E2 y)] NoPre [] (IsV (LV .u64 (E2 (Kf.K2.sub x y)))) := by
 refine mk_spec Tryz.func52 rfl rfl rfl fun w _ => ?_
 have hl0 := fun x => D_len 6 x
 have hle := fun x : F2 => E2_len x
 have h1 := tnegE y
 have h2 := taddE x (Kf.K2.neg y)
 rw [show Kf.K2.add x (Kf.K2.neg y) = Kf.K2.sub x y from Kf.K2.ring (x := (.a (.v 0) (.n (.v 1)))) (y := (.s (.v 0) (.v 1))) (by decide +kernel) [x, y]] at h2
 repeat (first|(refine y_62 ?_;intro _)|refine y_46 ?_|refine Z81 fun _ => ?_|refine Z82 fun _ => ?_)
 refine st_draw1 (by rfl) ?_
 repeat (first|(refine Zqf (by intro _ _ _;(first|contradiction);exact Zq) ?_)|refine y_66 ?_|refine y_41 h1 ?_|refine y_41 h2 ?_|refine y_259 ?_)
 refine Zq0 ?_ (by kernel_rfl)
 repeat (first|refine y_46 ?_|refine Z81 fun _ => ?_|refine Z82 fun _ => ?_)
 refine Zec fun _ hw => post_of hw SubW.nil ⟨?_, rfl⟩
 rfl
theorem rgred_spec (P : Kf.K2.Pt p) : Spec Tryz.prog 50 [GV P] NoPre [] (IsV (GV P)) := by
 refine mk_spec Tryz.func50 rfl rfl rfl fun w _ => ?_
 have hl0 := fun x => D_len 6 x
 have hle := fun x : F2 => E2_len x
 cases P with
 | none =>
  rw [GV_none]
  repeat (first|refine y_142 ?_|refine y_129 ?_|(refine y_125 ?_;intro _)|refine y_223 ?_|refine Z81 fun _ => ?_|refine Z82 fun _ => ?_)
  refine st_endc_GL (m := 24) (by rfl) (by rfl) (by repeat first|apply Find.here|apply Find.there) (by rfl) (by rfl) (by first|with_reducible assumption|simp) fun _ hw => post_of hw SubW.nil ⟨?_, rfl⟩
  rfl
 | some q =>
  obtain ⟨x, y⟩ := q
  rw [GV_some]
  have h1 := tredE x
  have h2 := tredE y
  repeat (first|refine y_142 ?_|(refine y_125 ?_;intro _)|refine y_207 ?_|refine Z81 fun _ => ?_|refine Z82 fun _ => ?_)
  refine R.st_perm [0, 1, 2, 3, 4, 5, 6, 7] (by rfl) ?_
  repeat (first|refine y_224 ?_|refine y_202 ?_|refine y_143 ?_|refine y_68 ?_|refine y_69 h1 ?_|refine y_69 h2 ?_|refine y_263 ?_|(refine y_60 ?_;intro _)|refine R.Zpo (by rfl) ?_)
  refine R.Zp0 ?_
  repeat (first|refine y_63 ?_|refine Z81 fun _ => ?_|refine Z82 fun _ => ?_)
  refine st_endc_GL (m := 24) (by rfl) (by rfl) (by repeat first|apply Find.here|apply Find.there) (by rfl) (by rfl) (by first|with_reducible assumption|simp) fun _ hw => post_of hw SubW.nil ⟨?_, rfl⟩
  rfl
theorem y_174 {a b : Prop} (k : b) (h : Rm b → a := by intro k;(first|refine Z01 ?_|refine Z02 ?_|refine Z03 ?_|refine Z04 ?_|refine Z05 ?_|refine Z06 ?_|refine Z07 ?_|refine Z08 ?_|refine Z09 ?_|refine Z10 ?_|refine Z11 ?_|refine Z12 ?_|refine Z13 ?_|refine Z14 ?_|refine Z24 ?_|refine Z25 ?_|refine Z26 ?_|refine Z27 ?_|refine Z28 ?_|refine Z29 ?_|refine Z30 ?_|refine Z31 ?_|refine Z32 ?_|refine Z49 ?_|refine Z50 ?_|refine Z51 ?_|refine Z52 ?_|refine Z53 ?_|refine Z67 ?_|refine Z77 ?_|refine Z78 ?_|refine Z79 ?_);exact k.h) : a := h ⟨k⟩
theorem y_271 {a b : Prop} (k : b) (h : Rm b → a := by intro k;(first|(refine R.Zpf (by rfl) (by intro _ _ _;(first|refine y_222 ?_);exact Zq) ?_)|refine y_202 ?_|refine y_143 ?_|refine y_68 ?_);exact k.h) : a := h ⟨k⟩
theorem rgon_spec (x y : F2) (i : Bool) : Spec Tryz.prog 96 [GE x y i] NoPre [] (IsV (.bool (i || decide (Kf.K2.mul y y = Kf.K2.add (Kf.K2.mul (Kf.K2.mul x x) x) b2c)))) := by
 refine mk_spec Tryz.func96 rfl rfl rfl fun w _ => ?_
 have hl0 := fun x => D_len 6 x
 have hle := fun x : F2 => E2_len x
 have hm1 := tmulE y y
 have hm2 := tmulE x x
 have hm3 := tmulE (Kf.K2.mul x x) x
 have had := taddE (Kf.K2.mul (Kf.K2.mul x x) x) b2c
 generalize Kf.K2.add (Kf.K2.mul (Kf.K2.mul x x) x) b2c = r at had ⊢
 generalize Kf.K2.mul (Kf.K2.mul x x) x = r1 at hm3 had
 generalize Kf.K2.mul x x = r2 at hm2 hm3
 generalize Kf.K2.mul y y = q at hm1 ⊢
 cases i with
 | true =>
  repeat (first|refine y_174 ?_|refine Z81 fun _ => ?_|refine Z82 fun _ => ?_)
  refine R.st_perm [0, 1, 2, 3, 4, 5, 6, 7, 8, 9] (by rfl) ?_
  repeat (first|refine y_271 ?_|refine y_69 hm2 ?_|refine y_69 hm3 ?_|refine y_199 ?_|(refine y_102 ?_;intro _)|(refine y_60 ?_;intro _)|refine R.Zpo (by rfl) ?_)
  refine R.Zp0 ?_
  repeat (first|refine y_174 ?_|refine Z81 fun _ => ?_|refine Z82 fun _ => ?_)
  refine st_draw1 (by rfl) ?_
  repeat (first|(refine Zqf (by intro _ _ _;(first|refine y_222 ?_);exact Zq) ?_)|refine y_140 ?_|refine y_66 ?_|refine y_196 ?_|refine y_185 ?_|refine Zqn ?_)
  refine Zq0 ?_ (by kernel_rfl)
  repeat (first|refine y_174 ?_|refine Z81 fun _ => ?_|refine Z82 fun _ => ?_)
  refine Ze1 fun _ hw => post_of hw SubW.nil ⟨?_, rfl⟩
  rfl
 | false =>
  rw [Bool.false_or]
  repeat (first|refine y_174 ?_|refine Z81 fun _ => ?_|refine Z82 fun _ => ?_)
  refine R.st_perm [0, 1, 2, 3, 4, 5, 6, 7, 8, 9] (by rfl) ?_
  repeat (first|refine y_271 ?_|refine y_69 hm2 ?_|refine y_69 hm3 ?_|refine y_199 ?_|(refine y_102 ?_;intro _)|(refine y_60 ?_;intro _)|refine R.Zpo (by rfl) ?_)
  refine R.Zp0 ?_
  repeat (first|refine y_174 ?_|refine Z81 fun _ => ?_|refine Z82 fun _ => ?_)
  refine st_draw1 (by rfl) ?_
  repeat (first|(refine Zqf (by intro _ _ _;(first|refine y_124 (E2_iff q r) ?_|refine y_222 ?_);exact Zq) ?_)|refine y_140 ?_|refine y_141 ?_|refine y_66 ?_|(refine Zqp (by intro _ _ _;refine st_callV (by rfl) (by rfl) (by rfl) (rgb_spec) (fun _ _ => trivial) (by rfl) ?_;exact Zq) ?_)|refine y_41 hm1 ?_|refine y_41 had ?_|refine y_259 ?_)
  refine Zq0 ?_ (by kernel_rfl)
  repeat (first|refine y_174 ?_|refine Z81 fun _ => ?_|refine Z82 fun _ => ?_)
  refine Ze1 fun _ hw => post_of hw SubW.nil ⟨?_, rfl⟩
  rfl
end Go.Proofs.YtbpmbdlgmmabcaaGreat.L
namespace Go.Proofs.YtbpmbdlgmmabcaaGreat.L
open Go Go.Proofs
set_option maxRecDepth 100000
attribute [local irreducible] Code.wp wpList Af bodyPost L.Go PartAt
open Num
attribute [local simp] D_len
abbrev SlopeIs (x1 y1 x2 y2 l : F2) (b : Bool) : Prop := Spec Tryz.prog 51 [GE x1 y1 false, GE x2 y2 false] NoPre [] (IsV (.tuple [LV .u64 (E2 l), .bool b].toArray))
theorem y_175 {a b : Prop} (k : b) (h : Rm b → a := by intro k;refine st_eq2v (hr := E2_same _) (by rfl) (by rfl) (by rfl) (by kernel_rfl) (by rfl) (by rfl) (by rfl) (by rfl) (by rfl) (by rfl) (by rfl) (by rfl) (by rfl) (by rfl) (by kernel_rfl) (by simp; done) (by simp; done) (by simp; done) (by simp; done) (by rfl) ?_;exact k.h) : a := h ⟨k⟩
theorem y_176 {a b : Prop} (k : b) (h : Rm b → a := by intro k;refine Zqp (by intro _ _ _;refine st_callV (by rfl) (by rfl) (by rfl) (n0_spec) (fun _ _ => trivial) (by rfl) ?_;exact Zq) ?_;exact k.h) : a := h ⟨k⟩
theorem y_244 {a b : Prop} (k : b) (h : Rm b → a := by intro k;(first|refine y_146 ?_|refine y_147 ?_|refine y_129 ?_);exact k.h) : a := h ⟨k⟩
theorem y_245 {a b : Prop} (k : b) (h : Rm b → a := by intro k;(first|refine y_64 ?_|refine y_72 ?_|refine y_73 ?_|refine y_104 ?_|refine Z01 ?_|refine Z02 ?_|refine Z49 ?_|refine Z50 ?_|refine Z65 ?_|refine Z77 ?_|refine Z78 ?_|refine Z79 ?_);exact k.h) : a := h ⟨k⟩
theorem y_246 {a b : Prop} (k : b) (h : Rm b → a := by intro k;(first|refine y_94 ?_|refine Z01 ?_|refine Z02 ?_|refine Z03 ?_|refine Z04 ?_|refine Z05 ?_|refine Z06 ?_|refine Z07 ?_|refine Z08 ?_|refine Z09 ?_|refine Z10 ?_|refine Z11 ?_|refine Z12 ?_|refine Z13 ?_|refine Z14 ?_|refine Z24 ?_|refine Z25 ?_|refine Z26 ?_|refine Z27 ?_|refine Z28 ?_|refine Z29 ?_|refine Z30 ?_|refine Z31 ?_|refine Z32 ?_|refine Z49 ?_|refine Z50 ?_|refine Z51 ?_|refine Z52 ?_|refine Z53 ?_|refine Z65 ?_|refine Z67 ?_|refine Z77 ?_|refine Z78 ?_|refine Z79 ?_);exact k.h) : a := h ⟨k⟩
set_option maxHeartbeats 4000000 in
theorem slope_n {x1 y1 x2 y2 : F2} (hx : x1 = x2) (hy : ¬ (y1 = y2 ∧ y1 ≠ Kf.K2.zero)) : SlopeIs x1 y1 x2 y2 Kf.K2.zero false := by
 refine mk_spec Tryz.func51 rfl rfl rfl fun w _ => ?_
 have hl0 := fun x => D_len 6 x
 have hle := fun x : F2 => E2_len x
 have r1 : Spec Tryz.prog 50 [GE x1 y1 false] NoPre [] (IsV (GE x1 y1 false)) := rgred_spec (some (x1, y1))
 have r2 : Spec Tryz.prog 50 [GE x2 y2 false] NoPre [] (IsV (GE x2 y2 false)) := rgred_spec (some (x2, y2))
 subst hx
 by_cases hy1 : y1 = y2
 ·subst hy1
  have hy2 : y1 = Kf.K2.zero := Classical.not_not.1 fun h => hy ⟨rfl, h⟩
  have hz2 : (decide (D 6 y1.re.val = D 6 (Kf.K2.zero : F2).re.val) && decide (D 6 y1.im.val = D 6 (Kf.K2.zero : F2).im.val)) = true := by rw [hy2]; exact E2_same _
  repeat (first|refine y_244 ?_|(refine y_62 ?_;intro _)|refine y_94 ?_|refine y_175 ?_|refine y_64 ?_|refine y_71 ?_|refine y_72 ?_|refine y_73 ?_|refine y_104 ?_|refine y_3 r1 ?_|refine y_3 r2 ?_|refine y_144 ?_|refine Z81 fun _ => ?_|refine Z82 fun _ => ?_)
  refine st_draw1 (by rfl) ?_
  repeat (first|(refine Zqf (by intro _ _ _;(first|refine y_148 ?_|refine y_124 hz2 ?_|refine y_245 ?_);exact Zq) ?_)|refine y_141 ?_|refine y_66 ?_|refine y_176 ?_|refine y_196 ?_|refine y_185 ?_|refine Zqn ?_)
  refine Zq0 ?_ (by kernel_rfl)
  repeat (first|refine y_246 ?_|refine Z81 fun _ => ?_|refine Z82 fun _ => ?_)
  refine st_endc2_LV (by rfl) (by rfl) (by rfl) (by repeat first|apply Find.here|apply Find.there) (by rfl) (by rfl) (by first | with_reducible assumption | (simp [*]; done)) fun _ hw => post_of hw SubW.nil ⟨?_, rfl⟩
  rfl
 ·repeat (first|refine y_244 ?_|(refine y_62 ?_;intro _)|refine y_94 ?_|refine y_175 ?_|refine y_64 ?_|refine y_71 ?_|refine y_72 ?_|refine y_73 ?_|refine y_104 ?_|refine y_3 r1 ?_|refine y_3 r2 ?_|refine y_144 ?_|refine Z81 fun _ => ?_|refine Z82 fun _ => ?_)
  refine st_draw1 (by rfl) ?_
  repeat (first|(refine Zqf (by intro _ _ _;(first|refine y_149 (E2_diff hy1) ?_|refine y_245 ?_);exact Zq) ?_)|refine y_141 ?_|refine y_66 ?_|refine y_196 ?_|refine y_185 ?_|refine Zqn ?_)
  refine Zq0 ?_ (by kernel_rfl)
  repeat (first|refine y_246 ?_|refine Z81 fun _ => ?_|refine Z82 fun _ => ?_)
  refine st_endc2_LV (by rfl) (by rfl) (by rfl) (by repeat first|apply Find.here|apply Find.there) (by rfl) (by rfl) (by first | with_reducible assumption | (simp [*]; done)) fun _ hw => post_of hw SubW.nil ⟨?_, rfl⟩
  rfl
set_option maxHeartbeats 4000000 in
theorem slope_t {x1 y1 : F2} (hy : y1 ≠ Kf.K2.zero) : SlopeIs x1 y1 x1 y1 (Kf.K2.tang x1 y1) true := by
 refine mk_spec Tryz.func51 rfl rfl rfl fun w _ => ?_
 have hl0 := fun x => D_len 6 x
 have hle := fun x : F2 => E2_len x
 have r1 : Spec Tryz.prog 50 [GE x1 y1 false] NoPre [] (IsV (GE x1 y1 false)) := rgred_spec (some (x1, y1))
 have a1 := tmulE x1 x1
 have a2 := tmulE (k2 3 0) (Kf.K2.mul x1 x1)
 rw [m3E] at a2
 have a3 := tmulE (k2 2 0) y1
 rw [m2E] at a3
 have a4 := tinvE (Kf.K2.add y1 y1)
 have a5 := tmulE (Kf.K2.q3 x1 x1) (Kf.K2.inv (Kf.K2.add y1 y1))
 rw [← Kf.K2.q3] at a2
 rw [← Kf.K2.tang] at a5
 generalize Kf.K2.tang x1 y1 = l at a5 ⊢
 generalize Kf.K2.q3 x1 x1 = c1 at a2 a5
 generalize Kf.K2.inv (Kf.K2.add y1 y1) = c2 at a4 a5
 generalize Kf.K2.add y1 y1 = c3 at a3 a4
 generalize Kf.K2.mul x1 x1 = c4 at a1 a2
 have n3 := nk_spec (k := 3) (by decide +kernel)
 have n2 := nk_spec (k := 2) (by decide +kernel)
 generalize (k2 3 0 : F2) = t3 at a2 n3
 generalize (k2 2 0 : F2) = t2 at a3 n2
 repeat (first|refine y_244 ?_|(refine y_62 ?_;intro _)|refine y_175 ?_|refine y_64 ?_|refine y_71 ?_|refine y_72 ?_|refine y_73 ?_|refine y_104 ?_|refine y_3 r1 ?_|refine y_144 ?_|refine Z81 fun _ => ?_|refine Z82 fun _ => ?_)
 refine st_draw1 (by rfl) ?_
 repeat (first|(refine Zqf (by intro _ _ _;(first|refine y_148 ?_|refine y_124 (E2_diff hy) ?_|refine y_245 ?_);exact Zq) ?_)|refine y_141 ?_|refine y_66 ?_|refine y_176 ?_|refine y_196 ?_|refine y_185 ?_|refine Zqn ?_)
 refine Zq0 ?_ (by kernel_rfl)
 repeat (first|refine y_144 ?_|refine Z81 fun _ => ?_|refine Z82 fun _ => ?_)
 refine R.st_perm [0, 1, 2, 3, 4, 5, 6, 7, 8] (by rfl) ?_
 repeat (first|(refine R.Zpf (by rfl) (by intro _ _ _;(first|refine y_245 ?_);exact Zq) ?_)|refine y_202 ?_|refine y_143 ?_|refine y_68 ?_|refine y_69 n3 ?_|refine y_69 a1 ?_|refine y_69 a2 ?_|refine y_199 ?_|(refine y_102 ?_;intro _)|(refine y_60 ?_;intro _)|refine R.Zpo (by rfl) ?_)
 refine R.Zp0 ?_
 repeat (first|refine y_144 ?_|refine Z81 fun _ => ?_|refine Z82 fun _ => ?_)
 refine st_draw1 (by rfl) ?_
 repeat (first|(refine Zqf (by intro _ _ _;(first|refine y_245 ?_);exact Zq) ?_)|refine y_141 ?_|refine y_66 ?_|refine y_41 n2 ?_|refine y_41 a3 ?_|refine y_41 a4 ?_|refine y_41 a5 ?_|refine y_259 ?_)
 refine Zq0 ?_ (by kernel_rfl)
 repeat (first|refine y_144 ?_|refine Z81 fun _ => ?_|refine Z82 fun _ => ?_)
 refine st_endc2_LV (by rfl) (by rfl) (by rfl) (by repeat first|apply Find.here|apply Find.there) (by rfl) (by rfl) (by first | with_reducible assumption | (simp [*]; done)) fun _ hw => post_of hw SubW.nil ⟨?_, rfl⟩
 rfl
set_option maxHeartbeats 4000000 in
theorem slope_c {x1 y1 x2 y2 : F2} (hx : x1 ≠ x2) : SlopeIs x1 y1 x2 y2 (Kf.K2.chor x1 y1 x2 y2) true := by
 refine mk_spec Tryz.func51 rfl rfl rfl fun w _ => ?_
 have hl0 := fun x => D_len 6 x
 have hle := fun x : F2 => E2_len x
 have r1 : Spec Tryz.prog 50 [GE x1 y1 false] NoPre [] (IsV (GE x1 y1 false)) := rgred_spec (some (x1, y1))
 have r2 : Spec Tryz.prog 50 [GE x2 y2 false] NoPre [] (IsV (GE x2 y2 false)) := rgred_spec (some (x2, y2))
 have a1 := tsubE y2 y1
 have a2 := tsubE x2 x1
 have a3 := tinvE (Kf.K2.sub x2 x1)
 have a4 := tmulE (Kf.K2.sub y2 y1) (Kf.K2.inv (Kf.K2.sub x2 x1))
 rw [← Kf.K2.chor] at a4
 generalize Kf.K2.chor x1 y1 x2 y2 = l at a4 ⊢
 generalize Kf.K2.inv (Kf.K2.sub x2 x1) = c1 at a3 a4
 generalize Kf.K2.sub x2 x1 = c2 at a2 a3
 generalize Kf.K2.sub y2 y1 = c3 at a1 a4
 repeat (first|refine y_244 ?_|(refine y_62 ?_;intro _)|refine y_124 (E2_diff hx) ?_|refine y_64 ?_|refine y_71 ?_|refine y_72 ?_|refine y_73 ?_|refine y_104 ?_|refine y_3 r1 ?_|refine y_3 r2 ?_|refine y_144 ?_|refine Z81 fun _ => ?_|refine Z82 fun _ => ?_)
 refine st_draw1 (by rfl) ?_
 repeat (first|(refine Zqf (by intro _ _ _;(first|refine y_245 ?_);exact Zq) ?_)|refine y_141 ?_|refine y_66 ?_|refine y_41 a1 ?_|refine y_41 a2 ?_|refine y_41 a3 ?_|refine y_41 a4 ?_|refine y_259 ?_)
 refine Zq0 ?_ (by kernel_rfl)
 repeat (first|refine y_144 ?_|refine Z81 fun _ => ?_|refine Z82 fun _ => ?_)
 refine st_endc2_LV (by rfl) (by rfl) (by rfl) (by repeat first|apply Find.here|apply Find.there) (by rfl) (by rfl) (by first | with_reducible assumption | (simp [*]; done)) fun _ hw => post_of hw SubW.nil ⟨?_, rfl⟩
 rfl
theorem y_177 {a b : Prop} (k : b) (h : Rm b → a := by intro k;(first|refine Z01 ?_|refine Z02 ?_|refine Z03 ?_|refine Z04 ?_|refine Z05 ?_|refine Z06 ?_|refine Z07 ?_|refine Z08 ?_|refine Z09 ?_|refine Z10 ?_|refine Z11 ?_|refine Z12 ?_|refine Z13 ?_|refine Z14 ?_|refine Z19 ?_|refine Z24 ?_|refine Z25 ?_|refine Z26 ?_|refine Z27 ?_|refine Z28 ?_|refine Z29 ?_|refine Z30 ?_|refine Z31 ?_|refine Z32 ?_|refine Z54 ?_|refine Z65 ?_|refine Z67 ?_);exact k.h) : a := h ⟨k⟩
theorem y_247 {a b : Prop} (k : b) (h : Rm b → a := by intro k;(first|refine y_64 ?_|refine y_71 ?_|refine y_65 ?_);exact k.h) : a := h ⟨k⟩
theorem y_248 {a b : Prop} (k : b) (h : Rm b → a := by intro k;(first|refine y_64 ?_|refine y_65 ?_|refine Z01 ?_|refine Z02 ?_|refine Z19 ?_|refine Z54 ?_|refine Z65 ?_);exact k.h) : a := h ⟨k⟩
theorem y_249 {a b : Prop} (k : b) (h : Rm b → a := by intro k;(first|refine y_130 ?_|refine y_129 ?_|refine Z01 ?_|refine Z02 ?_|refine Z03 ?_|refine Z04 ?_|refine Z05 ?_|refine Z06 ?_|refine Z07 ?_|refine Z08 ?_|refine Z09 ?_|refine Z10 ?_|refine Z11 ?_|refine Z12 ?_|refine Z13 ?_|refine Z14 ?_|refine Z19 ?_|refine Z24 ?_|refine Z25 ?_|refine Z26 ?_|refine Z27 ?_|refine Z28 ?_|refine Z29 ?_|refine Z30 ?_|refine Z31 ?_|refine Z32 ?_|refine Z54 ?_|refine Z65 ?_|refine Z67 ?_);exact k.h) : a := h ⟨k⟩
theorem y_272 {a b : Prop} (k : b) (h : Rm b → a := by intro k;refine R.Zpf (by rfl) (by intro _ _ _;(first|refine y_248 ?_);exact Zq) ?_;exact k.h) : a := h ⟨k⟩
theorem y_285 {a b : Prop} (k : b) (h : Rm b → a := by intro k;(first|refine y_272 ?_|refine y_202 ?_|refine y_143 ?_|refine y_68 ?_);exact k.h) : a := h ⟨k⟩
set_option maxHeartbeats 8000000 in
theorem rgadd_spec (P Q : Kf.K2.Pt p) : Spec Tryz.prog 19 [GV P, GV Q] NoPre [] (IsV (GV (Kf.K2.pa P Q))) := by
 refine mk_spec Tryz.func19 rfl rfl rfl fun w _ => ?_
 have hl0 := fun x => D_len 6 x
 have hle := fun x : F2 => E2_len x
 have h1 := rgred_spec P
 have h2 := rgred_spec Q
 cases P with
 | none =>
  rw [show Kf.K2.pa none Q = Q from rfl]
  obtain ⟨x1, y1, i1, hq⟩ : ∃ x1 y1 i1, GV Q = GE x1 y1 i1 := ⟨_, _, _, rfl⟩
  rw [hq] at h2 ⊢
  rw [GV_none]
  repeat (first|refine y_225 ?_|(refine y_125 ?_;intro _)|refine y_247 ?_|refine y_3 h2 ?_|refine y_177 ?_|refine Z81 fun _ => ?_|refine Z82 fun _ => ?_)
  refine st_endc_GL (m := 24) (by rfl) (by rfl) (by repeat first|apply Find.here|apply Find.there) (by rfl) (by rfl) (by first|with_reducible assumption|simp) fun _ hw => post_of hw SubW.nil ⟨?_, rfl⟩
  rfl
 | some q1 =>
  obtain ⟨x1, y1⟩ := q1
  rw [GV_some] at h1 ⊢
  cases Q with
  | none =>
   rw [Kf.K2.pa_none_right, GV_some, GV_none]
   repeat (first|refine y_225 ?_|(refine y_125 ?_;intro _)|refine y_247 ?_|refine y_3 h1 ?_|refine y_177 ?_|refine Z81 fun _ => ?_|refine Z82 fun _ => ?_)
   refine st_endc_GL (m := 24) (by rfl) (by rfl) (by repeat first|apply Find.here|apply Find.there) (by rfl) (by rfl) (by first|with_reducible assumption|simp) fun _ hw => post_of hw SubW.nil ⟨?_, rfl⟩
   rfl
  | some q2 =>
   obtain ⟨x2, y2⟩ := q2
   rw [GV_some] at h2 ⊢
   repeat (first|(refine y_125 ?_;intro _)|refine y_177 ?_|refine Z81 fun _ => ?_|refine Z82 fun _ => ?_)
   by_cases hx : x1 = x2
   ·by_cases hy : y1 = y2 ∧ y1 ≠ Kf.K2.zero
    ·obtain ⟨hy1, hy2⟩ := hy
     subst hx
     subst hy1
     have hs := slope_t (x1 := x1) hy2
     obtain ⟨l, hl⟩ : ∃ l, l = Kf.K2.tang x1 y1 := ⟨_, rfl⟩
     rw [← hl] at hs
     have hpa : Kf.K2.pa (some (x1, y1)) (some (x1, y1)) = some (Kf.K2.cx l x1 x1, Kf.K2.cy l x1 y1 x1) := by
      show (if x1 = x1 then if y1 = y1 ∧ y1 ≠ Kf.K2.zero then _ else _ else _) = _
      rw [if_pos rfl, if_pos ⟨rfl, hy2⟩, hl]
     rw [hpa, GV_some]
     clear hpa hl
     have k3 := tmulE l l
     have k4 := tsubE (Kf.K2.mul l l) x1
     have k5 := tsubE (Kf.K2.sub (Kf.K2.mul l l) x1) x1
     have k6 := tsubE x1 (Kf.K2.cx l x1 x1)
     have k7 := tmulE l (Kf.K2.sub x1 (Kf.K2.cx l x1 x1))
     have k8 := tsubE (Kf.K2.mul l (Kf.K2.sub x1 (Kf.K2.cx l x1 x1))) y1
     rw [show Kf.K2.sub (Kf.K2.sub (Kf.K2.mul l l) x1) x1 = Kf.K2.cx l x1 x1 from rfl] at k5
     rw [show Kf.K2.sub (Kf.K2.mul l (Kf.K2.sub x1 (Kf.K2.cx l x1 x1))) y1 = Kf.K2.cy l x1 y1 x1 from rfl] at k8
     generalize Kf.K2.cy l x1 y1 x1 = yy at k8 ⊢
     generalize Kf.K2.mul l (Kf.K2.sub x1 (Kf.K2.cx l x1 x1)) = g1 at k7 k8
     generalize Kf.K2.sub x1 (Kf.K2.cx l x1 x1) = g2 at k6 k7
     generalize Kf.K2.cx l x1 x1 = xx at k5 k6 ⊢
     generalize Kf.K2.sub (Kf.K2.mul l l) x1 = g3 at k4 k5
     generalize Kf.K2.mul l l = g4 at k3 k4
     repeat (first|refine y_142 ?_|refine y_146 ?_|(refine y_62 ?_;intro _)|refine y_247 ?_|refine y_3 hs ?_|refine y_177 ?_|refine Z81 fun _ => ?_|refine Z82 fun _ => ?_)
     refine R.st_perm [0, 1, 2, 3, 4, 5, 6, 7, 8, 9, 10] (by rfl) ?_
     repeat (first|refine y_285 ?_|refine y_69 k3 ?_|refine y_69 k4 ?_|refine y_69 k5 ?_|refine y_199 ?_|(refine y_102 ?_;intro _)|(refine y_60 ?_;intro _)|refine R.Zpo (by rfl) ?_)
     refine R.Zp0 ?_
     repeat (first|refine y_177 ?_|refine Z81 fun _ => ?_|refine Z82 fun _ => ?_)
     refine R.st_perm [0, 1, 2, 3, 4, 5, 6, 7, 8, 9, 10] (by rfl) ?_
     repeat (first|refine y_285 ?_|refine y_69 k6 ?_|refine y_69 k7 ?_|refine y_69 k8 ?_|refine y_199 ?_|(refine y_102 ?_;intro _)|(refine y_60 ?_;intro _)|refine R.Zpo (by rfl) ?_)
     refine R.Zp0 ?_
     repeat (first|refine y_249 ?_|refine Z81 fun _ => ?_|refine Z82 fun _ => ?_)
     refine st_endc_GL (m := 24) (by rfl) (by rfl) (by repeat first|apply Find.here|apply Find.there) (by rfl) (by rfl) (by first|with_reducible assumption|simp) fun _ hw => post_of hw SubW.nil ⟨?_, rfl⟩
     rfl
    ·have hs := slope_n hx hy
     have hpa : Kf.K2.pa (some (x1, y1)) (some (x2, y2)) = none := by
      show (if x1 = x2 then if y1 = y2 ∧ y1 ≠ Kf.K2.zero then _ else _ else _) = _
      rw [if_pos hx, if_neg hy]
     rw [hpa, GV_none]
     repeat (first|refine y_225 ?_|(refine y_62 ?_;intro _)|refine y_64 ?_|refine y_71 ?_|refine y_65 ?_|refine y_128 ?_|refine y_3 hs ?_|refine y_177 ?_|refine Z81 fun _ => ?_|refine Z82 fun _ => ?_)
     refine st_endc_GL (m := 24) (by rfl) (by rfl) (by repeat first|apply Find.here|apply Find.there) (by rfl) (by rfl) (by first|with_reducible assumption|simp) fun _ hw => post_of hw SubW.nil ⟨?_, rfl⟩
     rfl
   ·have hs := slope_c (y1 := y1) (y2 := y2) hx
    obtain ⟨l, hl⟩ : ∃ l, l = Kf.K2.chor x1 y1 x2 y2 := ⟨_, rfl⟩
    rw [← hl] at hs
    have hpa : Kf.K2.pa (some (x1, y1)) (some (x2, y2)) = some (Kf.K2.cx l x1 x2, Kf.K2.cy l x1 y1 x2) := by
     show (if x1 = x2 then _ else some (Kf.K2.cx (Kf.K2.chor x1 y1 x2 y2) x1 x2, Kf.K2.cy (Kf.K2.chor x1 y1 x2 y2) x1 y1 x2)) = _
     rw [if_neg hx, hl]
    rw [hpa, GV_some]
    clear hpa hl
    have k3 := tmulE l l
    have k4 := tsubE (Kf.K2.mul l l) x1
    have k5 := tsubE (Kf.K2.sub (Kf.K2.mul l l) x1) x2
    have k6 := tsubE x1 (Kf.K2.cx l x1 x2)
    have k7 := tmulE l (Kf.K2.sub x1 (Kf.K2.cx l x1 x2))
    have k8 := tsubE (Kf.K2.mul l (Kf.K2.sub x1 (Kf.K2.cx l x1 x2))) y1
    rw [show Kf.K2.sub (Kf.K2.sub (Kf.K2.mul l l) x1) x2 = Kf.K2.cx l x1 x2 from rfl] at k5
    rw [show Kf.K2.sub (Kf.K2.mul l (Kf.K2.sub x1 (Kf.K2.cx l x1 x2))) y1 = Kf.K2.cy l x1 y1 x2 from rfl] at k8
    generalize Kf.K2.cy l x1 y1 x2 = yy at k8 ⊢
    generalize Kf.K2.mul l (Kf.K2.sub x1 (Kf.K2.cx l x1 x2)) = g1 at k7 k8
    generalize Kf.K2.sub x1 (Kf.K2.cx l x1 x2) = g2 at k6 k7
    generalize Kf.K2.cx l x1 x2 = xx at k5 k6 ⊢
    generalize Kf.K2.sub (Kf.K2.mul l l) x1 = g3 at k4 k5
    generalize Kf.K2.mul l l = g4 at k3 k4
    repeat (first|refine y_142 ?_|refine y_146 ?_|(refine y_62 ?_;intro _)|refine y_247 ?_|refine y_3 hs ?_|refine y_177 ?_|refine Z81 fun _ => ?_|refine Z82 fun _ => ?_)
    refine R.st_perm [0, 1, 2, 3, 4, 5, 6, 7, 8, 9, 10] (by rfl) ?_
    repeat (first|refine y_285 ?_|refine y_69 k3 ?_|refine y_69 k4 ?_|refine y_69 k5 ?_|refine y_199 ?_|(refine y_102 ?_;intro _)|(refine y_60 ?_;intro _)|refine R.Zpo (by rfl) ?_)
    refine R.Zp0 ?_
    repeat (first|refine y_177 ?_|refine Z81 fun _ => ?_|refine Z82 fun _ => ?_)
    refine R.st_perm [0, 1, 2, 3, 4, 5, 6, 7, 8, 9, 10] (by rfl) ?_
    repeat (first|refine y_285 ?_|refine y_69 k6 ?_|refine y_69 k7 ?_|refine y_69 k8 ?_|refine y_199 ?_|(refine y_102 ?_;intro _)|(refine y_60 ?_;intro _)|refine R.Zpo (by rfl) ?_)
    refine R.Zp0 ?_
    repeat (first|refine y_249 ?_|refine Z81 fun _ => ?_|refine Z82 fun _ => ?_)
    refine st_endc_GL (m := 24) (by rfl) (by rfl) (by repeat first|apply Find.here|apply Find.there) (by rfl) (by rfl) (by first|with_reducible assumption|simp) fun _ hw => post_of hw SubW.nil ⟨?_, rfl⟩
    rfl
end Go.Proofs.YtbpmbdlgmmabcaaGreat.L
namespace Go.Proofs.YtbpmbdlgmmabcaaGreat.L
open Go Go.Proofs
set_option maxRecDepth 100000
attribute [local irreducible] Code.wp wpList Af bodyPost L.Go PartAt
open Num
attribute [local simp] D_len
theorem y_178 {a b : Prop} (k : b) (h : Rm b → a := by intro k;refine st_alloc (E := 87) (v := LV .u64 (List.replicate 36 0)) (by kernel_rfl) (by rfl) ?_;exact k.h) : a := h ⟨k⟩
theorem y_250 {a b : Prop} (k : b) (h : Rm b → a := by intro k;refine R.Zpf (by rfl) (by intro _ _ _;(first|refine y_64 ?_|refine y_152 ?_|refine Z65 ?_);exact Zq) ?_;exact k.h) : a := h ⟨k⟩
theorem y_273 {a b : Prop} (k : b) (h : Rm b → a := by intro k;(first|(refine R.Zpf (by rfl) (by intro _ _ _;(first|refine y_64 ?_|refine Z65 ?_);exact Zq) ?_)|refine y_202 ?_|refine y_68 ?_);exact k.h) : a := h ⟨k⟩
set_option maxHeartbeats 8000000 in
theorem rtwice_spec (x y z : F2) : Spec Tryz.prog 97 [J36 x y z] NoPre [] (IsV (J36 (Kf.K2.tX x y) (Kf.K2.tY x y) (Kf.K2.tZ y z))) := by
 refine mk_spec Tryz.func97 rfl rfl rfl fun w _ => ?_
 have hl0 := fun x => D_len 6 x
 have hle := fun x : F2 => E2_len x
 have a1 := tmulE y y
 have a2 := tmulE x (Kf.K2.mul y y)
 have a3 := tmulE (k2 4 0) (Kf.K2.mul x (Kf.K2.mul y y))
 rw [m4E] at a3
 have a4 := tmulE x x
 have a5 := tmulE (k2 3 0) (Kf.K2.mul x x)
 rw [m3E] at a5
 have a6 := tmulE (Kf.K2.te x) (Kf.K2.te x)
 have a7 := taddE (Kf.K2.td x y) (Kf.K2.td x y)
 have a8 := tsubE (Kf.K2.mul (Kf.K2.te x) (Kf.K2.te x)) (Kf.K2.add (Kf.K2.td x y) (Kf.K2.td x y))
 have a9 := tsubE (Kf.K2.td x y) (Kf.K2.tX x y)
 have b1 := tmulE (Kf.K2.te x) (Kf.K2.sub (Kf.K2.td x y) (Kf.K2.tX x y))
 have b2 := tmulE (Kf.K2.mul y y) (Kf.K2.mul y y)
 have b3 := tmulE (k2 8 0) (Kf.K2.mul (Kf.K2.mul y y) (Kf.K2.mul y y))
 rw [m8E] at b3
 have b4 := tsubE (Kf.K2.mul (Kf.K2.te x) (Kf.K2.sub (Kf.K2.td x y) (Kf.K2.tX x y))) (Kf.K2.tc y 3)
 have b5 := tmulE y z
 have b6 := tmulE (k2 2 0) (Kf.K2.mul y z)
 rw [m2E] at b6
 rw [show Kf.K2.add (Kf.K2.add (Kf.K2.mul x (Kf.K2.mul y y)) (Kf.K2.mul x (Kf.K2.mul y y))) (Kf.K2.add (Kf.K2.mul x (Kf.K2.mul y y)) (Kf.K2.mul x (Kf.K2.mul y y))) = Kf.K2.td x y from rfl] at a3
 rw [show Kf.K2.add (Kf.K2.add (Kf.K2.mul x x) (Kf.K2.mul x x)) (Kf.K2.mul x x) = Kf.K2.te x from rfl] at a5
 rw [show Kf.K2.sub (Kf.K2.mul (Kf.K2.te x) (Kf.K2.te x)) (Kf.K2.add (Kf.K2.td x y) (Kf.K2.td x y)) = Kf.K2.tX x y from rfl] at a8
 rw [show Kf.K2.mul (Kf.K2.mul y y) (Kf.K2.mul y y) = Kf.K2.tc y 0 from rfl] at b2 b3
 rw [show Kf.K2.add (Kf.K2.add (Kf.K2.add (Kf.K2.tc y 0) (Kf.K2.tc y 0)) (Kf.K2.add (Kf.K2.tc y 0) (Kf.K2.tc y 0))) (Kf.K2.add (Kf.K2.add (Kf.K2.tc y 0) (Kf.K2.tc y 0)) (Kf.K2.add (Kf.K2.tc y 0) (Kf.K2.tc y 0))) = Kf.K2.tc y 3 from rfl] at b3
 rw [show Kf.K2.sub (Kf.K2.mul (Kf.K2.te x) (Kf.K2.sub (Kf.K2.td x y) (Kf.K2.tX x y))) (Kf.K2.tc y 3) = Kf.K2.tY x y from rfl] at b4
 rw [show Kf.K2.add (Kf.K2.mul y z) (Kf.K2.mul y z) = Kf.K2.tZ y z from rfl] at b6
 have n4 := nk_spec (k := 4) (by decide +kernel)
 have n3 := nk_spec (k := 3) (by decide +kernel)
 have n8 := nk_spec (k := 8) (by decide +kernel)
 have n2 := nk_spec (k := 2) (by decide +kernel)
 generalize (k2 4 0 : F2) = t4 at a3 n4
 generalize (k2 3 0 : F2) = t3 at a5 n3
 generalize (k2 8 0 : F2) = t8 at b3 n8
 generalize (k2 2 0 : F2) = t2 at b6 n2
 generalize Kf.K2.tX x y = X at *
 generalize Kf.K2.tY x y = Y at *
 generalize Kf.K2.tZ y z = Z at *
 generalize Kf.K2.mul (Kf.K2.te x) (Kf.K2.sub (Kf.K2.td x y) X) = c1 at *
 generalize Kf.K2.sub (Kf.K2.td x y) X = c2 at *
 generalize Kf.K2.mul y z = c3 at *
 generalize Kf.K2.mul (Kf.K2.te x) (Kf.K2.te x) = c4 at *
 generalize Kf.K2.add (Kf.K2.td x y) (Kf.K2.td x y) = c5 at *
 generalize Kf.K2.td x y = c6 at *
 generalize Kf.K2.te x = c7 at *
 generalize Kf.K2.mul x (Kf.K2.mul y y) = c8 at *
 generalize Kf.K2.mul x x = c9 at *
 generalize Kf.K2.mul y y = d1 at *
 generalize Kf.K2.tc y 3 = d2 at *
 generalize Kf.K2.tc y 0 = d3 at *
 repeat (first|(refine y_178 ?_;intro _)|refine y_63 ?_|refine Z81 fun _ => ?_|refine Z82 fun _ => ?_)
 refine R.st_perm [0, 1, 2, 3, 4, 5, 6, 7, 8, 9, 10, 11] (by rfl) ?_
 repeat (first|refine y_250 ?_|refine y_202 ?_|refine y_153 ?_|refine y_154 ?_|refine y_155 ?_|refine y_68 ?_|refine y_69 n4 ?_|refine y_69 a1 ?_|refine y_69 a2 ?_|refine y_69 a3 ?_|refine y_199 ?_|(refine y_102 ?_;intro _)|(refine y_60 ?_;intro _)|refine R.Zpo (by rfl) ?_)
 refine R.Zp0 ?_
 repeat (first|refine y_63 ?_|refine Z81 fun _ => ?_|refine Z82 fun _ => ?_)
 refine R.st_perm [0, 1, 2, 3, 4, 5, 6, 7, 8] (by rfl) ?_
 repeat (first|refine y_250 ?_|refine y_202 ?_|refine y_153 ?_|refine y_154 ?_|refine y_155 ?_|refine y_68 ?_|refine y_69 n3 ?_|refine y_69 a4 ?_|refine y_69 a5 ?_|refine y_199 ?_|(refine y_102 ?_;intro _)|(refine y_60 ?_;intro _)|refine R.Zpo (by rfl) ?_)
 refine R.Zp0 ?_
 repeat (first|refine y_63 ?_|refine Z81 fun _ => ?_|refine Z82 fun _ => ?_)
 refine R.st_perm [0, 1, 2, 3, 4, 5, 6, 7, 8] (by rfl) ?_
 repeat (first|refine y_273 ?_|refine y_69 a6 ?_|refine y_69 a7 ?_|refine y_69 a8 ?_|refine y_199 ?_|(refine y_102 ?_;intro _)|(refine y_60 ?_;intro _)|refine R.Zpo (by rfl) ?_)
 refine R.Zp0 ?_
 repeat (first|refine y_232 ?_|(refine y_62 ?_;intro _)|refine y_233 ?_|refine y_3 a1 ?_|refine y_63 ?_|refine Z81 fun _ => ?_|refine Z82 fun _ => ?_)
 refine R.st_perm [0, 1, 2, 3, 4, 5, 6, 7, 8, 9, 10, 11, 12] (by rfl) ?_
 repeat (first|refine y_273 ?_|refine y_69 a9 ?_|refine y_69 b1 ?_|refine y_69 n8 ?_|refine y_69 b2 ?_|refine y_69 b3 ?_|refine y_69 b4 ?_|refine y_199 ?_|(refine y_102 ?_;intro _)|(refine y_60 ?_;intro _)|refine R.Zpo (by rfl) ?_)
 refine R.Zp0 ?_
 repeat (first|refine y_63 ?_|refine Z81 fun _ => ?_|refine Z82 fun _ => ?_)
 refine R.st_perm [0, 1, 2, 3, 4, 5, 6, 7, 8, 9, 10] (by rfl) ?_
 repeat (first|(refine R.Zpf (by rfl) (by intro _ _ _;(first|refine y_64 ?_|refine y_152 ?_|refine y_159 ?_|refine Z65 ?_);exact Zq) ?_)|refine y_202 ?_|refine y_153 ?_|refine y_154 ?_|refine y_155 ?_|refine y_68 ?_|refine y_69 n2 ?_|refine y_69 b5 ?_|refine y_69 b6 ?_|refine y_199 ?_|refine y_160 ?_|(refine y_60 ?_;intro _)|refine R.Zpo (by rfl) ?_)
 refine R.Zp0 ?_
 repeat (first|refine y_63 ?_|refine Z81 fun _ => ?_|refine Z82 fun _ => ?_)
 refine Zec fun _ hw => post_of hw SubW.nil ⟨?_, rfl⟩
 rfl
theorem y_179 {a b : Prop} (k : b) (h : Rm b → a := by intro k;refine Zqp (by intro _ _ _;(refine st_ldp (by rfl) (by repeat first|apply Find.here|apply Find.there) (by rfl) (by rfl) (PartAt.t0 (E2_len _)) (by rfl) ?_);exact Zq) ?_;exact k.h) : a := h ⟨k⟩
theorem y_180 {a b : Prop} (k : b) (h : Rm b → a := by intro k;refine Zqp (by intro _ _ _;(refine st_ldp (by rfl) (by repeat first|apply Find.here|apply Find.there) (by rfl) (by rfl) (PartAt.t1 (E2_len _) (E2_len _)) (by rfl) ?_);exact Zq) ?_;exact k.h) : a := h ⟨k⟩
theorem y_181 {a b : Prop} (k : b) (h : Rm b → a := by intro k;refine Zqp (by intro _ _ _;(refine st_ldp (by rfl) (by repeat first|apply Find.here|apply Find.there) (by rfl) (by rfl) (PartAt.t2 (E2_len _) (E2_len _) (E2_len _)) (by rfl) ?_);exact Zq) ?_;exact k.h) : a := h ⟨k⟩
theorem y_251 {a b : Prop} (k : b) (h : Rm b → a := by intro k;(first|refine y_64 ?_|refine y_72 ?_|refine y_73 ?_|refine y_152 ?_|refine Z65 ?_|refine Z77 ?_|refine Z78 ?_|refine Z79 ?_);exact k.h) : a := h ⟨k⟩
theorem y_252 {a b : Prop} (k : b) (h : Rm b → a := by intro k;(first|refine y_64 ?_|refine y_71 ?_|refine y_72 ?_|refine y_73 ?_|refine y_152 ?_);exact k.h) : a := h ⟨k⟩
theorem y_253 {a b : Prop} (k : b) (h : Rm b → a := by intro k;(first|refine y_64 ?_|refine y_72 ?_|refine y_73 ?_|refine Z65 ?_|refine Z77 ?_|refine Z78 ?_|refine Z79 ?_);exact k.h) : a := h ⟨k⟩
theorem y_274 {a b : Prop} (k : b) (h : Rm b → a := by intro k;(first|refine y_179 ?_|refine y_180 ?_|refine y_181 ?_|refine y_66 ?_|refine y_176 ?_|refine y_196 ?_|refine y_185 ?_|refine Zqn ?_);exact k.h) : a := h ⟨k⟩
theorem y_275 {a b : Prop} (k : b) (h : Rm b → a := by intro k;refine R.Zpf (by rfl) (by intro _ _ _;(first|refine y_253 ?_);exact Zq) ?_;exact k.h) : a := h ⟨k⟩
theorem y_276 {a b : Prop} (k : b) (h : Rm b → a := by intro k;refine R.Zpf (by rfl) (by intro _ _ _;(first|refine y_251 ?_);exact Zq) ?_;exact k.h) : a := h ⟨k⟩
theorem y_277 {a b : Prop} (k : b) (h : Rm b → a := by intro k;(first|refine y_66 ?_|refine y_176 ?_|refine y_196 ?_|refine y_185 ?_|refine Zqn ?_);exact k.h) : a := h ⟨k⟩
theorem y_286 {a b : Prop} (k : b) (h : Rm b → a := by intro k;(first|refine y_275 ?_|refine y_202 ?_|refine y_143 ?_|refine y_153 ?_|refine y_154 ?_|refine y_155 ?_|refine y_68 ?_);exact k.h) : a := h ⟨k⟩
theorem y_287 {a b : Prop} (k : b) (h : Rm b → a := by intro k;(first|refine y_276 ?_|refine y_202 ?_|refine y_143 ?_|refine y_153 ?_|refine y_154 ?_|refine y_155 ?_|refine y_68 ?_);exact k.h) : a := h ⟨k⟩
set_option maxHeartbeats 8000000 in
theorem rplus_ex (x y z qx qy : F2) (ho : Kf.K2.Onc b2c (Kf.K2.jp x y z)) :
  ∃ X Y Z, Kf.K2.jp X Y Z = Kf.K2.pa (Kf.K2.jp x y z) (some (qx, qy)) ∧ Spec Tryz.prog 98 [J36 x y z, GE qx qy false] NoPre [] (IsV (J36 X Y Z)) := by
 by_cases hz : z = Kf.K2.zero
 ·refine ⟨qx, qy, Kf.K2.one, ?_, ?_⟩
  ·rw [Kf.K2.one_sq p_3, Kf.K2.jp_z hz]; rfl
  ·have hz2 : (decide (D 6 z.re.val = D 6 (Kf.K2.zero : F2).re.val) && decide (D 6 z.im.val = D 6 (Kf.K2.zero : F2).im.val)) = true := by rw [hz]; exact E2_same _
   refine mk_spec Tryz.func98 rfl rfl rfl fun w _ => ?_
   have hl0 := fun x => D_len 6 x
   have hle := fun x : F2 => E2_len x
   repeat (first|(refine y_178 ?_;intro _)|refine y_99 ?_|refine Z81 fun _ => ?_|refine Z82 fun _ => ?_)
   refine st_draw1 (by rfl) ?_
   repeat (first|(refine Zqf (by intro _ _ _;(first|refine y_124 hz2 ?_|refine y_251 ?_);exact Zq) ?_)|refine y_274 ?_)
   refine Zq0 ?_ (by kernel_rfl)
   repeat (first|refine y_99 ?_|refine Z81 fun _ => ?_|refine Z82 fun _ => ?_)
   refine R.st_perm [0, 1, 2, 3, 4, 5, 6] (by rfl) ?_
   repeat (first|(refine R.Zpf (by rfl) (by intro _ _ _;(first|refine y_64 ?_|refine y_72 ?_|refine y_73 ?_|refine y_159 ?_|refine Z65 ?_|refine Z77 ?_|refine Z78 ?_|refine Z79 ?_);exact Zq) ?_)|refine y_202 ?_|refine y_143 ?_|refine y_68 ?_|(refine R.Zpp (by rfl) (by intro _ _ _;refine st_callV (by rfl) (by rfl) (by rfl) (n1_spec) (fun _ _ => trivial) (by rfl) ?_;exact Zq) ?_)|refine y_199 ?_|refine y_160 ?_|(refine y_60 ?_;intro _)|refine R.Zpo (by rfl) ?_)
   refine R.Zp0 ?_
   repeat (first|refine y_99 ?_|refine Z81 fun _ => ?_|refine Z82 fun _ => ?_)
   refine Zec fun _ hw => post_of hw SubW.nil ⟨?_, rfl⟩
   rfl
 ·by_cases hh : Kf.K2.pH x z qx = Kf.K2.zero
  ·have hh2 : (decide (D 6 (Kf.K2.pH x z qx).re.val = D 6 (Kf.K2.zero : F2).re.val) && decide (D 6 (Kf.K2.pH x z qx).im.val = D 6 (Kf.K2.zero : F2).im.val)) = true := by rw [hh]; exact E2_same _
   by_cases hr : Kf.K2.pR y z qy = Kf.K2.zero
   ·have hr2 : (decide (D 6 (Kf.K2.pR y z qy).re.val = D 6 (Kf.K2.zero : F2).re.val) && decide (D 6 (Kf.K2.pR y z qy).im.val = D 6 (Kf.K2.zero : F2).im.val)) = true := by rw [hr]; exact E2_same _
    refine ⟨Kf.K2.tX x y, Kf.K2.tY x y, Kf.K2.tZ y z, ?_, ?_⟩
    ·rw [Kf.K2.jp_plus_2 p_3 hz hh hr]
     exact Kf.K2.jp_twice p_3 no2 ho
    ·have ht := rtwice_spec x y z
     generalize Kf.K2.tX x y = X at ht ⊢
     generalize Kf.K2.tY x y = Y at ht ⊢
     generalize Kf.K2.tZ y z = Z at ht ⊢
     have a1 := tmulE z z
     have a2 := tmulE qx (Kf.K2.mul z z)
     have a3 := tsubE (Kf.K2.mul qx (Kf.K2.mul z z)) x
     have a4 := tmulE (Kf.K2.mul z z) z
     have a5 := tmulE qy (Kf.K2.mul (Kf.K2.mul z z) z)
     have a6 := tsubE (Kf.K2.mul qy (Kf.K2.mul (Kf.K2.mul z z) z)) y
     rw [show Kf.K2.sub (Kf.K2.mul qx (Kf.K2.mul z z)) x = Kf.K2.pH x z qx from rfl] at a3
     rw [show Kf.K2.sub (Kf.K2.mul qy (Kf.K2.mul (Kf.K2.mul z z) z)) y = Kf.K2.pR y z qy from rfl] at a6
     generalize Kf.K2.mul qx (Kf.K2.mul z z) = c1 at a2 a3
     generalize Kf.K2.mul qy (Kf.K2.mul (Kf.K2.mul z z) z) = c2 at a5 a6
     generalize Kf.K2.mul (Kf.K2.mul z z) z = c3 at a4 a5
     generalize Kf.K2.mul z z = c4 at a1 a2 a4
     generalize Kf.K2.pH x z qx = h at *
     generalize Kf.K2.pR y z qy = r at *
     refine mk_spec Tryz.func98 rfl rfl rfl fun w _ => ?_
     have hl0 := fun x => D_len 6 x
     have hle := fun x : F2 => E2_len x
     repeat (first|(refine y_178 ?_;intro _)|refine y_99 ?_|refine Z81 fun _ => ?_|refine Z82 fun _ => ?_)
     refine st_draw1 (by rfl) ?_
     repeat (first|(refine Zqf (by intro _ _ _;(first|refine y_124 (E2_diff hz) ?_|refine y_251 ?_);exact Zq) ?_)|refine y_274 ?_)
     refine Zq0 ?_ (by kernel_rfl)
     repeat (first|refine y_232 ?_|(refine y_62 ?_;intro _)|refine y_252 ?_|refine y_3 a1 ?_|refine y_99 ?_|refine Z81 fun _ => ?_|refine Z82 fun _ => ?_)
     refine R.st_perm [0, 1, 2, 3, 4, 5, 6, 7, 8] (by rfl) ?_
     repeat (first|refine y_286 ?_|refine y_69 a2 ?_|refine y_69 a3 ?_|refine y_199 ?_|(refine y_102 ?_;intro _)|(refine y_60 ?_;intro _)|refine R.Zpo (by rfl) ?_)
     refine R.Zp0 ?_
     repeat (first|refine y_99 ?_|refine Z81 fun _ => ?_|refine Z82 fun _ => ?_)
     refine R.st_perm [0, 1, 2, 3, 4, 5, 6, 7, 8, 9, 10, 11] (by rfl) ?_
     repeat (first|refine y_287 ?_|refine y_69 a4 ?_|refine y_69 a5 ?_|refine y_69 a6 ?_|refine y_199 ?_|(refine y_102 ?_;intro _)|(refine y_60 ?_;intro _)|refine R.Zpo (by rfl) ?_)
     refine R.Zp0 ?_
     repeat (first|refine y_99 ?_|refine Z81 fun _ => ?_|refine Z82 fun _ => ?_)
     refine st_draw1 (by rfl) ?_
     repeat (first|(refine Zqf (by intro _ _ _;(first|refine y_124 hh2 ?_|refine y_253 ?_);exact Zq) ?_)|refine y_277 ?_)
     refine Zq0 ?_ (by kernel_rfl)
     repeat (first|refine y_99 ?_|refine Z81 fun _ => ?_|refine Z82 fun _ => ?_)
     refine st_draw1 (by rfl) ?_
     repeat (first|(refine Zqf (by intro _ _ _;(first|refine y_124 hr2 ?_|refine y_253 ?_);exact Zq) ?_)|refine y_277 ?_)
     refine Zq0 ?_ (by kernel_rfl)
     repeat (first|(refine y_62 ?_;intro _)|refine y_3 ht ?_|refine st_load_LV (m := 36) (by rfl) (by repeat first|apply Find.here|apply Find.there) (by rfl) (by rfl) (J36_len _ _ _) (by rfl) ?_|refine y_161 ?_|refine Z03 ?_|refine Z04 ?_|refine Z05 ?_|refine Z06 ?_|refine Z07 ?_|refine Z08 ?_|refine Z09 ?_|refine Z10 ?_|refine Z11 ?_|refine Z12 ?_|refine Z13 ?_|refine Z14 ?_|refine Z24 ?_|refine Z25 ?_|refine Z26 ?_|refine Z27 ?_|refine Z28 ?_|refine Z29 ?_|refine Z30 ?_|refine Z31 ?_|refine Z32 ?_|refine Z65 ?_|refine Z67 ?_|refine Z77 ?_|refine Z78 ?_|refine Z79 ?_|refine Z81 fun _ => ?_|refine Z82 fun _ => ?_)
     refine Zec fun _ hw => post_of hw SubW.nil ⟨?_, rfl⟩
     rfl
   ·refine ⟨Kf.K2.zero, Kf.K2.zero, Kf.K2.zero, ?_, ?_⟩
    ·rw [Kf.K2.jp_0, Kf.K2.jp_plus_0 p_3 hz hh hr]
    ·have a1 := tmulE z z
     have a2 := tmulE qx (Kf.K2.mul z z)
     have a3 := tsubE (Kf.K2.mul qx (Kf.K2.mul z z)) x
     have a4 := tmulE (Kf.K2.mul z z) z
     have a5 := tmulE qy (Kf.K2.mul (Kf.K2.mul z z) z)
     have a6 := tsubE (Kf.K2.mul qy (Kf.K2.mul (Kf.K2.mul z z) z)) y
     rw [show Kf.K2.sub (Kf.K2.mul qx (Kf.K2.mul z z)) x = Kf.K2.pH x z qx from rfl] at a3
     rw [show Kf.K2.sub (Kf.K2.mul qy (Kf.K2.mul (Kf.K2.mul z z) z)) y = Kf.K2.pR y z qy from rfl] at a6
     generalize Kf.K2.mul qx (Kf.K2.mul z z) = c1 at a2 a3
     generalize Kf.K2.mul qy (Kf.K2.mul (Kf.K2.mul z z) z) = c2 at a5 a6
     generalize Kf.K2.mul (Kf.K2.mul z z) z = c3 at a4 a5
     generalize Kf.K2.mul z z = c4 at a1 a2 a4
     generalize Kf.K2.pH x z qx = h at *
     generalize Kf.K2.pR y z qy = r at *
     refine mk_spec Tryz.func98 rfl rfl rfl fun w _ => ?_
     have hl0 := fun x => D_len 6 x
     have hle := fun x : F2 => E2_len x
     repeat (first|(refine y_178 ?_;intro _)|refine y_99 ?_|refine Z81 fun _ => ?_|refine Z82 fun _ => ?_)
     refine st_draw1 (by rfl) ?_
     repeat (first|(refine Zqf (by intro _ _ _;(first|refine y_124 (E2_diff hz) ?_|refine y_251 ?_);exact Zq) ?_)|refine y_274 ?_)
     refine Zq0 ?_ (by kernel_rfl)
     repeat (first|refine y_232 ?_|(refine y_62 ?_;intro _)|refine y_252 ?_|refine y_3 a1 ?_|refine y_99 ?_|refine Z81 fun _ => ?_|refine Z82 fun _ => ?_)
     refine R.st_perm [0, 1, 2, 3, 4, 5, 6, 7, 8] (by rfl) ?_
     repeat (first|refine y_286 ?_|refine y_69 a2 ?_|refine y_69 a3 ?_|refine y_199 ?_|(refine y_102 ?_;intro _)|(refine y_60 ?_;intro _)|refine R.Zpo (by rfl) ?_)
     refine R.Zp0 ?_
     repeat (first|refine y_99 ?_|refine Z81 fun _ => ?_|refine Z82 fun _ => ?_)
     refine R.st_perm [0, 1, 2, 3, 4, 5, 6, 7, 8, 9, 10, 11] (by rfl) ?_
     repeat (first|refine y_287 ?_|refine y_69 a4 ?_|refine y_69 a5 ?_|refine y_69 a6 ?_|refine y_199 ?_|(refine y_102 ?_;intro _)|(refine y_60 ?_;intro _)|refine R.Zpo (by rfl) ?_)
     refine R.Zp0 ?_
     repeat (first|refine y_99 ?_|refine Z81 fun _ => ?_|refine Z82 fun _ => ?_)
     refine st_draw1 (by rfl) ?_
     repeat (first|(refine Zqf (by intro _ _ _;(first|refine y_124 hh2 ?_|refine y_253 ?_);exact Zq) ?_)|refine y_277 ?_)
     refine Zq0 ?_ (by kernel_rfl)
     repeat (first|refine y_99 ?_|refine Z81 fun _ => ?_|refine Z82 fun _ => ?_)
     refine st_draw1 (by rfl) ?_
     repeat (first|(refine Zqf (by intro _ _ _;(first|refine y_124 (E2_diff hr) ?_|refine y_253 ?_);exact Zq) ?_)|refine y_277 ?_)
     refine Zq0 ?_ (by kernel_rfl)
     repeat (first|(refine y_62 ?_;intro _)|(refine st_build20 (t := 87) (k := .u64) (z := List.replicate 36 0) (by rfl) (by rfl) (by kernel_rfl) (by rfl) ?_; rw [zero36])|refine y_161 ?_|refine Z03 ?_|refine Z04 ?_|refine Z05 ?_|refine Z06 ?_|refine Z07 ?_|refine Z08 ?_|refine Z09 ?_|refine Z10 ?_|refine Z11 ?_|refine Z12 ?_|refine Z13 ?_|refine Z14 ?_|refine Z24 ?_|refine Z25 ?_|refine Z26 ?_|refine Z27 ?_|refine Z28 ?_|refine Z29 ?_|refine Z30 ?_|refine Z31 ?_|refine Z32 ?_|refine Z65 ?_|refine Z67 ?_|refine Z77 ?_|refine Z78 ?_|refine Z79 ?_|refine Z81 fun _ => ?_|refine Z82 fun _ => ?_)
     refine Zec fun _ hw => post_of hw SubW.nil ⟨?_, rfl⟩
     rfl
  ·refine ⟨_, _, _, Kf.K2.jp_plus p_3 hz hh, ?_⟩
   obtain ⟨h', eh⟩ : ∃ h', h' = Kf.K2.pH x z qx := ⟨_, rfl⟩
   obtain ⟨r', er⟩ : ∃ r', r' = Kf.K2.pR y z qy := ⟨_, rfl⟩
   have b1 := tmulE (Kf.K2.pH x z qx) (Kf.K2.pH x z qx)
   have b2 := tmulE (Kf.K2.mul (Kf.K2.pH x z qx) (Kf.K2.pH x z qx)) (Kf.K2.pH x z qx)
   have b3 := tmulE x (Kf.K2.mul (Kf.K2.pH x z qx) (Kf.K2.pH x z qx))
   have b4 := tmulE (Kf.K2.pR y z qy) (Kf.K2.pR y z qy)
   have b5 := tsubE (Kf.K2.mul (Kf.K2.pR y z qy) (Kf.K2.pR y z qy)) (Kf.K2.mul (Kf.K2.mul (Kf.K2.pH x z qx) (Kf.K2.pH x z qx)) (Kf.K2.pH x z qx))
   have b6 := taddE (Kf.K2.pV x (Kf.K2.pH x z qx)) (Kf.K2.pV x (Kf.K2.pH x z qx))
   have b7 := tsubE (Kf.K2.sub (Kf.K2.mul (Kf.K2.pR y z qy) (Kf.K2.pR y z qy)) (Kf.K2.mul (Kf.K2.mul (Kf.K2.pH x z qx) (Kf.K2.pH x z qx)) (Kf.K2.pH x z qx))) (Kf.K2.add (Kf.K2.pV x (Kf.K2.pH x z qx)) (Kf.K2.pV x (Kf.K2.pH x z qx)))
   have d1 := tsubE (Kf.K2.pV x (Kf.K2.pH x z qx)) (Kf.K2.pX x (Kf.K2.pH x z qx) (Kf.K2.pR y z qy))
   have d2 := tmulE (Kf.K2.pR y z qy) (Kf.K2.sub (Kf.K2.pV x (Kf.K2.pH x z qx)) (Kf.K2.pX x (Kf.K2.pH x z qx) (Kf.K2.pR y z qy)))
   have d3 := tmulE y (Kf.K2.mul (Kf.K2.mul (Kf.K2.pH x z qx) (Kf.K2.pH x z qx)) (Kf.K2.pH x z qx))
   have d4 := tsubE (Kf.K2.mul (Kf.K2.pR y z qy) (Kf.K2.sub (Kf.K2.pV x (Kf.K2.pH x z qx)) (Kf.K2.pX x (Kf.K2.pH x z qx) (Kf.K2.pR y z qy)))) (Kf.K2.mul y (Kf.K2.mul (Kf.K2.mul (Kf.K2.pH x z qx) (Kf.K2.pH x z qx)) (Kf.K2.pH x z qx)))
   have d5 := tmulE z (Kf.K2.pH x z qx)
   clear eh er h' r'
   have hdiff := E2_diff hh
   clear hh
   have a1 := tmulE z z
   have a2 := tmulE qx (Kf.K2.mul z z)
   have a3 := tsubE (Kf.K2.mul qx (Kf.K2.mul z z)) x
   have a4 := tmulE (Kf.K2.mul z z) z
   have a5 := tmulE qy (Kf.K2.mul (Kf.K2.mul z z) z)
   have a6 := tsubE (Kf.K2.mul qy (Kf.K2.mul (Kf.K2.mul z z) z)) y
   rw [show Kf.K2.sub (Kf.K2.mul qx (Kf.K2.mul z z)) x = Kf.K2.pH x z qx from rfl] at a3
   rw [show Kf.K2.sub (Kf.K2.mul qy (Kf.K2.mul (Kf.K2.mul z z) z)) y = Kf.K2.pR y z qy from rfl] at a6
   generalize Kf.K2.mul qx (Kf.K2.mul z z) = c1 at a2 a3
   generalize Kf.K2.mul qy (Kf.K2.mul (Kf.K2.mul z z) z) = c2 at a5 a6
   generalize Kf.K2.mul (Kf.K2.mul z z) z = c3 at a4 a5
   generalize Kf.K2.mul z z = c4 at a1 a2 a4
   generalize Kf.K2.pH x z qx = h at *
   generalize Kf.K2.pR y z qy = r at *
   refine mk_spec Tryz.func98 rfl rfl rfl fun w _ => ?_
   have hl0 := fun x => D_len 6 x
   have hle := fun x : F2 => E2_len x
   repeat (first|(refine y_178 ?_;intro _)|refine y_99 ?_|refine Z81 fun _ => ?_|refine Z82 fun _ => ?_)
   refine st_draw1 (by rfl) ?_
   repeat (first|(refine Zqf (by intro _ _ _;(first|refine y_124 (E2_diff hz) ?_|refine y_251 ?_);exact Zq) ?_)|refine y_274 ?_)
   refine Zq0 ?_ (by kernel_rfl)
   repeat (first|refine y_232 ?_|(refine y_62 ?_;intro _)|refine y_252 ?_|refine y_3 a1 ?_|refine y_99 ?_|refine Z81 fun _ => ?_|refine Z82 fun _ => ?_)
   refine R.st_perm [0, 1, 2, 3, 4, 5, 6, 7, 8] (by rfl) ?_
   repeat (first|refine y_286 ?_|refine y_69 a2 ?_|refine y_69 a3 ?_|refine y_199 ?_|(refine y_102 ?_;intro _)|(refine y_60 ?_;intro _)|refine R.Zpo (by rfl) ?_)
   refine R.Zp0 ?_
   repeat (first|refine y_99 ?_|refine Z81 fun _ => ?_|refine Z82 fun _ => ?_)
   refine R.st_perm [0, 1, 2, 3, 4, 5, 6, 7, 8, 9, 10, 11] (by rfl) ?_
   repeat (first|refine y_287 ?_|refine y_69 a4 ?_|refine y_69 a5 ?_|refine y_69 a6 ?_|refine y_199 ?_|(refine y_102 ?_;intro _)|(refine y_60 ?_;intro _)|refine R.Zpo (by rfl) ?_)
   refine R.Zp0 ?_
   repeat (first|refine y_99 ?_|refine Z81 fun _ => ?_|refine Z82 fun _ => ?_)
   rw [show Kf.K2.mul x (Kf.K2.mul h h) = Kf.K2.pV x h from rfl] at b3
   rw [show Kf.K2.sub (Kf.K2.sub (Kf.K2.mul r r) (Kf.K2.mul (Kf.K2.mul h h) h)) (Kf.K2.add (Kf.K2.pV x h) (Kf.K2.pV x h)) = Kf.K2.pX x h r from rfl] at b7
   rw [show Kf.K2.sub (Kf.K2.mul r (Kf.K2.sub (Kf.K2.pV x h) (Kf.K2.pX x h r))) (Kf.K2.mul y (Kf.K2.mul (Kf.K2.mul h h) h)) = Kf.K2.pY x y h r from rfl] at d4
   generalize Kf.K2.pY x y h r = Y at *
   generalize Kf.K2.mul y (Kf.K2.mul (Kf.K2.mul h h) h) = e1 at *
   generalize Kf.K2.mul r (Kf.K2.sub (Kf.K2.pV x h) (Kf.K2.pX x h r)) = e2 at *
   generalize Kf.K2.sub (Kf.K2.pV x h) (Kf.K2.pX x h r) = e3 at *
   generalize Kf.K2.pX x h r = X at *
   generalize Kf.K2.sub (Kf.K2.mul r r) (Kf.K2.mul (Kf.K2.mul h h) h) = e4 at *
   generalize Kf.K2.add (Kf.K2.pV x h) (Kf.K2.pV x h) = e5 at *
   generalize Kf.K2.pV x h = e6 at *
   generalize Kf.K2.mul (Kf.K2.mul h h) h = e7 at *
   generalize Kf.K2.mul h h = e8 at *
   generalize Kf.K2.mul r r = e9 at *
   generalize Kf.K2.mul z h = Z at *
   refine st_draw1 (by rfl) ?_
   repeat (first|(refine Zqf (by intro _ _ _;(first|refine y_124 hdiff ?_|refine y_253 ?_);exact Zq) ?_)|refine y_277 ?_)
   refine Zq0 ?_ (by kernel_rfl)
   repeat (first|refine y_232 ?_|(refine y_62 ?_;intro _)|refine y_252 ?_|refine y_3 b1 ?_|refine y_3 b2 ?_|refine y_3 b3 ?_|refine y_99 ?_|refine Z81 fun _ => ?_|refine Z82 fun _ => ?_)
   refine R.st_perm [0, 1, 2, 3, 4, 5, 6, 7, 8, 9, 10] (by rfl) ?_
   repeat (first|refine y_275 ?_|refine y_202 ?_|refine y_68 ?_|refine y_69 b4 ?_|refine y_69 b5 ?_|refine y_69 b6 ?_|refine y_69 b7 ?_|refine y_199 ?_|(refine y_102 ?_;intro _)|(refine y_60 ?_;intro _)|refine R.Zpo (by rfl) ?_)
   refine R.Zp0 ?_
   repeat (first|refine y_99 ?_|refine Z81 fun _ => ?_|refine Z82 fun _ => ?_)
   refine R.st_perm [0, 1, 2, 3, 4, 5, 6, 7, 8, 9, 10, 11] (by rfl) ?_
   repeat (first|refine y_276 ?_|refine y_202 ?_|refine y_153 ?_|refine y_154 ?_|refine y_155 ?_|refine y_68 ?_|refine y_69 d1 ?_|refine y_69 d2 ?_|refine y_69 d3 ?_|refine y_69 d4 ?_|refine y_199 ?_|(refine y_102 ?_;intro _)|(refine y_60 ?_;intro _)|refine R.Zpo (by rfl) ?_)
   refine R.Zp0 ?_
   repeat (first|refine y_99 ?_|refine Z81 fun _ => ?_|refine Z82 fun _ => ?_)
   refine R.st_perm [0, 1, 2, 3, 4, 5, 6, 7] (by rfl) ?_
   repeat (first|(refine R.Zpf (by rfl) (by intro _ _ _;(first|refine y_64 ?_|refine y_72 ?_|refine y_73 ?_|refine y_152 ?_|refine y_159 ?_|refine Z65 ?_|refine Z77 ?_|refine Z78 ?_|refine Z79 ?_);exact Zq) ?_)|refine y_202 ?_|refine y_153 ?_|refine y_154 ?_|refine y_155 ?_|refine y_68 ?_|refine y_69 d5 ?_|refine y_199 ?_|refine y_160 ?_|(refine y_60 ?_;intro _)|refine R.Zpo (by rfl) ?_)
   refine R.Zp0 ?_
   repeat (first|refine y_99 ?_|refine Z81 fun _ => ?_|refine Z82 fun _ => ?_)
   refine Zec fun _ hw => post_of hw SubW.nil ⟨?_, rfl⟩
   rfl
end Go.Proofs.YtbpmbdlgmmabcaaGreat.L
namespace Go.Proofs.YtbpmbdlgmmabcaaGreat.L
open Go Go.Proofs
set_option maxRecDepth 100000
attribute [local irreducible] Code.wp wpList Af bodyPost L.Go PartAt
open Num
attribute [local simp] D_len
theorem rgonP {P : Kf.K2.Pt p} (h : Kf.K2.Onc b2c P) : Spec Tryz.prog 96 [GV P] NoPre [] (IsV (.bool true)) := by
 cases P with
 | none =>
  have := rgon_spec Kf.K2.zero Kf.K2.zero true
  rwa [Bool.true_or] at this
 | some q =>
  have := rgon_spec q.1 q.2 false
  rwa [Bool.false_or, decide_eq_true (show Kf.K2.mul q.2 q.2 = Kf.K2.add (Kf.K2.mul (Kf.K2.mul q.1 q.1) q.1) b2c from h)] at this
theorem y_182 {a b : Prop} (k : b) (h : Rm b → a := by intro k;(first|refine Z01 ?_|refine Z02 ?_|refine Z03 ?_|refine Z04 ?_|refine Z05 ?_|refine Z06 ?_|refine Z07 ?_|refine Z08 ?_|refine Z09 ?_|refine Z10 ?_|refine Z11 ?_|refine Z12 ?_|refine Z13 ?_|refine Z14 ?_|refine Z16 ?_|refine Z17 ?_|refine Z18 ?_|refine Z20 ?_|refine Z21 ?_|refine Z22 ?_|refine Z23 ?_|refine Z24 ?_|refine Z25 ?_|refine Z26 ?_|refine Z27 ?_|refine Z28 ?_|refine Z29 ?_|refine Z30 ?_|refine Z31 ?_|refine Z32 ?_|refine Z36 ?_|refine Z37 ?_|refine Z38 ?_|refine Z40 ?_|refine Z42 ?_|refine Z44 ?_|refine Z45 ?_|refine Z54 ?_|refine Z58 ?_|refine Z59 ?_|refine Z65 ?_|refine Z67 ?_|refine Z71 ?_|refine Z74 ?_|refine Z77 ?_|refine Z78 ?_|refine Z79 ?_|refine Z80 ?_);exact k.h) : a := h ⟨k⟩
theorem y_254 {a b : Prop} (k : b) (h : Rm b → a := by intro k;(first|refine y_64 ?_|refine y_65 ?_|refine y_72 ?_|refine y_73 ?_|refine y_152 ?_|refine Z01 ?_|refine Z02 ?_|refine Z16 ?_|refine Z17 ?_|refine Z18 ?_|refine Z20 ?_|refine Z21 ?_|refine Z22 ?_|refine Z23 ?_|refine Z36 ?_|refine Z37 ?_|refine Z38 ?_|refine Z40 ?_|refine Z42 ?_|refine Z44 ?_|refine Z45 ?_|refine Z54 ?_|refine Z58 ?_|refine Z59 ?_|refine Z65 ?_|refine Z71 ?_|refine Z74 ?_|refine Z77 ?_|refine Z78 ?_|refine Z79 ?_|refine Z80 ?_);exact k.h) : a := h ⟨k⟩
theorem y_278 {a b : Prop} (k : b) (h : Rm b → a := by intro k;(first|refine y_179 ?_|refine y_180 ?_|refine y_181 ?_|refine y_66 ?_|refine y_176 ?_|refine y_190 ?_|refine y_185 ?_|refine Zqn ?_);exact k.h) : a := h ⟨k⟩
set_option maxHeartbeats 8000000 in
theorem rgmul_on {P : Kf.K2.Pt p} (h : Kf.K2.Onc b2c P) (s : Value) (xs : List Nat) (hx : Lt 18446744073709551616 xs) (hl : xs.length < 65536) :
  Spec Tryz.prog 55 [s, GV P] (fun w => Rd w s (xs.map (N .u64))) [] (IsV (.tuple [GV (Kf.K2.tim P (V xs)), N .i64 0].toArray)) := by
 refine mk_spec Tryz.func55 rfl rfl rfl fun w hr => ?_
 have hr := RdC.mk0 hr
 have hl0 := fun x => D_len 6 x
 have hle := fun x : F2 => E2_len x
 have h1 := rgred_spec P
 have h2 := rgonP h
 cases P with
 | none =>
  rw [Kf.K2.tim_none]
  rw [GV_none] at h1 h2 ⊢
  repeat (first|refine y_241 ?_|(refine y_125 ?_;intro _)|refine y_208 ?_|refine y_3 h2 ?_|refine y_128 ?_|refine Z01 ?_|refine Z02 ?_|refine Z03 ?_|refine Z04 ?_|refine Z05 ?_|refine Z06 ?_|refine Z07 ?_|refine Z08 ?_|refine Z09 ?_|refine Z10 ?_|refine Z11 ?_|refine Z12 ?_|refine Z13 ?_|refine Z14 ?_|refine Z16 ?_|refine Z17 ?_|refine Z18 ?_|refine Z20 ?_|refine Z21 ?_|refine Z22 ?_|refine Z23 ?_|refine Z24 ?_|refine Z25 ?_|refine Z26 ?_|refine Z27 ?_|refine Z28 ?_|refine Z29 ?_|refine Z30 ?_|refine Z31 ?_|refine Z32 ?_|refine Z36 ?_|refine Z37 ?_|refine Z38 ?_|refine Z40 ?_|refine Z42 ?_|refine Z44 ?_|refine Z45 ?_|refine Z54 ?_|refine Z58 ?_|refine Z59 ?_|refine Z65 ?_|refine Z67 ?_|refine Z71 ?_|refine Z74 ?_|refine Z77 ?_|refine Z78 ?_|refine Z79 ?_|refine Z80 ?_|refine Z81 fun _ => ?_|refine Z82 fun _ => ?_)
  refine st_endc2_GL (m := 24) (by rfl) (by rfl) (by rfl) (by repeat first|apply Find.here|apply Find.there) (by rfl) (by rfl) (by first|with_reducible assumption|simp) fun _ hw => post_of hw SubW.nil ⟨?_, rfl⟩
  rfl
 | some q =>
  obtain ⟨qx, qy⟩ := q
  rw [GV_some] at h1 h2 ⊢
  have hz : V xs / 2 ^ (64 * xs.length) = 0 := Nat.div_eq_of_lt (by rw [Nat.pow_mul, ← W_2]; exact V_lt hx)
  repeat (first|refine y_241 ?_|(refine y_125 ?_;intro _)|refine y_208 ?_|refine y_3 h1 ?_|refine y_3 h2 ?_|(refine y_178 ?_;intro _)|refine y_182 ?_|refine Z81 fun _ => ?_|refine Z82 fun _ => ?_)
  rename_i p3 p4 p7 p8
  refine st_loop (ι := Nat × F2 × F2 × F2) (fun q => q.1 ≤ 64 * xs.length ∧ Kf.K2.jp q.2.1 q.2.2.1 q.2.2.2 = Kf.K2.tim (some (qx, qy)) (V xs / 2 ^ q.1)) (fun q => [(0, s), (3, pt p3 0), (4, pt p4 0), (7, pt p7 0), (8, pt p8 0), (9, .int .i64 ((q.1 : Int) - 1))])
   (fun q => [.blk p8 (J36 q.2.1 q.2.2.1 q.2.2.2) 87, .blk p7 (GE qx qy false) 31, .blk p4 (GL (List.replicate 24 0) false) 31]) (fun q => q.1) (64 * xs.length, Kf.K2.zero, Kf.K2.zero, Kf.K2.zero) ⟨Nat.le_refl _, by simp only; rw [hz, Kf.K2.jp_0]; rfl⟩ (by repeat (first|apply subL.nil|refine subL.cons (by rfl) ?_)) (by simp only [J36]; rw [← zero36]; exact (by repeat (first|apply SubW.nil|refine y_8 ?_))) ?_
  rintro ⟨j, X, Y, Z⟩ ⟨hj, hjp⟩
  simp only at hj hjp ⊢
  repeat (first|refine y_182 ?_|refine Z81 fun _ => ?_|refine Z82 fun _ => ?_)
  refine st_cond (by rfl) (fun hc => ?_) (fun hc => ?_)
  ·have h0 : (0 : Int) ≤ (j : Int) - 1 := hc
   obtain ⟨i, rfl⟩ : ∃ i, j = i + 1 := ⟨j - 1, by omega⟩
   rw [show ((i + 1 : Nat) : Int) - 1 = Int.ofNat i by simp]
   have hst := bit_step (V xs) i
   have hbt := bit_and6 hx i
   have hi64 : i % 64 % 18446744073709551616 = i % 64 := Nat.mod_eq_of_lt (by omega)
   generalize V xs / 2 ^ (i + 1) = m at hst hjp
   have ht := rtwice_spec X Y Z
   have hoj : Kf.K2.Onc b2c (Kf.K2.jp X Y Z) := by rw [hjp]; exact Kf.K2.Onc_tim p_3 h m
   have hjt := Kf.K2.jp_twice p_3 no2 hoj
   rw [hjp, ← Kf.K2.tim_add p_3 no2 h] at hjt
   generalize Kf.K2.tX X Y = X2 at ht hjt
   generalize Kf.K2.tY X Y = Y2 at ht hjt
   generalize Kf.K2.tZ Y Z = Z2 at ht hjt
   repeat (first|refine y_164 ?_|refine y_3 ht ?_|refine y_167 ?_|rw [hi64]|refine st_shr (by rfl) (by rfl) (show i % 64 ≤ 64 by omega) (by rfl) ?_|rw [hbt]|refine y_182 ?_|refine Z81 fun _ => ?_|refine Z82 fun _ => ?_)
   refine st_cond (by rfl) (fun hb => ?_) (fun hb => ?_)
   ·have hx1 : V xs / 2 ^ i = m + m + 1 := by omega
    have ho2 : Kf.K2.Onc b2c (Kf.K2.jp X2 Y2 Z2) := by rw [hjt]; exact Kf.K2.Onc_tim p_3 h _
    obtain ⟨X3, Y3, Z3, hj3, hs3⟩ := rplus_ex X2 Y2 Z2 qx qy ho2
    rw [hjt, show Kf.K2.pa (Kf.K2.tim (some (qx, qy)) (m + m)) (some (qx, qy)) = Kf.K2.tim (some (qx, qy)) (m + m + 1) from rfl] at hj3
    repeat (first|refine y_164 ?_|refine y_146 ?_|refine y_3 hs3 ?_|refine y_167 ?_|refine Z01 ?_|refine Z02 ?_|refine Z03 ?_|refine Z04 ?_|refine Z05 ?_|refine Z06 ?_|refine Z07 ?_|refine Z08 ?_|refine Z09 ?_|refine Z10 ?_|refine Z11 ?_|refine Z12 ?_|refine Z13 ?_|refine Z14 ?_|refine Z16 ?_|refine Z17 ?_|refine Z18 ?_|refine Z20 ?_|refine Z21 ?_|refine Z22 ?_|refine Z23 ?_|refine Z24 ?_|refine Z25 ?_|refine Z26 ?_|refine Z27 ?_|refine Z28 ?_|refine Z29 ?_|refine Z30 ?_|refine Z31 ?_|refine Z32 ?_|refine Z36 ?_|refine Z37 ?_|refine Z38 ?_|refine Z40 ?_|refine Z42 ?_|refine Z44 ?_|refine Z45 ?_|refine Z54 ?_|refine Z58 ?_|refine Z59 ?_|refine Z65 ?_|refine Z67 ?_|refine Z71 ?_|refine Z74 ?_|refine Z77 ?_|refine Z78 ?_|refine Z79 ?_|refine Z80 ?_|refine Z81 fun _ => ?_|refine Z82 fun _ => ?_)
    refine st_round (i, X3, Y3, Z3) ⟨by simp only; omega, by simp only; rw [hj3, hx1]⟩ (by simp only; omega) ?_ (by repeat (first|apply SubW.nil|refine y_8 ?_))
    rw [show ((i : Int) - 1) = Int.ofNat i - Int.ofNat 1 from rfl]
    exact (by repeat (first|apply subL.nil|refine subL.cons (by rfl) ?_))
   ·have hx1 : V xs / 2 ^ i = m + m := by omega
    repeat (first|refine y_182 ?_|refine Z81 fun _ => ?_|refine Z82 fun _ => ?_)
    refine st_round (i, X2, Y2, Z2) ⟨by simp only; omega, by simp only; rw [hjt, hx1]⟩ (by simp only; omega) ?_ (by repeat (first|apply SubW.nil|refine y_8 ?_))
    rw [show ((i : Int) - 1) = Int.ofNat i - Int.ofNat 1 from rfl]
    exact (by repeat (first|apply subL.nil|refine subL.cons (by rfl) ?_))
  ·have hp0 : ¬ (0 : Int) ≤ (j : Int) - 1 := hc
   have hj0 : j = 0 := by omega
   subst hj0
   rw [Nat.pow_zero, Nat.div_one] at hjp
   clear hc hp0 hj hz hx hl hr
   rw [← hjp]
   by_cases hz : Z = Kf.K2.zero
   ·rw [Kf.K2.jp_z hz, GV_none]
    have hz2 : (decide (D 6 Z.re.val = D 6 (Kf.K2.zero : F2).re.val) && decide (D 6 Z.im.val = D 6 (Kf.K2.zero : F2).im.val)) = true := by rw [hz]; exact E2_same _
    repeat (first|refine y_182 ?_|refine Z81 fun _ => ?_|refine Z82 fun _ => ?_)
    refine st_draw1 (by rfl) ?_
    repeat (first|(refine Zqf (by intro _ _ _;(first|refine y_124 hz2 ?_|refine y_254 ?_);exact Zq) ?_)|refine y_278 ?_)
    refine Zq0 ?_ (by kernel_rfl)
    repeat (first|refine y_128 ?_|refine y_129 ?_|refine Z01 ?_|refine Z02 ?_|refine Z03 ?_|refine Z04 ?_|refine Z05 ?_|refine Z06 ?_|refine Z07 ?_|refine Z08 ?_|refine Z09 ?_|refine Z10 ?_|refine Z11 ?_|refine Z12 ?_|refine Z13 ?_|refine Z14 ?_|refine Z16 ?_|refine Z17 ?_|refine Z18 ?_|refine Z20 ?_|refine Z21 ?_|refine Z22 ?_|refine Z23 ?_|refine Z24 ?_|refine Z25 ?_|refine Z26 ?_|refine Z27 ?_|refine Z28 ?_|refine Z29 ?_|refine Z30 ?_|refine Z31 ?_|refine Z32 ?_|refine Z36 ?_|refine Z37 ?_|refine Z38 ?_|refine Z40 ?_|refine Z42 ?_|refine Z44 ?_|refine Z45 ?_|refine Z54 ?_|refine Z58 ?_|refine Z59 ?_|refine Z65 ?_|refine Z67 ?_|refine Z71 ?_|refine Z74 ?_|refine Z77 ?_|refine Z78 ?_|refine Z79 ?_|refine Z80 ?_|refine Z81 fun _ => ?_|refine Z82 fun _ => ?_)
    refine st_endc2_GL (m := 24) (by rfl) (by rfl) (by rfl) (by repeat first|apply Find.here|apply Find.there) (by rfl) (by rfl) (by first|with_reducible assumption|simp) fun _ hw => post_of hw SubW.nil ⟨?_, rfl⟩
    rfl
   ·rw [Kf.K2.jp_n hz, GV_some, Kf.K2.jx, Kf.K2.jy]
    have a1 := tinvE Z
    have a2 := tmulE (Kf.K2.inv Z) (Kf.K2.inv Z)
    have a3 := tmulE X (Kf.K2.mul (Kf.K2.inv Z) (Kf.K2.inv Z))
    have a4 := tmulE (Kf.K2.mul (Kf.K2.inv Z) (Kf.K2.inv Z)) (Kf.K2.inv Z)
    have a5 := tmulE Y (Kf.K2.mul (Kf.K2.mul (Kf.K2.inv Z) (Kf.K2.inv Z)) (Kf.K2.inv Z))
    generalize Kf.K2.mul Y (Kf.K2.mul (Kf.K2.mul (Kf.K2.inv Z) (Kf.K2.inv Z)) (Kf.K2.inv Z)) = c1 at *
    generalize Kf.K2.mul (Kf.K2.mul (Kf.K2.inv Z) (Kf.K2.inv Z)) (Kf.K2.inv Z) = c2 at *
    generalize Kf.K2.mul X (Kf.K2.mul (Kf.K2.inv Z) (Kf.K2.inv Z)) = c3 at *
    generalize Kf.K2.mul (Kf.K2.inv Z) (Kf.K2.inv Z) = c4 at *
    generalize Kf.K2.inv Z = c5 at *
    repeat (first|refine y_182 ?_|refine Z81 fun _ => ?_|refine Z82 fun _ => ?_)
    refine st_draw1 (by rfl) ?_
    repeat (first|(refine Zqf (by intro _ _ _;(first|refine y_124 (E2_diff hz) ?_|refine y_254 ?_);exact Zq) ?_)|refine y_278 ?_)
    refine Zq0 ?_ (by kernel_rfl)
    repeat (first|(refine y_62 ?_;intro _)|refine y_152 ?_|refine y_156 ?_|refine y_157 ?_|refine y_158 ?_|refine y_3 a1 ?_|refine y_3 a2 ?_|refine y_182 ?_|refine Z81 fun _ => ?_|refine Z82 fun _ => ?_)
    refine R.st_perm [0, 1, 2, 3, 4, 5, 6, 7, 8, 9, 10, 11, 12] (by rfl) ?_
    repeat (first|(refine R.Zpf (by rfl) (by intro _ _ _;(first|refine y_64 ?_|refine y_65 ?_|refine y_72 ?_|refine y_73 ?_|refine y_130 ?_|refine Z01 ?_|refine Z02 ?_|refine Z16 ?_|refine Z17 ?_|refine Z18 ?_|refine Z20 ?_|refine Z21 ?_|refine Z22 ?_|refine Z23 ?_|refine Z36 ?_|refine Z37 ?_|refine Z38 ?_|refine Z40 ?_|refine Z42 ?_|refine Z44 ?_|refine Z45 ?_|refine Z54 ?_|refine Z58 ?_|refine Z59 ?_|refine Z65 ?_|refine Z71 ?_|refine Z74 ?_|refine Z77 ?_|refine Z78 ?_|refine Z79 ?_|refine Z80 ?_);exact Zq) ?_)|(refine R.Zpp (by rfl) (by intro _ _ _;(first|refine y_34 ?_);exact Zq) ?_)|refine y_153 ?_|refine y_154 ?_|refine y_155 ?_|refine y_68 ?_|refine y_69 a3 ?_|refine y_69 a4 ?_|refine y_69 a5 ?_|refine y_263 ?_|(refine y_60 ?_;intro _)|refine R.Zpo (by rfl) ?_)
    refine R.Zp0 ?_
    repeat (first|refine y_182 ?_|refine Z81 fun _ => ?_|refine Z82 fun _ => ?_)
    refine st_endc2_GL (m := 24) (by rfl) (by rfl) (by rfl) (by repeat first|apply Find.here|apply Find.there) (by rfl) (by rfl) (by first|with_reducible assumption|simp) fun _ hw => post_of hw SubW.nil ⟨?_, rfl⟩
    rfl
set_option maxHeartbeats 8000000 in
theorem rclear_on {P : Kf.K2.Pt p} (h : Kf.K2.Onc b2c P) : Spec Tryz.prog 21 [GV P] NoPre [] (IsV (.tuple [GV (Kf.K2.tim P (V hC)), N .i64 0].toArray)) := by
 refine mk_spec Tryz.func21 rfl rfl rfl fun w hr => ?_
 have hl0 := fun x => D_len 6 x
 have hle := fun x : F2 => E2_len x
 have hm := fun s => rgmul_on h s hC hC_lt (by decide)
 obtain ⟨x0, y0, i0, hq0⟩ : ∃ x1 y1 i1, GV P = GE x1 y1 i1 := ⟨_, _, _, rfl⟩
 obtain ⟨x1, y1, i1, hq⟩ : ∃ x1 y1 i1, GV (Kf.K2.tim P (V hC)) = GE x1 y1 i1 := ⟨_, _, _, rfl⟩
 rw [hq, hq0] at hm
 rw [hq, hq0]
 repeat (first|(refine y_125 ?_;intro _)|refine st_buildSliceN (vs := hC) (kk := .u64) (by rfl) (by rfl) (by rfl) (by rfl) (by rfl) (by rfl) (by rfl) (by rfl) fun _ => ?_|refine y_146 ?_|refine y_28 (hm _) ?_|refine y_129 ?_|refine Z02 ?_|refine Z03 ?_|refine Z04 ?_|refine Z05 ?_|refine Z06 ?_|refine Z07 ?_|refine Z08 ?_|refine Z09 ?_|refine Z10 ?_|refine Z11 ?_|refine Z12 ?_|refine Z13 ?_|refine Z14 ?_|refine Z19 ?_|refine Z24 ?_|refine Z25 ?_|refine Z26 ?_|refine Z27 ?_|refine Z28 ?_|refine Z29 ?_|refine Z30 ?_|refine Z31 ?_|refine Z32 ?_|refine Z67 ?_|refine Z81 fun _ => ?_|refine Z82 fun _ => ?_|refine Z85 fun _ => ?_)
 refine st_endc2_GL (m := 24) (by rfl) (by rfl) (by rfl) (by repeat first|apply Find.here|apply Find.there) (by rfl) (by rfl) (by first|with_reducible assumption|simp) fun _ hw => post_of hw SubW.nil ⟨?_, rfl⟩
 rfl
theorem risoT {x y : F2} (h : Kf.K2.mul y y = side x) : Spec Tryz.prog 20 [LV .u64 (E2 x), LV .u64 (E2 y)] NoPre [] (IsV (GE (phx x) (phy x y) false)) := by
 have := riso_spec (val_lt x.re) (val_lt x.im) (val_lt y.re) (val_lt y.im)
 rwa [k2_val, k2_val, isoP_on h] at this
set_option maxHeartbeats 8000000 in
theorem rsend_spec {a b e f : Nat} (ha : a < W ^ 6) (hb : b < W ^ 6) (he : e < W ^ 6) (hf : f < W ^ 6) : Spec Tryz.prog 10 [LV .u64 (D 6 a ++ D 6 b), LV .u64 (D 6 e ++ D 6 f)] NoPre [] (IsV (GV (send (k2 a b) (k2 e f)))) := by
 refine mk_spec Tryz.func10 rfl rfl rfl fun w hr => ?_
 have hl0 := fun x => D_len 6 x
 have hle := fun x : F2 => E2_len x
 have k1 := rmap_spec ha hb
 have k2' := rmap_spec he hf
 have k3 := risoT (mapP_on (k2 a b))
 have k4 := risoT (mapP_on (k2 e f))
 have k5 := rgadd_spec (sent (k2 a b)) (sent (k2 e f))
 have k6 := rclear_on (Kf.K2.Onc_pa p_3 (sent_on (k2 a b)) (sent_on (k2 e f)))
 rw [send]
 obtain ⟨x1, y1, i1, hq⟩ : ∃ x1 y1 i1, GV (Kf.K2.tim (Kf.K2.pa (sent (k2 a b)) (sent (k2 e f))) (V hC)) = GE x1 y1 i1 := ⟨_, _, _, rfl⟩
 obtain ⟨x2, y2, i2, hq2⟩ : ∃ x1 y1 i1, GV (Kf.K2.pa (sent (k2 a b)) (sent (k2 e f))) = GE x1 y1 i1 := ⟨_, _, _, rfl⟩
 rw [hq] at k6 ⊢
 rw [hq2] at k5 k6
 rw [show GV (sent (k2 a b)) = GE (phx (mapP (k2 a b)).1) (phy (mapP (k2 a b)).1 (mapP (k2 a b)).2) false from rfl, show GV (sent (k2 e f)) = GE (phx (mapP (k2 e f)).1) (phy (mapP (k2 e f)).1 (mapP (k2 e f)).2) false from rfl] at k5
 clear hq hq2
 generalize mapP (k2 a b) = q at *
 generalize mapP (k2 e f) = r at *
 obtain ⟨a1, a2⟩ := q
 obtain ⟨c1, c2⟩ := r
 simp only at k1 k2' k3 k4 k5
 generalize phx a1 = e1 at *
 generalize phy a1 a2 = e2 at *
 generalize phx c1 = e3 at *
 generalize phy c1 c2 = e4 at *
 repeat (first|(refine y_62 ?_;intro _)|(refine y_125 ?_;intro _)|refine y_3 k1 ?_|refine y_3 k2' ?_|refine y_169 ?_|refine Z81 fun _ => ?_|refine Z82 fun _ => ?_)
 refine R.st_perm [0, 1, 2, 3, 4, 5, 6, 7, 8] (by rfl) ?_
 repeat (first|refine y_170 ?_|refine y_202 ?_|refine y_68 ?_|refine y_69 k3 ?_|refine y_69 k4 ?_|refine y_69 k5 ?_|refine y_263 ?_|(refine y_171 ?_;intro _)|(refine y_60 ?_;intro _)|refine R.Zpo (by rfl) ?_)
 refine R.Zp0 ?_
 repeat (first|(refine y_125 ?_;intro _)|refine y_146 ?_|refine y_3 k6 ?_|refine y_129 ?_|refine Z01 ?_|refine Z02 ?_|refine Z03 ?_|refine Z04 ?_|refine Z05 ?_|refine Z06 ?_|refine Z07 ?_|refine Z08 ?_|refine Z09 ?_|refine Z10 ?_|refine Z11 ?_|refine Z12 ?_|refine Z13 ?_|refine Z14 ?_|refine Z19 ?_|refine Z24 ?_|refine Z25 ?_|refine Z26 ?_|refine Z27 ?_|refine Z28 ?_|refine Z29 ?_|refine Z30 ?_|refine Z31 ?_|refine Z32 ?_|refine Z67 ?_|refine Z81 fun _ => ?_|refine Z82 fun _ => ?_)
 refine st_endc_GL (m := 24) (by rfl) (by rfl) (by repeat first|apply Find.here|apply Find.there) (by rfl) (by rfl) (by first|with_reducible assumption|simp) fun _ hw => post_of hw SubW.nil ⟨?_, rfl⟩
 rfl
theorem rsendE (x y : F2) : Spec Tryz.prog 10 [LV .u64 (E2 x), LV .u64 (E2 y)] NoPre [] (IsV (GV (send x y))) := by
 have := rsend_spec (val_lt x.re) (val_lt x.im) (val_lt y.re) (val_lt y.im); rwa [k2_val, k2_val] at this
set_option maxHeartbeats 8000000 in
theorem rhash_ok (s1 s2 : Value) (m d : List Nat) (hm : Lt 256 m) (hd : Lt 256 d) (hl1 : m.length < 1073741824) (h1 : 1 ≤ d.length) (h2 : d.length ≤ 255) :
  Spec Tryz.prog 8 [s1, s2] (fun w => Rd w s1 (m.map (N .u8)) ∧ Rd w s2 (d.map (N .u8))) [] (IsV (.tuple [GV (send (hu m d 0) (hu m d 1)), N .i64 0].toArray)) := by
 refine mk_spec Tryz.func8 rfl rfl rfl fun w hr => ?_
 have hr1 := RdC.mk0 hr.1
 have hr2 := RdC.mk0 hr.2
 have hl0 := fun x => D_len 6 x
 have hle := fun x : F2 => E2_len x
 have hs := rsendE (hu m d 0) (hu m d 1)
 have hfl : (((fels (xpand m d (128 * 2)) 2).flatten).map (N .u64)).length = 2 * 12 := by rw [List.length_map, fels_flat, fels_len]
 have g0 := fels_get (xpand m d (128 * 2)) (k := 2) (i := 0) (by decide)
 have g1 := fels_get (xpand m d (128 * 2)) (k := 2) (i := 1) (by decide)
 rw [fel_hu] at g0 g1
 have hE := fels_each (xpand m d (128 * 2)) 2
 obtain ⟨x1, y1, i1, hq⟩ : ∃ x1 y1 i1, GV (send (hu m d 0) (hu m d 1)) = GE x1 y1 i1 := ⟨_, _, _, rfl⟩
 rw [hq] at hs ⊢
 generalize hu m d 0 = u at *
 generalize hu m d 1 = v at *
 repeat (first|(refine y_125 ?_;intro _)|(refine st_call (by rfl) (by rfl) (by rfl) (rfields_ok s1 s2 m d 2 hm hd hl1 h1 h2 (by decide) (by decide)) .nil (fun w hw => ⟨RdW.old hr1 w hw, RdW.old hr2 w hw⟩) (by rfl) ?_; rintro _ _ ⟨x, rfl, rfl⟩)|refine y_242 ?_|refine Z82 fun _ => ?_)
 generalize fels (xpand m d (128 * 2)) 2 = L at *
 refine R.st_perm [0, 1, 2, 3, 4, 5, 6, 7, 8] (by rfl) ?_
 repeat (first|refine y_172 ?_|(refine R.Zpp (by rfl) (by intro _ _ _;(first|refine y_13 ?_);exact Zq) ?_)|(refine R.Zpp (by rfl) (by intro _ _ _;(refine st_ia_M (m := 12) (s := x) (i := 0) (k := 2) (kk := .i64) (by rfl) (by rfl) (by rfl) (by rfl) (RdW.own (by repeat first|apply Find.here|apply Find.there)) (by decide) hfl (by decide) (by rfl) ?_);exact Zq) ?_)|(refine R.Zpp (by rfl) (by intro _ _ _;(refine st_ia_M (m := 12) (s := x) (i := 1) (k := 2) (kk := .i64) (by rfl) (by rfl) (by rfl) (by rfl) (RdW.own (by repeat first|apply Find.here|apply Find.there)) (by decide) hfl (by decide) (by rfl) ?_);exact Zq) ?_)|(refine R.Zpp (by rfl) (by intro _ _ _;(refine st_load_M (m := 12) (s := wide 12 x) (i := 0) (by rfl) (by rfl) (by rfl) (RdW.own (by repeat first|apply Find.here|apply Find.there)) hE g0 (by decide) (by rfl) ?_);exact Zq) ?_)|(refine R.Zpp (by rfl) (by intro _ _ _;(refine st_load_M (m := 12) (s := wide 12 x) (i := 1) (by rfl) (by rfl) (by rfl) (RdW.own (by repeat first|apply Find.here|apply Find.there)) hE g1 (by decide) (by rfl) ?_);exact Zq) ?_)|refine y_69 hs ?_|refine y_263 ?_|(refine R.Zpn (by rfl) (by intro _ _ _;(first|refine Z82 fun _ => ?_);exact R.Zpx) fun _ => ?_)|refine R.Zpo (by rfl) ?_)
 refine R.Zp0 ?_
 repeat (first|refine y_173 ?_|refine Z82 fun _ => ?_)
 refine st_endc2_GL (m := 24) (by rfl) (by rfl) (by rfl) (by repeat first|apply Find.here|apply Find.there) (by rfl) (by rfl) (by first|with_reducible assumption|simp) fun _ hw => post_of hw SubW.nil ⟨?_, rfl⟩
 rfl
theorem rhash_bad (s1 s2 : Value) (d : List Nat) (h : d.length < 1 ∨ 255 < d.length) :
  Spec Tryz.prog 8 [s1, s2] (fun w => Rd w s2 (d.map (N .u8))) [] (IsV (.tuple [GE Kf.K2.zero Kf.K2.zero false, N .i64 170].toArray)) := by
 refine mk_spec Tryz.func8 rfl rfl rfl fun w hr => ?_
 have hr2 := RdC.mk0 hr
 have hf := rfields_bad s1 s2 d 2 256 170 (by decide) (by decide) (rxexpand_dst s1 s2 d 256 h)
 repeat (first|(refine y_125 ?_;intro _)|refine st_callV (by rfl) (by rfl) (by rfl) (hf) (RdW.old hr2) (by rfl) ?_|refine y_243 ?_|refine Z82 fun _ => ?_)
 refine st_endc2_GL (m := 24) (by rfl) (by rfl) (by rfl) (by repeat first|apply Find.here|apply Find.there) (by rfl) (by rfl) (by first|with_reducible assumption|simp) fun _ hw => post_of hw SubW.nil ⟨?_, rfl⟩
 rfl
theorem few19_spec' (s t : Value) (a b : List Nat) (h1 : a.length < 9223372036854775808) (h2 : b.length < 9223372036854775808) :
  Spec Tryz.prog 6 [s, t] (fun w => Rd w s (a.map (N .u8)) ∧ Rd w t (b.map (N .u8))) [] (IsV (.bool (decide (a.length ≤ 300 ∧ b.length ≤ 300)))) := by
 refine mk_spec Tryz.func6 rfl rfl rfl fun w hr => ?_
 have hr1 := RdC.mk0 hr.1
 have hr2 := RdC.mk0 hr.2
 by_cases ha : a.length ≤ 300
 ·by_cases hb : b.length ≤ 300
  ·repeat (first|refine y_30 ?_|refine Z01 ?_|refine Z02 ?_|refine Z03 ?_|refine Z04 ?_|refine Z05 ?_|refine Z06 ?_|refine Z07 ?_|refine Z08 ?_|refine Z09 ?_|refine Z10 ?_|refine Z11 ?_|refine Z12 ?_|refine Z13 ?_|refine Z14 ?_|refine Z17 ?_|refine Z18 ?_|refine Z20 ?_|refine Z21 ?_|refine Z49 ?_|refine Z50 ?_|refine Z51 ?_|refine Z52 ?_|refine Z53 ?_|refine Z58 ?_|refine Z59 ?_)
   refine Ze1 fun _ hw => post_of hw SubW.nil ⟨?_, rfl⟩
   rw [decide_eq_true ⟨ha, hb⟩]
  ·repeat (first|refine y_30 ?_|refine y_25 ?_|refine Z01 ?_|refine Z02 ?_|refine Z03 ?_|refine Z04 ?_|refine Z05 ?_|refine Z06 ?_|refine Z07 ?_|refine Z08 ?_|refine Z09 ?_|refine Z10 ?_|refine Z11 ?_|refine Z12 ?_|refine Z13 ?_|refine Z14 ?_|refine Z17 ?_|refine Z18 ?_|refine Z20 ?_|refine Z21 ?_|refine Z49 ?_|refine Z50 ?_|refine Z51 ?_|refine Z52 ?_|refine Z53 ?_|refine Z58 ?_|refine Z59 ?_)
   refine Ze1 fun _ hw => post_of hw SubW.nil ⟨?_, rfl⟩
   rw [decide_eq_false (fun h => hb h.2)]
 ·repeat (first|refine y_25 ?_|refine Z01 ?_|refine Z02 ?_|refine Z03 ?_|refine Z04 ?_|refine Z05 ?_|refine Z06 ?_|refine Z07 ?_|refine Z08 ?_|refine Z09 ?_|refine Z10 ?_|refine Z11 ?_|refine Z12 ?_|refine Z13 ?_|refine Z14 ?_|refine Z17 ?_|refine Z18 ?_|refine Z20 ?_|refine Z21 ?_|refine Z49 ?_|refine Z50 ?_|refine Z51 ?_|refine Z52 ?_|refine Z53 ?_|refine Z58 ?_|refine Z59 ?_)
  refine Ze1 fun _ hw => post_of hw SubW.nil ⟨?_, rfl⟩
  rw [decide_eq_false (fun h => ha h.1)]
theorem y_183 {a b : Prop} (k : b) (h : Rm b → a := by intro k;(first|refine Z01 ?_|refine Z02 ?_|refine Z03 ?_|refine Z04 ?_|refine Z05 ?_|refine Z06 ?_|refine Z07 ?_|refine Z08 ?_|refine Z09 ?_|refine Z10 ?_|refine Z11 ?_|refine Z12 ?_|refine Z13 ?_|refine Z14 ?_|refine Z17 ?_|refine Z18 ?_|refine Z19 ?_|refine Z24 ?_|refine Z25 ?_|refine Z26 ?_|refine Z27 ?_|refine Z28 ?_|refine Z29 ?_|refine Z30 ?_|refine Z31 ?_|refine Z32 ?_|refine Z49 ?_|refine Z50 ?_|refine Z51 ?_|refine Z52 ?_|refine Z53 ?_|refine Z54 ?_|refine Z67 ?_|refine Z77 ?_|refine Z78 ?_|refine Z79 ?_);exact k.h) : a := h ⟨k⟩
theorem y_184 {a b : Prop} (k : b) (h : Rm b → a := by intro k;refine st_eqGv (m := 6) (hr := geq_same _ _ _) (by rfl) (by rfl) (by rfl) (by kernel_rfl) (by rfl) (by rfl) (by rfl) (by rfl) (by rfl) (by rfl) (by rfl) (by rfl) (by rfl) (by rfl) (by rfl) (by kernel_rfl) (by rfl) (by rfl) (by rfl) (by rfl) (by rfl) (by rfl) (by rfl) (by rfl) (by rfl) (by rfl) (by kernel_rfl) (by simp; done) (by simp; done) (by simp; done) (by simp; done) (by simp; done) (by simp; done) (by simp; done) (by simp; done) (by rfl) ?_;exact k.h) : a := h ⟨k⟩
theorem y_255 {a b : Prop} (k : b) (h : Rm b → a := by intro k;(first|refine y_129 ?_|refine y_30 ?_|refine y_25 ?_|refine Z01 ?_|refine Z02 ?_|refine Z03 ?_|refine Z04 ?_|refine Z05 ?_|refine Z06 ?_|refine Z07 ?_|refine Z08 ?_|refine Z09 ?_|refine Z10 ?_|refine Z11 ?_|refine Z12 ?_|refine Z13 ?_|refine Z14 ?_|refine Z17 ?_|refine Z18 ?_|refine Z19 ?_|refine Z24 ?_|refine Z25 ?_|refine Z26 ?_|refine Z27 ?_|refine Z28 ?_|refine Z29 ?_|refine Z30 ?_|refine Z31 ?_|refine Z32 ?_|refine Z49 ?_|refine Z50 ?_|refine Z51 ?_|refine Z52 ?_|refine Z53 ?_|refine Z54 ?_|refine Z67 ?_|refine Z77 ?_|refine Z78 ?_|refine Z79 ?_);exact k.h) : a := h ⟨k⟩
set_option maxHeartbeats 8000000 in
theorem lawTells19_spec (s1 : Value) (m : List Nat) (hm : Lt 256 m) (m63 : m.length < 9223372036854775808) (s2 : Value) (d : List Nat) (hd : Lt 256 d) (d63 : d.length < 9223372036854775808) :
  Spec Tryz.prog 3 [s1, s2] (fun w => Rd w s1 (m.map (N .u8)) ∧ Rd w s2 (d.map (N .u8))) [] (IsV (.bool true)) := by
 refine mk_spec Tryz.func3 rfl rfl rfl fun w hr => ?_
 have hr1 := RdC.mk0 hr.1
 have hr2 := RdC.mk0 hr.2
 have hl0 := fun x => D_len 6 x
 have hle := fun x : F2 => E2_len x
 repeat (first|refine st_callV (by rfl) (by rfl) (by rfl) (awake19_spec) (fun _ _ => trivial) (by rfl) ?_|refine st_callV (by rfl) (by rfl) (by rfl) (few19_spec' s1 s2 m d m63 d63) (fun w hw => ⟨RdW.old hr1 w hw, RdW.old hr2 w hw⟩) (by rfl) ?_|refine y_183 ?_|refine Z82 fun _ => ?_)
 by_cases hfew : m.length ≤ 300 ∧ d.length ≤ 300
 case neg =>
  rw [decide_eq_false hfew]
  repeat (first|refine y_183 ?_|refine Z82 fun _ => ?_)
  refine Ze1 fun _ hw => post_of hw SubW.nil ⟨?_, rfl⟩
  rfl
 rw [decide_eq_true hfew]
 have hm5 : m.length < 1073741824 := by omega
 clear hfew
 by_cases hdst : d.length < 1 ∨ 255 < d.length
 ·have hb := hash_bad s1 s2 d hdst
  have hf := rhash_bad s1 s2 d hdst
  repeat (first|refine y_184 ?_|(refine y_125 ?_;intro _)|refine y_146 ?_|refine st_callV (by rfl) (by rfl) (by rfl) (hb) (RdW.old hr2) (by rfl) ?_|refine st_callV (by rfl) (by rfl) (by rfl) (hf) (RdW.old hr2) (by rfl) ?_|refine y_255 ?_|refine Z82 fun _ => ?_)
  refine Ze1 fun _ hw => post_of hw SubW.nil ⟨?_, rfl⟩
  rfl
 have hd1 : 1 ≤ d.length := by omega
 have hd2 : d.length ≤ 255 := by omega
 clear hdst
 have hh := hash_ok s1 s2 m d hm hd hm5 hd1 hd2
 have hk := rhash_ok s1 s2 m d hm hd hm5 hd1 hd2
 obtain ⟨x1, y1, i1, hq⟩ : ∃ x1 y1 i1, GV (send (hu m d 0) (hu m d 1)) = GE x1 y1 i1 := ⟨_, _, _, rfl⟩
 rw [hq] at hh hk
 repeat (first|refine y_184 ?_|(refine y_125 ?_;intro _)|refine y_146 ?_|refine st_callV (by rfl) (by rfl) (by rfl) (hh) (fun w hw => ⟨RdW.old hr1 w hw, RdW.old hr2 w hw⟩) (by rfl) ?_|refine st_callV (by rfl) (by rfl) (by rfl) (hk) (fun w hw => ⟨RdW.old hr1 w hw, RdW.old hr2 w hw⟩) (by rfl) ?_|refine y_255 ?_|refine Z82 fun _ => ?_)
 refine Ze1 fun _ hw => post_of hw SubW.nil ⟨?_, rfl⟩
 rfl
end Go.Proofs.YtbpmbdlgmmabcaaGreat.L
namespace Go.Proofs.YtbpmbdlgmmabcaaGreat.L
open Go Go.Proofs
variable {P : Program}
theorem slice_spot {w : World} {r : Reach} {base : Nat} {t e : TypeId} {a : Option Addr} {len cap : Nat} (ht : P.underlying t = some (.slice e)) (h : Value.okWide P w r base t (.slice a len cap)) :
  ∀ x, a = some x → x.spot = none := by
 intro x hx
 subst hx
 simp only [Value.okWide, ht, Cell.okWide, Cell.ok, World.has] at h
 exact h.2.2.2.1
theorem row_nat {k : IntKind} {m : Nat} (hk : ub k = some m) {w : World} {a : Option Addr} {len cap : Nat} {zs : List Int}
  (h : (a = none ∧ len = 0 ∧ cap = 0 ∧ zs = []) ∨
   ∃ x, a = some x ∧ len ≤ cap ∧ cap ≤ maxLen ∧ zs.length = cap ∧ (∀ i, i < zs.length → w.cell? (x.add i) = some (.int k (zs.getD i 0))) ∧ ∀ n ∈ zs, (Lit.int k n).wf = true)
  (hs : ∀ x, a = some x → x.spot = none) : ∃ bs : List Nat, Rd w (.slice a len cap) (bs.map (N k)) ∧ (∀ x ∈ bs, x < m) ∧ bs.length < 9223372036854775808 := by
 rcases h with ⟨rfl, rfl, rfl, rfl⟩ | ⟨x, rfl, h1, h2, h3, h4, h5⟩
 ·exact ⟨[], Rd.nil w, by simp, by decide⟩
 ·have hn : ∀ n ∈ zs, 0 ≤ n ∧ n < (m : Int) := by
   intro n hn
   have := h5 n hn
   cases k <;> simp [ub] at hk <;> subst hk <;> simp [Lit.wf, IntKind.min, IntKind.max, IntKind.signed, IntKind.bits] at this ⊢ <;> omega
  have hg : ∀ i, i < zs.length → Int.ofNat (zs.getD i 0).toNat = zs.getD i 0 := by
   intro i hi
   have : zs.getD i 0 ∈ zs := by simp [List.getD_eq_getElem?_getD, hi]
   have := hn _ this
   show (((zs.getD i 0).toNat : Nat) : Int) = _
   omega
  refine ⟨(zs.take len).map Int.toNat, ⟨⟨some x, cap, ?_, ?_, by simp, by simpa using hs⟩, ?_⟩, ?_, ?_⟩
  ·simp; omega
  ·simp; omega
  ·intro i v hv
   have hi : i < len ∧ i < zs.length := by
    have := (List.getElem?_eq_some_iff.mp hv).1
    simp at this; omega
   have e1 := h4 i hi.2
   rw [← hg i hi.2] at e1
   show w.cell? (x.add i) = _
   rw [e1]
   simp [hi.1, hi.2] at hv
   rw [← hv]
   simp [N, List.getD_eq_getElem?_getD, hi.2]
  ·intro y hy
   simp only [List.mem_map] at hy
   obtain ⟨n, hn', rfl⟩ := hy
   have := hn n (List.mem_of_mem_take hn')
   omega
  ·have : cap ≤ 2 ^ 63 - 1 := h2
   simp; omega
theorem post_bool {w w' : World} {e : Ending} (h : PostR (IsV (.bool true)) [] w e w') : e = .returned (.bool true) ∧ RowKit.Below w.heap.size w w' := by
 obtain ⟨v, Wout, ⟨rfl, _⟩, he, hx, _⟩ := h
 exact ⟨he, hx.below⟩
end Go.Proofs.YtbpmbdlgmmabcaaGreat.L
