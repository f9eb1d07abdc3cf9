/- What the proof of the statement about H2cTurns stands on, part E. Conditions: as each statement says. -/
import Derived.Test.YtbpmbdlgmmabcaaH2cTurnsD
import Derived.ProofKit
import Derived.Test.YtbpmbdlgmmabcaaProg
import Derived.WalkKit
namespace Go.Proofs.Ytbpmbdlgmmabcaa.L
open Go Go.Proofs
set_option maxRecDepth 100000
attribute [local irreducible] Code.wp wpList Af bodyPost L.Go
open Num
def kT : List Nat := [81, 85, 85, 88, 45, 86, 48, 49, 45, 67, 83, 48, 50, 45, 119, 105, 116, 104, 45, 66, 76, 83, 49, 50, 51, 56, 49, 71, 50, 95, 88, 77, 68, 58, 83, 72, 65, 45, 50, 53, 54, 95, 83, 83, 87, 85, 95, 82, 79, 95]
theorem kT_lt : Lt 256 kT := by unfold Lt kT; decide
theorem c0_eq : Kf.K2.neg (Kf.K2.mul bc (Kf.K2.inv ac)) = (k2 1267429692486861341248966778149702982909679559647352497021818409772610022655431990406851082557521626945333186310595 2734979862734806052168823047586201173647203260291655388310239726351421627835405874035836546571494037092561086249192) := by
 rw [Kf.K2.div_eq p_3 (x := Kf.K2.neg (k2 1267429692486861341248966778149702982909679559647352497021818409772610022655431990406851082557521626945333186310595 2734979862734806052168823047586201173647203260291655388310239726351421627835405874035836546571494037092561086249192)) ac_ne (by decide +kernel)]
 decide +kernel
theorem rootd_eq {g : Nat} {x y : F2} (hy : Kf.K2.mul y y = side x) (hs : Kf.K2.sgn y = g) : rootd g x = (y, true) := by
 have hq : Kf.K2.isq2 (side x) = true := (Kf.K2.isq2_iff p_3).2 ⟨y, hy⟩
 have h2 : (rootd g x).2 = true := by rw [rootd_2]; exact hq
 have hg : g < 2 := by rw [← hs]; exact Kf.K2.sgn_lt y
 have h1 := rootd_sq (g := g) hq
 have h3 := rootd_sgn hg hq (side_ne x)
 have e : Kf.K2.mul (Kf.K2.sub (rootd g x).1 y) (Kf.K2.add (rootd g x).1 y) = Kf.K2.zero := Kf.K2.sq_diff (h1.trans hy.symm)
 rcases Kf.K2.mul_zero_or p_3 e with e | e
 ·have e1 := Kf.K2.sub_zero_eq e
  exact Prod.ext e1 h2
 ·exfalso
  have e1 := Kf.K2.add_zero_neg e
  rw [e1, Kf.K2.sgn_flip p_3 (y_ne0 hy), hs] at h3
  omega
theorem mapP_cert {u x y t : F2} (ht : Kf.K2.mul t (tz (wz u)) = Kf.K2.one) (hx : x = Kf.K2.mul (k2 1267429692486861341248966778149702982909679559647352497021818409772610022655431990406851082557521626945333186310595 2734979862734806052168823047586201173647203260291655388310239726351421627835405874035836546571494037092561086249192) (Kf.K2.add Kf.K2.one t)) (hy : Kf.K2.mul y y = side x) (hs : Kf.K2.sgn y = Kf.K2.sgn u) : mapP u = (x, y) := by
 have h0 : ¬ tz (wz u) = Kf.K2.zero := fun e => by
  rw [e, Kf.K2.mul_zero2] at ht
  exact Kf.K2.one_ne2 p_3 ht.symm
 have hi : Kf.K2.inv (tz (wz u)) = t := by
  have := Kf.K2.div_eq p_3 h0 ht
  rwa [Kf.K2.one_mul'] at this
 have e1 := xone_0 (w := wz u) (t := tz (wz u)) rfl h0
 rw [hi, c0_eq, ← hx] at e1
 have e2 := rootd_eq hy hs
 have := mapP_1 (u := u) rfl e1.symm e2.symm rfl
 exact this
theorem phx_cert {x X : F2} (h0 : pol x Q2 ≠ Kf.K2.zero) (h : Kf.K2.mul X (pol x Q2) = pol x Q1) : phx x = X := Kf.K2.div_eq p_3 h0 h
theorem phy_cert {x y Y : F2} (h0 : pol x Q4 ≠ Kf.K2.zero) (h : Kf.K2.mul Y (pol x Q4) = Kf.K2.mul y (pol x Q3)) : phy x y = Y := by
 rw [phy, ← Kf.K2.mul_assoc']
 exact Kf.K2.div_eq p_3 h0 h
theorem stands_cert {S : Kf.K2.St} {P : Kf.K2.Pt p} {X Y : F2} (h : Kf.K2.Stands S P) (hz : Kf.K2.isz S.z = false) (hx : Kf.K2.mul X (Kf.K2.mul (Kf.K2.red p S.z) (Kf.K2.red p S.z)) = Kf.K2.red p S.x) (hy : Kf.K2.mul Y (Kf.K2.mul (Kf.K2.mul (Kf.K2.red p S.z) (Kf.K2.red p S.z)) (Kf.K2.red p S.z)) = Kf.K2.red p S.y) : P = some (X, Y) := by
 have z0 : Kf.K2.red p S.z ≠ Kf.K2.zero := fun e => by rw [(Kf.K2.isz_iff h.z).2 e] at hz; cases hz
 rw [← h.e, Kf.K2.jp_n z0]
 have hi := Kf.K2.inv_mul2 p_3 z0
 refine Kf.K2.some_pair ?_ ?_
 ·rw [Kf.K2.jx, ← hx]
  generalize Kf.K2.inv (Kf.K2.red p S.z) = i at hi
  generalize Kf.K2.red p S.z = z at hi
  exact Kf.K2.cert_x hi
 ·rw [Kf.K2.jy, ← hy]
  generalize Kf.K2.inv (Kf.K2.red p S.z) = i at hi
  generalize Kf.K2.red p S.z = z at hi
  exact Kf.K2.cert_y hi
def aU0 : F2 := (k2 593868448310005448561172252387029516360409945786457439875974315031640021389835649561235021338510064922970633805048 867375309489067512797459860887365951877054038763818448057326190302701649888849997836339069389536967202878289851290)
def aX0 : F2 := (k2 247000889425909073323253760662594248478519539052718751429094202182751397921429811614953873291195197910072700650892 3557179370195599083109501581838000826052321867195478666908439992121263526125384222649169667449608345548902519938077)
def aY0 : F2 := (k2 1789866621042807238102907475382506332034840965291028464945081245097279248221497616806901995510849528127582528143091 2261920060396917200558995605865363952988463533408187402812091326590595155556733986360256617149524560595567798206730)
theorem aM0 : mapP aU0 = ((k2 3942339120143403995959884458065911863622623490130179671696530864527894030375709350085997343451924840375271949093332 3523381697296058645143708860912139218718520142948191822158638626523448297128525915027995335789050238781038107799201), (k2 1842813153358560687634500333570189006426514559071004676715031705637331861897467026112259097700599015948196491964104 1919560373509329990190398196596248904228486898136222165059580822353869402983639316101175960854421770934878934628156)) := mapP_cert (t := (k2 1516481514946737989817691402502930166608728453590917569809237108048006962059989903273067253177416255699306394247410 1883201769330466065671958181559058082716285314217293419436581379803024778698693945944863852649598770086728047395995)) (by decide +kernel) (by decide +kernel) (by decide +kernel) (by decide +kernel)
theorem aS0 : sent aU0 = some (aX0, aY0) := by
 rw [sent, aM0]
 exact Kf.K2.some_pair (phx_cert (by decide +kernel) (by decide +kernel)) (phy_cert (by decide +kernel) (by decide +kernel))
def aU1 : F2 := (k2 457889704519948843474026022562641969443315715595459159112874498082953431971323809145630315884223143822925947137684 3132697209754082586339430915081913810572071485832539443682634025529375380328136128542015469873094481703191673087029)
def aX1 : F2 := (k2 2653316741049867356846339142779301820246227038474367602164293991028731662252487887055483099994673757855056102033598 3004540012464469496149443751502035824386563338581531881619960946487251912156763500062348703680303970725657264924210)
def aY1 : F2 := (k2 2436093761503339277710533452184041720241350573820092656898129088132931367043020801076222585008031239228777997258186 836535538336124528574557550904612322806859485510882466665227695209180661987073534533776044142505491651567017359628)
theorem aM1 : mapP aU1 = ((k2 1133312341110595205232359498620679734391514329429885310878552117098380600406185141389821276199340445849156426628096 2363721723854250884338572300341685530072160368677437549136086854319785634144151986552110912074825799079021304874889), (k2 2118805429048073078443247863779680561222250856781612015223057344889147526018767378659529981548751757045068950554072 1078123135037974527736698374119090217049035685701368399503148425326441759310804083797413869614596539324259578903443)) := mapP_cert (t := (k2 1221644787499537759389707874314907733265958153886478669368798400684096060258956443229136157537698125499892319689601 3745939490412463010995062332805027016761066959291460031786134864261167340089249978301062770010696175075576528609227)) (by decide +kernel) (by decide +kernel) (by decide +kernel) (by decide +kernel)
theorem aS1 : sent aU1 = some (aX1, aY1) := by
 rw [sent, aM1]
 exact Kf.K2.some_pair (phx_cert (by decide +kernel) (by decide +kernel)) (phy_cert (by decide +kernel) (by decide +kernel))
theorem aSum : Kf.K2.pa (sent aU0) (sent aU1) = some (Kf.K2.red p (3576151885263021554666466360124354942140430658677050297214825249193929326276001232684016772595994851360561464135332, 2821452142455083490153570410796418148166760451804282889064881665228653104709356527572157380768479422686350616979303), Kf.K2.red p (204426238800908771326099593274793100995261862686675333490147960949472289586605085902183772562124346335379785706955, 1180254684154351301219628970830457422655647890399642891246036584787950247155784104616427391263848867277680278603847)) := by
 rw [aS0, aS1]
 have hn : aX0 ≠ aX1 := by decide +kernel
 show (if aX0 = aX1 then _ else some (Kf.K2.cx (Kf.K2.chor aX0 aY0 aX1 aY1) aX0 aX1, Kf.K2.cy (Kf.K2.chor aX0 aY0 aX1 aY1) aX0 aY0 aX1)) = _
 rw [if_neg hn, show Kf.K2.chor aX0 aY0 aX1 aY1 = (k2 813407343316503122343618125947323733081000494002641918332160541389213006870747519354811795940129996079756878238568 932939667155273105386583493510855326449097869492041584584281924965215430616002529447181503234294049270605607533920) from Kf.K2.div_eq p_3 (by decide +kernel) (by decide +kernel)]
 exact Kf.K2.some_pair (by decide +kernel) (by decide +kernel)
def aRX : F2 := (k2 193548053368451749411421515628510806626565736652086807419354395577367693778571452628423727082668900187036482254730 891930009643099423308102777951250899694559203647724988361022851024990473423938537113948850338098230396747396259901)
def aRY : F2 := (k2 771717272055834152378281705972671257005357145478800908373659404991537354153455452961747174765859335819766715637138 2810310118582126634041133454180705304393079139103252956502404531123692847658283858246402311867775854528543237781718)
theorem hC_lt2 : V hC < 2 ^ 640 := by decide +kernel
theorem aSend : send aU0 aU1 = some (aRX, aRY) := by
 have ho : Kf.K2.Onc b2c (some (Kf.K2.red p (3576151885263021554666466360124354942140430658677050297214825249193929326276001232684016772595994851360561464135332, 2821452142455083490153570410796418148166760451804282889064881665228653104709356527572157380768479422686350616979303), Kf.K2.red p (204426238800908771326099593274793100995261862686675333490147960949472289586605085902183772562124346335379785706955, 1180254684154351301219628970830457422655647890399642891246036584787950247155784104616427391263848867277680278603847))) := by
  rw [← aSum]; exact Kf.K2.Onc_pa p_3 (sent_on _) (sent_on _)
 rw [send, aSum]
 exact stands_cert (Kf.K2.tim_jgo p_3 no2 (by unfold Kf.K2.ltP; decide +kernel) (by unfold Kf.K2.ltP; decide +kernel) ho hC_lt2 (by decide +kernel)) (by decide +kernel) (by decide +kernel) (by decide +kernel)
def xQ : List Nat := [76, 183, 123, 242, 216, 85, 172, 59, 49, 27, 155, 23, 12, 143, 253, 16, 109, 83, 179, 173, 153, 107, 116, 70, 250, 170, 25, 7, 61, 171, 143, 230, 67, 185, 189, 48, 231, 242, 250, 214, 22, 241, 42, 196, 47, 100, 89, 73, 189, 76, 195, 43, 1, 118, 43, 207, 152, 181, 155, 30, 213, 237, 104, 177, 125, 184, 30, 232, 61, 202, 77, 164, 37, 196, 108, 129, 99, 141, 58, 76, 25, 243, 17, 193, 250, 15, 53, 124, 96, 242, 120, 13, 88, 240, 101, 66, 36, 31, 70, 177, 4, 22, 219, 0, 209, 136, 82, 15, 68, 28, 103, 78, 78, 221, 208, 210, 143, 219, 112, 188, 12, 83, 110, 101, 194, 169, 2, 202, 209, 213, 108, 18, 206, 92, 175, 148, 109, 100, 1, 197, 86, 132, 26, 211, 146, 185, 4, 26, 24, 79, 129, 96, 45, 171, 77, 19, 194, 137, 242, 53, 174, 96, 17, 35, 161, 5, 157, 84, 147, 32, 87, 147, 237, 34, 79, 190, 105, 208, 194, 25, 221, 226, 109, 96, 37, 72, 7, 52, 52, 12, 14, 31, 68, 125, 217, 109, 234, 70, 187, 217, 207, 18, 92, 30, 155, 148, 124, 122, 199, 222, 40, 241, 10, 9, 245, 7, 153, 166, 215, 92, 81, 60, 22, 67, 74, 161, 153, 245, 73, 167, 81, 243, 210, 205, 112, 247, 205, 66, 235, 114, 235, 113, 230, 212, 28, 153, 172, 163, 80, 117, 224, 212, 127, 209, 218, 108]
theorem xQ_eq : xpand [] kT (128 * 2) = xQ := by decide +kernel
end Go.Proofs.Ytbpmbdlgmmabcaa.L
namespace Go.Proofs.Ytbpmbdlgmmabcaa.L
open Go Go.Proofs
set_option maxRecDepth 100000
attribute [local irreducible] Code.wp wpList Af bodyPost L.Go
open Num
attribute [local simp] D_len
section
variable {P : Program} {c : Cx} {n : Nat} {l : Sl} {W : List Res} {ops : Array Oper} {Q : Exit → Act → World → Prop} {rest : List Oper}
variable {d : Nat} {T : TypeId} {pos : String} {after : Array Edge}
theorem st_ldnG {x : Operand} {b off v : Nat} {ys : List Nat} {i : Bool} {E U : TypeId} {R : List Res} (hx : ev l x = some (pt b off)) (hf : Find W (.blk b (GL ys i) U) R) (hs : scal P E = true) (hv : ys[off]? = some v) (hn : Nat.blt d n = true)
  (hk : Go c n ((d, N .u64 v) :: l) W (wpList P ops Q rest)) : Go c n l W (wpList P ops Q (⟨some d, .load E x, T, pos, after, none⟩ :: rest)) :=
 st_val rfl rfl hn (fun a w ha hw => by
  have hh : w.heap[b]? = some (.cells (GL ys i).cells U (0, 0)) := hw.holds _ hf.mem
  rw [GL_cells] at hh
  have hlt : off < ys.length := (List.getElem?_eq_some_iff.1 hv).1
  have hc : w.cell? ⟨b, off, none⟩ = some (N .u64 v) := by
   rw [cell_of_row w b off _ U _ hh]
   rw [List.getElem?_toArray, List.getElem?_append_left (by simpa using hlt), List.getElem?_map, hv]; rfl
  simp [execOp, ha.ev hx, Instr.loadAt, Instr.sureAddr, run_loadVar_s hs hc]) hk
end
def hu (m d : List Nat) (i : Nat) : F2 := k2 (bval (((xpand m d (128 * 2)).drop (128 * i)).take 64)) (bval ((((xpand m d (128 * 2)).drop (128 * i)).take 128).drop 64))
theorem fel_hu (m d : List Nat) (i : Nat) : fel ((xpand m d (128 * 2)).drop (128 * i)) = E2 (hu m d i) := fel_def _
theorem sendE (x y : F2) : Spec Try.prog 50 [LV .u64 (E2 x), LV .u64 (E2 y)] NoPre [] (IsV (GV (send x y))) := by
 have := send_spec (val_lt x.re) (val_lt x.im) (val_lt y.re) (val_lt y.im); rwa [k2_val, k2_val] at this
set_option maxHeartbeats 8000000 in
theorem hash_ok (s1 s2 : Value) (m d : List Nat) (hm : Lt 256 m) (hd : Lt 256 d) (hl1 : m.length < 1073741824) (h1 : 1 ≤ d.length) (h2 : d.length ≤ 255) :
  Spec Try.prog 47 [s1, s2] (fun w => Rd w s1 (m.map (N .u8)) ∧ Rd w s2 (d.map (N .u8))) [] (IsV (.tuple [GV (send (hu m d 0) (hu m d 1)), N .i64 0].toArray)) := by
 refine mk_spec Try.func47 rfl rfl rfl fun w hr => ?_
 have hr1 := RdC.mk0 hr.1
 have hr2 := RdC.mk0 hr.2
 have hl0 := fun x => D_len 6 x
 have hle := fun x : F2 => E2_len x
 have hs := sendE (hu m d 0) (hu m d 1)
 have hfl : (((fels (xpand m d (128 * 2)) 2).flatten).map (N .u64)).length = 2 * 12 := by rw [List.length_map, fels_flat, fels_len]
 have g0 := fels_get (xpand m d (128 * 2)) (k := 2) (i := 0) (by decide)
 have g1 := fels_get (xpand m d (128 * 2)) (k := 2) (i := 1) (by decide)
 rw [fel_hu] at g0 g1
 have hE := fels_each (xpand m d (128 * 2)) 2
 obtain ⟨x1, y1, i1, hq⟩ : ∃ x1 y1 i1, GV (send (hu m d 0) (hu m d 1)) = GE x1 y1 i1 := ⟨_, _, _, rfl⟩
 rw [hq] at hs ⊢
 generalize hu m d 0 = u at *
 generalize hu m d 1 = v at *
 repeat (first|(refine y_92 ?_;intro _)|(refine st_call (by rfl) (by rfl) (by rfl) (fields_ok s1 s2 m d 2 hm hd hl1 h1 h2 (by decide) (by decide)) .nil (fun w hw => ⟨RdW.old hr1 w hw, RdW.old hr2 w hw⟩) (by rfl) ?_; rintro _ _ ⟨x, rfl, rfl⟩)|refine y_16 ?_|refine Z01 ?_|refine Z02 ?_|refine Z03 ?_|refine Z04 ?_|refine Z05 ?_|refine Z06 ?_|refine Z07 ?_|refine Z08 ?_|refine Z09 ?_|refine Z10 ?_|refine Z11 ?_|refine Z12 ?_|refine Z13 ?_|refine Z14 ?_|refine Z17 ?_|refine Z18 ?_|refine Z19 ?_|refine Z22 ?_|refine Z23 ?_|refine Z24 ?_|refine Z25 ?_|refine Z26 ?_|refine Z27 ?_|refine Z28 ?_|refine Z29 ?_|refine Z30 ?_|refine Z31 ?_|refine Z32 ?_|refine Z65 ?_|refine Z67 ?_|refine Z82 fun _ => ?_)
 generalize fels (xpand m d (128 * 2)) 2 = L at *
 refine R.st_perm [0, 1, 2, 3, 4, 5, 6, 7, 8] (by rfl) ?_
 repeat (first|(refine R.Zpf (by rfl) (by intro _ _ _;(first|refine Z01 ?_|refine Z02 ?_|refine Z17 ?_|refine Z18 ?_|refine Z19 ?_|refine Z22 ?_|refine Z23 ?_|refine Z65 ?_);exact Zq) ?_)|(refine R.Zpp (by rfl) (by intro _ _ _;(first|refine y_28 ?_);exact Zq) ?_)|(refine R.Zpp (by rfl) (by intro _ _ _;(refine st_ia_M (m := 12) (s := x) (i := 0) (k := 2) (kk := .i64) (by rfl) (by rfl) (by rfl) (by rfl) (RdW.own (by repeat first|apply Find.here|apply Find.there)) (by decide) hfl (by decide) (by rfl) ?_);exact Zq) ?_)|(refine R.Zpp (by rfl) (by intro _ _ _;(refine st_ia_M (m := 12) (s := x) (i := 1) (k := 2) (kk := .i64) (by rfl) (by rfl) (by rfl) (by rfl) (RdW.own (by repeat first|apply Find.here|apply Find.there)) (by decide) hfl (by decide) (by rfl) ?_);exact Zq) ?_)|(refine R.Zpp (by rfl) (by intro _ _ _;(refine st_load_M (m := 12) (s := wide 12 x) (i := 0) (by rfl) (by rfl) (by rfl) (RdW.own (by repeat first|apply Find.here|apply Find.there)) hE g0 (by decide) (by rfl) ?_);exact Zq) ?_)|(refine R.Zpp (by rfl) (by intro _ _ _;(refine st_load_M (m := 12) (s := wide 12 x) (i := 1) (by rfl) (by rfl) (by rfl) (RdW.own (by repeat first|apply Find.here|apply Find.there)) hE g1 (by decide) (by rfl) ?_);exact Zq) ?_)|refine y_59 hs ?_|refine y_180 ?_|(refine R.Zpn (by rfl) (by intro _ _ _;(first|refine Z82 fun _ => ?_);exact R.Zpx) fun _ => ?_)|refine R.Zpo (by rfl) ?_)
 refine R.Zp0 ?_
 repeat (first|refine Z01 ?_|refine Z02 ?_|refine Z03 ?_|refine Z04 ?_|refine Z05 ?_|refine Z06 ?_|refine Z07 ?_|refine Z08 ?_|refine Z09 ?_|refine Z10 ?_|refine Z11 ?_|refine Z12 ?_|refine Z13 ?_|refine Z14 ?_|refine Z17 ?_|refine Z18 ?_|refine Z19 ?_|refine Z22 ?_|refine Z23 ?_|refine Z24 ?_|refine Z25 ?_|refine Z26 ?_|refine Z27 ?_|refine Z28 ?_|refine Z29 ?_|refine Z30 ?_|refine Z31 ?_|refine Z32 ?_|refine Z65 ?_|refine Z67 ?_|refine Z82 fun _ => ?_)
 refine st_endc2_GL (m := 24) (by rfl) (by rfl) (by rfl) (by repeat first|apply Find.here|apply Find.there) (by rfl) (by rfl) (by first|with_reducible assumption|simp) fun _ hw => post_of hw SubW.nil ⟨?_, rfl⟩
 rfl
theorem hash_bad (s1 s2 : Value) (d : List Nat) (h : d.length < 1 ∨ 255 < d.length) :
  Spec Try.prog 47 [s1, s2] (fun w => Rd w s2 (d.map (N .u8))) [] (IsV (.tuple [GE Kf.K2.zero Kf.K2.zero false, N .i64 170].toArray)) := by
 refine mk_spec Try.func47 rfl rfl rfl fun w hr => ?_
 have hr2 := RdC.mk0 hr
 have hf := fields_bad s1 s2 d 2 256 170 (by decide) (xexpand_dst s1 s2 d 256 h)
 repeat (first|(refine y_92 ?_;intro _)|refine st_callV (by rfl) (by rfl) (by rfl) (hf) (RdW.old hr2) (by rfl) ?_|(refine st_build0G (t := 38) (m := 24) (by rfl) (by rfl) (by kernel_rfl) (by rfl) ?_; rw [zero24])|refine y_96 ?_|refine y_20 ?_|refine Z01 ?_|refine Z02 ?_|refine Z03 ?_|refine Z04 ?_|refine Z05 ?_|refine Z06 ?_|refine Z07 ?_|refine Z08 ?_|refine Z09 ?_|refine Z10 ?_|refine Z11 ?_|refine Z12 ?_|refine Z13 ?_|refine Z14 ?_|refine Z17 ?_|refine Z18 ?_|refine Z19 ?_|refine Z22 ?_|refine Z23 ?_|refine Z24 ?_|refine Z25 ?_|refine Z26 ?_|refine Z27 ?_|refine Z28 ?_|refine Z29 ?_|refine Z30 ?_|refine Z31 ?_|refine Z32 ?_|refine Z65 ?_|refine Z67 ?_|refine Z82 fun _ => ?_)
 refine st_endc2_GL (m := 24) (by rfl) (by rfl) (by rfl) (by repeat first|apply Find.here|apply Find.there) (by rfl) (by rfl) (by first|with_reducible assumption|simp) fun _ hw => post_of hw SubW.nil ⟨?_, rfl⟩
 rfl
theorem hu0_eq : hu [] kT 0 = aU0 := by unfold hu; rw [xQ_eq]; decide +kernel
theorem hu1_eq : hu [] kT 1 = aU1 := by unfold hu; rw [xQ_eq]; decide +kernel
theorem aw_w0 : (E2 aRX ++ E2 aRY)[0]? = some 6022433060188829578 := by decide +kernel
theorem aw_w5 : (E2 aRX ++ E2 aRY)[5]? = some 90612934495178424 := by decide +kernel
set_option maxHeartbeats 4000000 in
theorem awake19_spec : Spec Try.prog 45 [] NoPre [] (IsV (.bool true)) := by
 refine mk_spec Try.func45 rfl rfl rfl fun w hr => ?_
 have hl0 := fun x => D_len 6 x
 have hle := fun x : F2 => E2_len x
 have h1 := fun s => hash_ok (.slice none 0 0) s [] kT (fun x hx => by cases hx) kT_lt (by simp) (by simp [kT]) (by simp [kT])
 rw [hu0_eq, hu1_eq, aSend, GV_some] at h1
 have h2 := hash_bad (.slice none 0 0) (.slice none 0 0) [] (.inl (by decide))
 have w0 := aw_w0
 have w5 := aw_w5
 generalize aRX = x at *
 generalize aRY = y at *
 repeat (first|(refine y_92 ?_;intro _)|refine st_buildSliceN (vs := kT) (kk := .u8) (by rfl) (by rfl) (by rfl) (by rfl) (by rfl) (by rfl) (by rfl) (by rfl) fun _ => ?_|refine st_conv_sl (xs := kT.map (N .u8)) (by rfl) (by repeat first|apply Find.here|apply Find.there) (by simp [kT]) (by rfl) (by rfl) (by rfl) ?_|refine st_callV (by rfl) (by rfl) (by rfl) (h1 _) (fun w hw => ⟨RdW.nil w hw, RdW.own (by repeat first|apply Find.here|apply Find.there) w hw⟩) (by rfl) ?_|refine st_callV (by rfl) (by rfl) (by rfl) (h2) (RdW.nil) (by rfl) ?_|refine y_96 ?_|refine y_54 ?_|refine y_64 ?_|refine st_ia_arr (i := 0) (k := .i64) (by rfl) (by rfl) (by rfl) (by rfl) (by decide) (by rfl) ?_|refine st_ia_arr (i := 5) (k := .i64) (by rfl) (by rfl) (by rfl) (by rfl) (by decide) (by rfl) ?_|refine st_ldnG (by rfl) (by repeat first|apply Find.here|apply Find.there) (by rfl) w0 (by rfl) ?_|refine st_ldnG (by rfl) (by repeat first|apply Find.here|apply Find.there) (by rfl) w5 (by rfl) ?_|refine st_shr (by rfl) (by rfl) (by decide) (by rfl) ?_|refine Z01 ?_|refine Z02 ?_|refine Z03 ?_|refine Z04 ?_|refine Z05 ?_|refine Z06 ?_|refine Z07 ?_|refine Z08 ?_|refine Z09 ?_|refine Z10 ?_|refine Z11 ?_|refine Z12 ?_|refine Z13 ?_|refine Z14 ?_|refine Z17 ?_|refine Z18 ?_|refine Z19 ?_|refine Z22 ?_|refine Z23 ?_|refine Z24 ?_|refine Z25 ?_|refine Z26 ?_|refine Z27 ?_|refine Z28 ?_|refine Z29 ?_|refine Z30 ?_|refine Z31 ?_|refine Z32 ?_|refine Z40 ?_|refine Z42 ?_|refine Z44 ?_|refine Z45 ?_|refine Z49 ?_|refine Z50 ?_|refine Z51 ?_|refine Z52 ?_|refine Z53 ?_|refine Z67 ?_|refine Z74 ?_|refine Z80 ?_|refine Z82 fun _ => ?_|refine Z85 fun _ => ?_)
 refine Ze1 fun _ hw => post_of hw SubW.nil ⟨?_, rfl⟩
 rfl
end Go.Proofs.Ytbpmbdlgmmabcaa.L
namespace Go.Proofs.Ytbpmbdlgmmabcaa.L.Pr
set_option maxRecDepth 100000
theorem prime_13 : Prime 13 := small 2 (by decide +kernel)
theorem prime_23 : Prime 23 := small 2 (by decide +kernel)
theorem prime_2713 : Prime 2713 := small 6 (by decide +kernel)
theorem prime_11953 : Prime 11953 := small 7 (by decide +kernel)
theorem prime_262069 : Prime 262069 := small 9 (by decide +kernel)
theorem prime_1367711 : Prime 1367711 := small 11 (by decide +kernel)
theorem prime_541 : Prime 541 := small 5 (by decide +kernel)
theorem prime_n8 : Prime 12192593745179 := pock (f := 44) [(1367711, 0, 2), (541, 0, 2)] (by
 intro x hx
 simp only [List.mem_cons, List.not_mem_nil, or_false] at hx
 rcases hx with rfl | rfl
 ·exact prime_1367711
 ·exact prime_541) (by decide +kernel)
theorem prime_n9 : Prime 512088937297519 := pock (f := 49) [(12192593745179, 0, 2)] (by
 intro x hx
 simp only [List.mem_cons, List.not_mem_nil, or_false] at hx
 rcases hx with rfl
 ·exact prime_n8) (by decide +kernel)
theorem prime_n10 : Prime 1857858664515398933 := pock (f := 61) [(512088937297519, 0, 2)] (by
 intro x hx
 simp only [List.mem_cons, List.not_mem_nil, or_false] at hx
 rcases hx with rfl
 ·exact prime_n9) (by decide +kernel)
theorem prime_n11 : Prime 22294303974184787197 := pock (f := 65) [(1857858664515398933, 0, 2)] (by
 intro x hx
 simp only [List.mem_cons, List.not_mem_nil, or_false] at hx
 rcases hx with rfl
 ·exact prime_n10) (by decide +kernel)
theorem prime_n12 : Prime 19931107752921199754119 := pock (f := 75) [(22294303974184787197, 0, 2)] (by
 intro x hx
 simp only [List.mem_cons, List.not_mem_nil, or_false] at hx
 rcases hx with rfl
 ·exact prime_n11) (by decide +kernel)
theorem prime_n13 : Prime 81162125843606155545104998607900118769099783 := pock (f := 146) [(19931107752921199754119, 0, 2)] (by
 intro x hx
 simp only [List.mem_cons, List.not_mem_nil, or_false] at hx
 rcases hx with rfl
 ·exact prime_n12) (by decide +kernel)
theorem prime_n14 : Prime 26935696298915610574513298451669528361624243820491956655650666425177 := pock (f := 224) [(81162125843606155545104998607900118769099783, 0, 2)] (by
 intro x hx
 simp only [List.mem_cons, List.not_mem_nil, or_false] at hx
 rcases hx with rfl
 ·exact prime_n13) (by decide +kernel)
theorem prime_n15 : Prime 4638704574076146691498289350639807119782054683906549022985642612861209609656189848749536921852444848596916990932297 := pock (f := 381) [(26935696298915610574513298451669528361624243820491956655650666425177, 0, 2)] (by
 intro x hx
 simp only [List.mem_cons, List.not_mem_nil, or_false] at hx
 rcases hx with rfl
 ·exact prime_n14) (by decide +kernel)
theorem prime_c : Prime 402096035359507321594726366720466575392706800671181159425656785868777272553337714697862511267018014931937703598282857976535744623203249 := pock (f := 448) [(4638704574076146691498289350639807119782054683906549022985642612861209609656189848749536921852444848596916990932297, 0, 2)] (by
 intro x hx
 simp only [List.mem_cons, List.not_mem_nil, or_false] at hx
 rcases hx with rfl
 ·exact prime_n15) (by decide +kernel)
end Go.Proofs.Ytbpmbdlgmmabcaa.L.Pr
namespace Go.Proofs.Ytbpmbdlgmmabcaa.L
open Go Go.Proofs
set_option maxRecDepth 100000
attribute [local irreducible] Code.wp wpList Af bodyPost L.Go
open Num
theorem ne_tim {S : Kf.K2.St} {P : Kf.K2.Pt p} {x : Kf.K2.PN} {y : F2} (h : Kf.K2.Stands S P) (hd : (Kf.K2.isz S.z || !Kf.K2.isz (Kf.K2.plH p S x)) = true) : (some (Kf.K2.red p x, y) : Kf.K2.Pt p) ≠ P := by
 intro e
 have hz : Kf.K2.isz S.z = false := by
  cases hz : Kf.K2.isz S.z with
  | false => rfl
  | true => rw [h.none_iff.1 hz] at e; cases e
 rw [hz, Bool.false_or] at hd
 have z0 : Kf.K2.red p S.z ≠ Kf.K2.zero := fun e => by rw [(Kf.K2.isz_iff h.z).2 e] at hz; cases hz
 rw [← h.e, Kf.K2.jp_n z0] at e
 have e1 : Kf.K2.red p x = Kf.K2.jx (Kf.K2.red p S.x) (Kf.K2.red p S.z) := congrArg (fun o : Kf.K2.Pt p => match o with | none => Kf.K2.zero | some q => q.1) e
 have hi := (Kf.K2.mul_inv2 p_3 z0).trans Kf.K2.ofZ_1.symm
 have e2 := Kf.K2.pl_h0 hi e1.symm
 have hn := Nat.dvd_refl p
 have h0 := p_pos
 have e3 : Kf.K2.red p (Kf.K2.plH p S x) = Kf.K2.zero := by
  rw [← e2]
  simp only [Kf.K2.plH, Kf.K2.red_sub hn h0, Kf.K2.red_mul hn h0, Kf.K2.pH]
 have e4 := (Kf.K2.isz_iff (Kf.K2.lt_sub h0 _ _)).2 e3
 rw [show Kf.K2.subP p (Kf.K2.mulP p x (Kf.K2.mulP p S.z S.z)) S.x = Kf.K2.plH p S x from rfl] at e4
 rw [e4] at hd
 cases hd
theorem ne_all {a b x : Kf.K2.PN} {y : F2} {l f : Nat} (ha : Kf.K2.ltP p a) (hb : Kf.K2.ltP p b) (ho : Kf.K2.Onc b2c (some (Kf.K2.red p a, Kf.K2.red p b))) (hl : l ≤ 2 ^ f)
  (h : (List.range l).all (fun i => (Kf.K2.jgo p a b i f Kf.K2.nilS).g && (Kf.K2.isz (Kf.K2.jgo p a b i f Kf.K2.nilS).z || !Kf.K2.isz (Kf.K2.plH p (Kf.K2.jgo p a b i f Kf.K2.nilS) x))) = true) :
  ∀ i, i < l → (some (Kf.K2.red p x, y) : Kf.K2.Pt p) ≠ Kf.K2.tim (some (Kf.K2.red p a, Kf.K2.red p b)) i := by
 intro i hi
 have := List.all_eq_true.1 h i (List.mem_range.2 hi)
 rw [Bool.and_eq_true] at this
 exact ne_tim (Kf.K2.tim_jgo p_3 no2 ha hb ho (Nat.lt_of_lt_of_le hi hl) this.1) this.2
theorem nil_tim {a b : Kf.K2.PN} {l f : Nat} (ha : Kf.K2.ltP p a) (hb : Kf.K2.ltP p b) (ho : Kf.K2.Onc b2c (some (Kf.K2.red p a, Kf.K2.red p b))) (hl : l < 2 ^ f)
  (h : ((Kf.K2.jgo p a b l f Kf.K2.nilS).g && Kf.K2.isz (Kf.K2.jgo p a b l f Kf.K2.nilS).z) = true) : Kf.K2.tim (some (Kf.K2.red p a, Kf.K2.red p b)) l = none := by
 rw [Bool.and_eq_true] at h
 exact (Kf.K2.tim_jgo p_3 no2 ha hb ho hl h.1).none_iff.1 h.2
def e0x : Kf.K2.PN := (2732930528131101971611217246881750180683106134772116261772097223311611715341772080980349520485631927061565093082500, 1624804182323061415002419486356893015843508388518757766191076390287001054493882962454462225453782815125112967330584)
def e0y : Kf.K2.PN := (3893467846353003864083661299790087060260354055047221126513507759929187214484574158304677596688901387144120631851774, 2873576094645233262270805484403102892230821419438861944784945239971798137977557654440842298211373996744583467941995)
theorem e0_lx : Kf.K2.ltP p e0x := by unfold Kf.K2.ltP; decide +kernel
theorem e0_ly : Kf.K2.ltP p e0y := by unfold Kf.K2.ltP; decide +kernel
theorem e0_on : Kf.K2.Onc b2c (some (Kf.K2.red p e0x, Kf.K2.red p e0y)) := show Kf.K2.mul (Kf.K2.red p e0y) (Kf.K2.red p e0y) = Kf.K2.add (Kf.K2.mul (Kf.K2.mul (Kf.K2.red p e0x) (Kf.K2.red p e0x)) (Kf.K2.red p e0x)) b2c by decide +kernel
theorem e0_0 : Kf.K2.tim (some (Kf.K2.red p e0x, Kf.K2.red p e0y)) 2713 = none := nil_tim (f := 12) e0_lx e0_ly e0_on (by decide +kernel) (by decide +kernel)
def e1x : Kf.K2.PN := (1854247552200671796290762094682081485062549137983414518419843264824777516848488982835075644141168762016099863964496, 2453262726586132397845514920992038643697890559672297260083862336800848889493047522898371412514810404361560560182806)
def e1y : Kf.K2.PN := (631050874728479091129663852256436773847489913836429807617462696769036715252939950774471986733361765681933794962003, 3319851878711540555087758712995160246069763043719470346209582337524366152400752646724264963790353006193191809034212)
theorem e1_lx : Kf.K2.ltP p e1x := by unfold Kf.K2.ltP; decide +kernel
theorem e1_ly : Kf.K2.ltP p e1y := by unfold Kf.K2.ltP; decide +kernel
theorem e1_on : Kf.K2.Onc b2c (some (Kf.K2.red p e1x, Kf.K2.red p e1y)) := show Kf.K2.mul (Kf.K2.red p e1y) (Kf.K2.red p e1y) = Kf.K2.add (Kf.K2.mul (Kf.K2.mul (Kf.K2.red p e1x) (Kf.K2.red p e1x)) (Kf.K2.red p e1x)) b2c by decide +kernel
theorem e1_0 : Kf.K2.tim (some (Kf.K2.red p e1x, Kf.K2.red p e1y)) 11953 = none := nil_tim (f := 14) e1_lx e1_ly e1_on (by decide +kernel) (by decide +kernel)
def e2x : Kf.K2.PN := (3585882940940123013268656861893695144087016218084638877734548085628496539673708874517800297462173798022978434573316, 3249695541147246801462394281019803944823620003741077476887539079277689246216854906768188995244707190556741090520591)
def e2y : Kf.K2.PN := (1351827535497653296159023728595899920703594823441352227036821938812534411340809485437529542203114709240362216682344, 2134882000594129960028861217504277504257556173374576646915278154221857029512890132494487016649875117503216456548496)
theorem e2_lx : Kf.K2.ltP p e2x := by unfold Kf.K2.ltP; decide +kernel
theorem e2_ly : Kf.K2.ltP p e2y := by unfold Kf.K2.ltP; decide +kernel
theorem e2_on : Kf.K2.Onc b2c (some (Kf.K2.red p e2x, Kf.K2.red p e2y)) := show Kf.K2.mul (Kf.K2.red p e2y) (Kf.K2.red p e2y) = Kf.K2.add (Kf.K2.mul (Kf.K2.mul (Kf.K2.red p e2x) (Kf.K2.red p e2x)) (Kf.K2.red p e2x)) b2c by decide +kernel
theorem e2_0 : Kf.K2.tim (some (Kf.K2.red p e2x, Kf.K2.red p e2y)) 262069 = none := nil_tim (f := 18) e2_lx e2_ly e2_on (by decide +kernel) (by decide +kernel)
def e3x : Kf.K2.PN := (221936139291288489439513367527481495057882256099240953159569289799120704596728113827679483911795605698084286051573, 3415555305535896194370153360405012379594754145007175298728826366042527546586477148490156050006251723613414992878937)
def e3y : Kf.K2.PN := (3077596325830596161068317882852825580913622505477201261085323465694381487244631311082363101032370366548699883569914, 951286233704538839119986282443269760452142569860253286581374505157382986650620546008451758486869596980584371380856)
theorem e3_lx : Kf.K2.ltP p e3x := by unfold Kf.K2.ltP; decide +kernel
theorem e3_ly : Kf.K2.ltP p e3y := by unfold Kf.K2.ltP; decide +kernel
theorem e3_on : Kf.K2.Onc b2c (some (Kf.K2.red p e3x, Kf.K2.red p e3y)) := show Kf.K2.mul (Kf.K2.red p e3y) (Kf.K2.red p e3y) = Kf.K2.add (Kf.K2.mul (Kf.K2.mul (Kf.K2.red p e3x) (Kf.K2.red p e3x)) (Kf.K2.red p e3x)) b2c by decide +kernel
theorem e3_0 : Kf.K2.tim (some (Kf.K2.red p e3x, Kf.K2.red p e3y)) 402096035359507321594726366720466575392706800671181159425656785868777272553337714697862511267018014931937703598282857976535744623203249 = none := nil_tim (f := 448) e3_lx e3_ly e3_on (by decide +kernel) (by decide +kernel)
def e4x : Kf.K2.PN := (3724786844502180167891558729416129449000115420642389737248204246659523970410542797357533898368708494837061665677680, 1141335301852042111109904309412722578402802990019776025308351928836484500914601819891608123758423149595378570951794)
def e4y : Kf.K2.PN := (3659199057390176532242870202066124952884786772473267866939750082073367303377577444236085326897248847277067207759400, 1458838372592766091508702817080480380647037193169483027221674853013145380294636776981066911163277917352681107466967)
theorem e4_lx : Kf.K2.ltP p e4x := by unfold Kf.K2.ltP; decide +kernel
theorem e4_ly : Kf.K2.ltP p e4y := by unfold Kf.K2.ltP; decide +kernel
theorem e4_on : Kf.K2.Onc b2c (some (Kf.K2.red p e4x, Kf.K2.red p e4y)) := show Kf.K2.mul (Kf.K2.red p e4y) (Kf.K2.red p e4y) = Kf.K2.add (Kf.K2.mul (Kf.K2.mul (Kf.K2.red p e4x) (Kf.K2.red p e4x)) (Kf.K2.red p e4x)) b2c by decide +kernel
theorem e4_0 : Kf.K2.tim (some (Kf.K2.red p e4x, Kf.K2.red p e4y)) 52435875175126190479447740508185965837690552500527637822603658699938581184513 = none := nil_tim (f := 255) e4_lx e4_ly e4_on (by decide +kernel) (by decide +kernel)
def f13x : Kf.K2.PN := (249367334142669963646324981136200765326260363708790066858131337966551089777386290072409819006724137548003034317840, 630214770544375407070343935183851022115778996321952592597513998296250362306921804284466551526689698439285130190803)
def f13y : Kf.K2.PN := (3255931259487654311761675973442790385748961685389911941626630586830515265085259697684420727150124840128609202119395, 3805088508598071439828456387093867998299269280435293096449769375317715796189840460067869641218405040002254200256628)
theorem f13_lx : Kf.K2.ltP p f13x := by unfold Kf.K2.ltP; decide +kernel
theorem f13_ly : Kf.K2.ltP p f13y := by unfold Kf.K2.ltP; decide +kernel
theorem f13_on : Kf.K2.Onc b2c (some (Kf.K2.red p f13x, Kf.K2.red p f13y)) := show Kf.K2.mul (Kf.K2.red p f13y) (Kf.K2.red p f13y) = Kf.K2.add (Kf.K2.mul (Kf.K2.mul (Kf.K2.red p f13x) (Kf.K2.red p f13x)) (Kf.K2.red p f13x)) b2c by decide +kernel
theorem f13_0 : Kf.K2.tim (some (Kf.K2.red p f13x, Kf.K2.red p f13y)) 13 = none := nil_tim (f := 4) f13_lx f13_ly f13_on (by decide +kernel) (by decide +kernel)
def g13x : Kf.K2.PN := (3302811696236693048817432710937200207154146062888472244124401231088541568825880779436480055488906969507825521497988, 2159161761998572029827115715135251648516413537530764144546098409415901214338605707709859368308445700024446995204964)
def g13y : Kf.K2.PN := (918272763181459299777785049801485251739425764325067183332904369815332912808088109486288125688779618627172051883901, 1520342217214845708397311524493951876842629938360259965595483298367599583510590171163992542460916921937176980633828)
theorem g13_lx : Kf.K2.ltP p g13x := by unfold Kf.K2.ltP; decide +kernel
theorem g13_ly : Kf.K2.ltP p g13y := by unfold Kf.K2.ltP; decide +kernel
theorem g13_on : Kf.K2.Onc b2c (some (Kf.K2.red p g13x, Kf.K2.red p g13y)) := show Kf.K2.mul (Kf.K2.red p g13y) (Kf.K2.red p g13y) = Kf.K2.add (Kf.K2.mul (Kf.K2.mul (Kf.K2.red p g13x) (Kf.K2.red p g13x)) (Kf.K2.red p g13x)) b2c by decide +kernel
theorem g13_0 : Kf.K2.tim (some (Kf.K2.red p g13x, Kf.K2.red p g13y)) 13 = none := nil_tim (f := 4) g13_lx g13_ly g13_on (by decide +kernel) (by decide +kernel)
def f23x : Kf.K2.PN := (2100989141674736290334623335377785686341226648588822499472792282048962536451111251404132830159345397652384226341187, 3840522637552796655335982991642318043474496655907274714563720532856438633635476919160308843927093044748568693045924)
def f23y : Kf.K2.PN := (199154094337164924625675979139541069878298196429898264448916972753328318735204784864697614111604578469428835674533, 1275072922746497953683575457784634997213136127181158649310296974027492714454889277511457129178967738291649294335720)
theorem f23_lx : Kf.K2.ltP p f23x := by unfold Kf.K2.ltP; decide +kernel
theorem f23_ly : Kf.K2.ltP p f23y := by unfold Kf.K2.ltP; decide +kernel
theorem f23_on : Kf.K2.Onc b2c (some (Kf.K2.red p f23x, Kf.K2.red p f23y)) := show Kf.K2.mul (Kf.K2.red p f23y) (Kf.K2.red p f23y) = Kf.K2.add (Kf.K2.mul (Kf.K2.mul (Kf.K2.red p f23x) (Kf.K2.red p f23x)) (Kf.K2.red p f23x)) b2c by decide +kernel
theorem f23_0 : Kf.K2.tim (some (Kf.K2.red p f23x, Kf.K2.red p f23y)) 23 = none := nil_tim (f := 5) f23_lx f23_ly f23_on (by decide +kernel) (by decide +kernel)
def g23x : Kf.K2.PN := (1958017204391899394539162206591781961608870984938316392030853326152268775835027896430372983811689995677676747072868, 1850899225844837626114930600540447784016769379102227377138527684896245565298183789770612318797852436809847033533128)
def g23y : Kf.K2.PN := (453219839902191911911834952005864423867881091105845164171390316115950752220286130881322572399315885808516372185458, 2884609588929288605226694121021975550067649551179596463553381328192507286764160491648258213571772038164332954648007)
theorem g23_lx : Kf.K2.ltP p g23x := by unfold Kf.K2.ltP; decide +kernel
theorem g23_ly : Kf.K2.ltP p g23y := by unfold Kf.K2.ltP; decide +kernel
theorem g23_on : Kf.K2.Onc b2c (some (Kf.K2.red p g23x, Kf.K2.red p g23y)) := show Kf.K2.mul (Kf.K2.red p g23y) (Kf.K2.red p g23y) = Kf.K2.add (Kf.K2.mul (Kf.K2.mul (Kf.K2.red p g23x) (Kf.K2.red p g23x)) (Kf.K2.red p g23x)) b2c by decide +kernel
theorem g23_0 : Kf.K2.tim (some (Kf.K2.red p g23x, Kf.K2.red p g23y)) 23 = none := nil_tim (f := 5) g23_lx g23_ly g23_on (by decide +kernel) (by decide +kernel)
theorem pts_dvd (L : List (Kf.K2.Cu b2c)) (hL : Pr.AG.All L) : 16019282247729705411943748644318972617695120099330552659862384536985976748491357143400656079302193429974954385540174732940659106207100323726025938325193045129788127168347624263893040187112659960846674086295148469572963088890738917 ∣ L.length := by
 have h0 : 2713 ∣ L.length := Kf.K2.pt_dvd p_3 no2 e0_on (by intro h; cases h) Pr.prime_2713 e0_0 L hL
 have h1 : 11953 ∣ L.length := Kf.K2.pt_dvd p_3 no2 e1_on (by intro h; cases h) Pr.prime_11953 e1_0 L hL
 have k1 : 32428489 ∣ L.length := by
  have := Nat.Coprime.mul_dvd_of_dvd_of_dvd (show Nat.Coprime 2713 11953 by decide +kernel) h0 h1
  rwa [show 2713 * 11953 = 32428489 by decide +kernel] at this
 have h2 : 262069 ∣ L.length := Kf.K2.pt_dvd p_3 no2 e2_on (by intro h; cases h) Pr.prime_262069 e2_0 L hL
 have k2 : 8498501683741 ∣ L.length := by
  have := Nat.Coprime.mul_dvd_of_dvd_of_dvd (show Nat.Coprime 32428489 262069 by decide +kernel) k1 h2
  rwa [show 32428489 * 262069 = 8498501683741 by decide +kernel] at this
 have h3 : 402096035359507321594726366720466575392706800671181159425656785868777272553337714697862511267018014931937703598282857976535744623203249 ∣ L.length := Kf.K2.pt_dvd p_3 no2 e3_on (by intro h; cases h) Pr.prime_c e3_0 L hL
 have k3 : 3417213833528353644824999196800052619260030863795574352274180747220585946275454234589181635096475183139252053545727862789966597950563999243361674509 ∣ L.length := by
  have := Nat.Coprime.mul_dvd_of_dvd_of_dvd (show Nat.Coprime 8498501683741 402096035359507321594726366720466575392706800671181159425656785868777272553337714697862511267018014931937703598282857976535744623203249 by decide +kernel) k2 h3
  rwa [show 8498501683741 * 402096035359507321594726366720466575392706800671181159425656785868777272553337714697862511267018014931937703598282857976535744623203249 = 3417213833528353644824999196800052619260030863795574352274180747220585946275454234589181635096475183139252053545727862789966597950563999243361674509 by decide +kernel] at this
 have h4 : 52435875175126190479447740508185965837690552500527637822603658699938581184513 ∣ L.length := Kf.K2.pt_dvd p_3 no2 e4_on (by intro h; cases h) Pr.prime_r e4_0 L hL
 have k4 : 179184598021607201395328336867808778623227034365729160298681049842686063338121018147455353735441364525843719707164066765927216767229676667218777623574602578604133367281659313250333219842201540931831568844813240003724377679117 ∣ L.length := by
  have := Nat.Coprime.mul_dvd_of_dvd_of_dvd (show Nat.Coprime 3417213833528353644824999196800052619260030863795574352274180747220585946275454234589181635096475183139252053545727862789966597950563999243361674509 52435875175126190479447740508185965837690552500527637822603658699938581184513 by decide +kernel) k3 h4
  rwa [show 3417213833528353644824999196800052619260030863795574352274180747220585946275454234589181635096475183139252053545727862789966597950563999243361674509 * 52435875175126190479447740508185965837690552500527637822603658699938581184513 = 179184598021607201395328336867808778623227034365729160298681049842686063338121018147455353735441364525843719707164066765927216767229676667218777623574602578604133367281659313250333219842201540931831568844813240003724377679117 by decide +kernel] at this
 have h5 : 169 ∣ L.length := Kf.K2.pt_dvd2 p_3 no2 f13_on g13_on (by intro h; cases h) Pr.prime_13 f13_0 g13_0 (ne_all (f := 4) f13_lx f13_ly f13_on (by decide) (by decide +kernel)) L hL
 have k5 : 30282197065651617035810488930659683587325368807808228090477097423413944704142452066919954781289590604867588630510727283441699633661815356759973418384107835784098539070600423939306314153332060417479535134773437560629419827770773 ∣ L.length := by
  have := Nat.Coprime.mul_dvd_of_dvd_of_dvd (show Nat.Coprime 179184598021607201395328336867808778623227034365729160298681049842686063338121018147455353735441364525843719707164066765927216767229676667218777623574602578604133367281659313250333219842201540931831568844813240003724377679117 169 by decide +kernel) k4 h5
  rwa [show 179184598021607201395328336867808778623227034365729160298681049842686063338121018147455353735441364525843719707164066765927216767229676667218777623574602578604133367281659313250333219842201540931831568844813240003724377679117 * 169 = 30282197065651617035810488930659683587325368807808228090477097423413944704142452066919954781289590604867588630510727283441699633661815356759973418384107835784098539070600423939306314153332060417479535134773437560629419827770773 by decide +kernel] at this
 have h6 : 529 ∣ L.length := Kf.K2.pt_dvd2 p_3 no2 f23_on g23_on (by intro h; cases h) Pr.prime_23 f23_0 g23_0 (ne_all (f := 5) f23_lx f23_ly f23_on (by decide) (by decide +kernel)) L hL
 have k6 : 16019282247729705411943748644318972617695120099330552659862384536985976748491357143400656079302193429974954385540174732940659106207100323726025938325193045129788127168347624263893040187112659960846674086295148469572963088890738917 ∣ L.length := by
  have := Nat.Coprime.mul_dvd_of_dvd_of_dvd (show Nat.Coprime 30282197065651617035810488930659683587325368807808228090477097423413944704142452066919954781289590604867588630510727283441699633661815356759973418384107835784098539070600423939306314153332060417479535134773437560629419827770773 529 by decide +kernel) k5 h6
  rwa [show 30282197065651617035810488930659683587325368807808228090477097423413944704142452066919954781289590604867588630510727283441699633661815356759973418384107835784098539070600423939306314153332060417479535134773437560629419827770773 * 529 = 16019282247729705411943748644318972617695120099330552659862384536985976748491357143400656079302193429974954385540174732940659106207100323726025938325193045129788127168347624263893040187112659960846674086295148469572963088890738917 by decide +kernel] at this
 exact k6
theorem pts_kill {q : Kf.K2.Pt p} (ho : Kf.K2.Onc b2c q) : Kf.K2.tim q 16019282247729705411943748644318972617695120099330552659862384536985976748491357143400656079302193429974954385540174732940659106207100323726025938325193045129788127168347624263893040187112659960846674086295148469572963088890738917 = none := Kf.K2.kills p_3 no2 pts_dvd (by decide +kernel) ho
theorem hC_r : V hC * 52435875175126190479447740508185965837690552500527637822603658699938581184513 = 16019282247729705411943748644318972617695120099330552659862384536985976748491357143400656079302193429974954385540174732940659106207100323726025938325193045129788127168347624263893040187112659960846674086295148469572963088890738917 * 686966430457948734194560730881182400509 := by decide +kernel
theorem clear_r {q : Kf.K2.Pt p} (ho : Kf.K2.Onc b2c q) : Kf.K2.tim (Kf.K2.tim q (V hC)) 52435875175126190479447740508185965837690552500527637822603658699938581184513 = none := by
 rw [← Kf.K2.tim_mul p_3 no2 ho, hC_r, Kf.K2.tim_mul p_3 no2 ho, pts_kill ho, Kf.K2.tim_none]
end Go.Proofs.Ytbpmbdlgmmabcaa.L
namespace Go.Proofs.Ytbpmbdlgmmabcaa.L
open Go Go.Proofs
set_option maxRecDepth 100000
attribute [local irreducible] Code.wp wpList Af bodyPost L.Go
open Num
attribute [local simp] D_len
def rL : List Nat := [18446744069414584321, 6034159408538082302, 3691218898639771653, 8353516859464449352]
theorem rL_lt : Lt 18446744073709551616 rL := by unfold Lt rL; decide
theorem rL_len : rL.length = 4 := rfl
theorem rL_V : V rL = 52435875175126190479447740508185965837690552500527637822603658699938581184513 := by decide +kernel
theorem frR_spec : Spec Try.prog 130 [] NoPre [] (IsV (LV .u64 rL)) := by
 refine mk_spec Try.func130 rfl rfl rfl fun w _ => ?_
 repeat (first|refine st_alloc (v := LV .u64 (List.replicate 4 0)) (by rfl) (by rfl) fun _ => ?_|(refine st_buildC (m := 4) (kk := .u64) (by rfl) (by rfl) (by rfl) (by rfl) (by rfl) (by rfl) (by rfl) (by rfl) ?_; rw [show [18446744069414584321, 6034159408538082302, 3691218898639771653, 8353516859464449352] ++ List.replicate (4 - [18446744069414584321, 6034159408538082302, 3691218898639771653, 8353516859464449352].length) 0 = rL from rfl])|refine y_4 ?_|refine Z82 fun _ => ?_)
 refine Zec fun _ hw => post_of hw SubW.nil ⟨?_, rfl⟩
 rfl
theorem inf_spec (x y : F2) (i : Bool) : Spec Try.prog 93 [GE x y i] NoPre [] (IsV (.bool i)) := by
 refine mk_spec Try.func93 rfl rfl rfl fun w _ => ?_
 have hl0 := fun x => D_len 6 x
 have hle := fun x : F2 => E2_len x
 repeat (first|refine y_54 ?_|refine y_64 ?_|refine y_101 ?_|refine Z02 ?_|refine Z03 ?_|refine Z04 ?_|refine Z05 ?_|refine Z06 ?_|refine Z07 ?_|refine Z08 ?_|refine Z09 ?_|refine Z10 ?_|refine Z11 ?_|refine Z12 ?_|refine Z13 ?_|refine Z14 ?_|refine Z24 ?_|refine Z25 ?_|refine Z26 ?_|refine Z27 ?_|refine Z28 ?_|refine Z67 ?_|refine Z81 fun _ => ?_)
 refine Ze1 fun _ hw => post_of hw SubW.nil ⟨?_, rfl⟩
 rfl
set_option maxHeartbeats 8000000 in
theorem order_on {P : Kf.K2.Pt p} (h : Kf.K2.Onc b2c P) (hr : Kf.K2.tim P 52435875175126190479447740508185965837690552500527637822603658699938581184513 = none) :
  Spec Try.prog 92 [GV P, .func (.func 90) #[] #[], .func (.func 93) #[] #[]] NoPre [] (IsV (.bool true)) := by
 refine mk_spec Try.func92 rfl rfl rfl fun w _ => ?_
 have hl0 := fun x => D_len 6 x
 have hle := fun x : F2 => E2_len x
 have hm : ∀ s, Spec Try.prog 90 [s, GV P] (fun w => Rd w s (rL.map (N .u64))) [] (IsV (.tuple [GV (Kf.K2.tim P (V rL)), N .i64 0].toArray)) := fun s =>
  gmul_on h (val_lt (gx P).re) (val_lt (gx P).im) (val_lt (gy P).re) (val_lt (gy P).im) (gi P) (by rw [k2_val, k2_val, ptv_gv]) s rL rL_lt (by decide)
 rw [rL_V, hr, GV_none] at hm
 obtain ⟨x1, y1, i1, hq⟩ : ∃ x1 y1 i1, GV P = GE x1 y1 i1 := ⟨_, _, _, rfl⟩
 rw [hq] at hm ⊢
 have hi := inf_spec Kf.K2.zero Kf.K2.zero true
 repeat (first|(refine y_92 ?_;intro _)|refine st_alloc (v := LV .u64 (List.replicate 4 0)) (by rfl) (by rfl) fun _ => ?_|refine st_callV (by rfl) (by rfl) (by rfl) (frR_spec) (fun _ _ => trivial) (by rfl) ?_|refine Z01 ?_|refine Z02 ?_|refine Z03 ?_|refine Z04 ?_|refine Z05 ?_|refine Z06 ?_|refine Z07 ?_|refine Z08 ?_|refine Z09 ?_|refine Z10 ?_|refine Z11 ?_|refine Z12 ?_|refine Z13 ?_|refine Z14 ?_|refine Z17 ?_|refine Z18 ?_|refine Z19 ?_|refine Z24 ?_|refine Z25 ?_|refine Z26 ?_|refine Z27 ?_|refine Z28 ?_|refine Z29 ?_|refine Z30 ?_|refine Z31 ?_|refine Z32 ?_|refine Z49 ?_|refine Z50 ?_|refine Z51 ?_|refine Z52 ?_|refine Z53 ?_|refine Z62 ?_|refine Z63 ?_|refine Z64 ?_|refine Z67 ?_|refine Z81 fun _ => ?_|refine Z82 fun _ => ?_)
 refine R.st_perm [0, 1, 2, 3, 4, 5, 6, 7, 8, 9] (by rfl) ?_
 repeat (first|(refine R.Zpf (by rfl) (by intro _ _ _;(first|refine Z01 ?_|refine Z02 ?_|refine Z17 ?_|refine Z18 ?_|refine Z19 ?_|refine Z49 ?_|refine Z50 ?_|refine Z62 ?_|refine Z63 ?_|refine Z64 ?_);exact Zq) ?_)|refine y_144 ?_|refine y_106 ?_|(refine R.Zpp (by rfl) (by intro _ _ _;refine st_callV (by rfl) (by rfl) (by rfl) (hm _) (RdW.arrAll (m := 4) (by repeat first|apply Find.here|apply Find.there) rL_len) (by rfl) ?_;exact Zq) ?_)|refine y_180 ?_|(refine y_128 ?_;intro _)|(refine y_50 ?_;intro _)|refine R.Zpo (by rfl) ?_)
 refine R.Zp0 ?_
 repeat (first|refine y_103 ?_|refine y_2 hi ?_|refine y_20 ?_|refine Z01 ?_|refine Z02 ?_|refine Z03 ?_|refine Z04 ?_|refine Z05 ?_|refine Z06 ?_|refine Z07 ?_|refine Z08 ?_|refine Z09 ?_|refine Z10 ?_|refine Z11 ?_|refine Z12 ?_|refine Z13 ?_|refine Z14 ?_|refine Z17 ?_|refine Z18 ?_|refine Z19 ?_|refine Z24 ?_|refine Z25 ?_|refine Z26 ?_|refine Z27 ?_|refine Z28 ?_|refine Z29 ?_|refine Z30 ?_|refine Z31 ?_|refine Z32 ?_|refine Z49 ?_|refine Z50 ?_|refine Z51 ?_|refine Z52 ?_|refine Z53 ?_|refine Z62 ?_|refine Z63 ?_|refine Z64 ?_|refine Z67 ?_|refine Z81 fun _ => ?_|refine Z82 fun _ => ?_)
 refine Ze1 fun _ hw => post_of hw SubW.nil ⟨?_, rfl⟩
 rfl
theorem in2T {P : Kf.K2.Pt p} (h : Kf.K2.Onc b2c P) (hr : Kf.K2.tim P 52435875175126190479447740508185965837690552500527637822603658699938581184513 = none) : Spec Try.prog 51 [GV P] NoPre [] (IsV (.bool true)) := by
 refine mk_spec Try.func51 rfl rfl rfl fun w _ => ?_
 have hl0 := fun x => D_len 6 x
 have hle := fun x : F2 => E2_len x
 have ho := order_on h hr
 obtain ⟨x1, y1, i1, hq⟩ : ∃ x1 y1 i1, GV P = GE x1 y1 i1 := ⟨_, _, _, rfl⟩
 rw [hq] at ho ⊢
 repeat (first|refine y_103 ?_|refine y_2 ho ?_|refine Z02 ?_|refine Z03 ?_|refine Z04 ?_|refine Z05 ?_|refine Z06 ?_|refine Z07 ?_|refine Z08 ?_|refine Z09 ?_|refine Z10 ?_|refine Z11 ?_|refine Z12 ?_|refine Z13 ?_|refine Z14 ?_|refine Z24 ?_|refine Z25 ?_|refine Z26 ?_|refine Z27 ?_|refine Z28 ?_|refine Z67 ?_|refine Z81 fun _ => ?_)
 refine Ze1 fun _ hw => post_of hw SubW.nil ⟨?_, rfl⟩
 rfl
theorem send_r (u v : F2) : Kf.K2.tim (send u v) 52435875175126190479447740508185965837690552500527637822603658699938581184513 = none := clear_r (Kf.K2.Onc_pa p_3 (sent_on u) (sent_on v))
theorem pn_some (x y : F2) : Kf.K2.pn (some (x, y)) = some (x, Kf.K2.neg y) := rfl
theorem sent_neg {u : F2} (h : u ≠ Kf.K2.zero) : sent (Kf.K2.neg u) = Kf.K2.pn (sent u) := by
 rw [sent, sent, mapP_neg h, pn_some]
 generalize mapP u = q
 obtain ⟨x, y⟩ := q
 exact Kf.K2.some_pair rfl (phy_neg x y)
theorem send_neg {u v : F2} (hu : u ≠ Kf.K2.zero) (hv : v ≠ Kf.K2.zero) : send (Kf.K2.neg u) (Kf.K2.neg v) = Kf.K2.pn (send u v) := by
 rw [send, send, sent_neg hu, sent_neg hv, Kf.K2.pa_pn p_3 (sent_on u) (sent_on v), Kf.K2.tim_pn p_3 (Kf.K2.Onc_pa p_3 (sent_on u) (sent_on v))]
theorem send_opp {u : F2} (hu : u ≠ Kf.K2.zero) : send u (Kf.K2.neg u) = none := by
 rw [send, sent_neg hu, Kf.K2.pa_inv p_3, Kf.K2.tim_none]
theorem send_comm (u v : F2) : send v u = send u v := by
 rw [send, send, Kf.K2.pa_comm p_3 (sent_on v) (sent_on u)]
theorem y_129 {a b : Prop} (k : b) (h : Rm b → a := by intro k;refine Zqp (by intro _ _ _;refine st_load_GL (m := 24) (by rfl) (by repeat first|apply Find.here|apply Find.there) (by rfl) (by rfl) (by first|with_reducible assumption|simp) (by rfl) ?_;exact Zq) ?_;exact k.h) : a := h ⟨k⟩
theorem y_130 {a b : Prop} (k : b) (h : Rm b → a := by intro k;(first|refine Z01 ?_|refine Z02 ?_|refine Z03 ?_|refine Z04 ?_|refine Z05 ?_|refine Z06 ?_|refine Z07 ?_|refine Z08 ?_|refine Z09 ?_|refine Z10 ?_|refine Z11 ?_|refine Z12 ?_|refine Z13 ?_|refine Z14 ?_|refine Z24 ?_|refine Z25 ?_|refine Z26 ?_|refine Z27 ?_|refine Z28 ?_|refine Z29 ?_|refine Z30 ?_|refine Z31 ?_|refine Z32 ?_|refine Z49 ?_|refine Z50 ?_|refine Z51 ?_|refine Z52 ?_|refine Z53 ?_|refine Z54 ?_|refine Z65 ?_|refine Z67 ?_|refine Z77 ?_|refine Z78 ?_|refine Z79 ?_);exact k.h) : a := h ⟨k⟩
set_option maxHeartbeats 8000000 in
theorem lawTurns19_spec (y : List Nat) (n1 : y.length = 12) (h1 : Lt 18446744073709551616 y) (z : List Nat) (n2 : z.length = 12) (h2 : Lt 18446744073709551616 z) :
  Spec Try.prog 16 [LV .u64 y, LV .u64 z] NoPre [] (IsV (.bool true)) := by
 obtain ⟨a, b, ha, hb, rfl⟩ := arr12 n1 h1
 obtain ⟨e, f, he, hf, rfl⟩ := arr12 n2 h2
 refine mk_spec Try.func16 rfl rfl rfl fun w hr => ?_
 have hl0 := fun x => D_len 6 x
 have hle := fun x : F2 => E2_len x
 have k1 := send_spec ha hb he hf
 have k3 := send_spec he hf ha hb
 have k4 := in2T (send_on (k2 a b) (k2 e f)) (send_r (k2 a b) (k2 e f))
 have k5 := sred_spec ha hb
 have k6 := sred_spec he hf
 have k7 := sneg_spec ha hb
 have k8 := sneg_spec he hf
 have k9 := sendE (Kf.K2.neg (k2 a b)) (Kf.K2.neg (k2 e f))
 have l1 := send_spec ha hb (val_lt (Kf.K2.neg (k2 a b)).re) (val_lt (Kf.K2.neg (k2 a b)).im)
 rw [k2_val] at l1
 have l2 := gnegE (send (k2 a b) (k2 e f))
 rw [send_comm] at k3
 have e1 := fun h : k2 a b ≠ Kf.K2.zero => fun h' : k2 e f ≠ Kf.K2.zero => send_neg h h'
 have e2 := fun h : k2 a b ≠ Kf.K2.zero => send_opp h
 generalize k2 a b = u at *
 generalize k2 e f = v at *
 obtain ⟨Q, hQ⟩ : ∃ Q, Q = Kf.K2.pn (send u v) := ⟨_, rfl⟩
 rw [← hQ] at l2 e1
 obtain ⟨x1, y1, i1, hq⟩ : ∃ x1 y1 i1, GV (send u v) = GE x1 y1 i1 := ⟨_, _, _, rfl⟩
 obtain ⟨x2, y2, i2, hq2⟩ : ∃ x1 y1 i1, GV Q = GE x1 y1 i1 := ⟨_, _, _, rfl⟩
 rw [hq] at k1 k3 k4 l2
 rw [hq2] at l2
 repeat (first|(refine y_52 ?_;intro _)|(refine y_92 ?_;intro _)|refine y_64 ?_|refine y_65 ?_|refine y_66 ?_|refine y_107 ?_|refine st_callV (by rfl) (by rfl) (by rfl) (awake19_spec) (fun _ _ => trivial) (by rfl) ?_|refine y_2 k1 ?_|refine y_96 ?_|refine Z01 ?_|refine Z02 ?_|refine Z03 ?_|refine Z04 ?_|refine Z05 ?_|refine Z06 ?_|refine Z07 ?_|refine Z08 ?_|refine Z09 ?_|refine Z10 ?_|refine Z11 ?_|refine Z12 ?_|refine Z13 ?_|refine Z14 ?_|refine Z24 ?_|refine Z25 ?_|refine Z26 ?_|refine Z27 ?_|refine Z28 ?_|refine Z29 ?_|refine Z30 ?_|refine Z31 ?_|refine Z32 ?_|refine Z49 ?_|refine Z50 ?_|refine Z51 ?_|refine Z52 ?_|refine Z53 ?_|refine Z54 ?_|refine Z65 ?_|refine Z67 ?_|refine Z77 ?_|refine Z78 ?_|refine Z79 ?_|refine Z81 fun _ => ?_|refine Z82 fun _ => ?_)
 refine st_draw1 (by rfl) ?_
 repeat (first|(refine Zqf (by intro _ _ _;(first|(refine st_neGv (m := 6) (hr := geq_same _ _ _) (by rfl) (by rfl) (by rfl) (by kernel_rfl) (by rfl) (by rfl) (by rfl) (by rfl) (by rfl) (by rfl) (by rfl) (by rfl) (by rfl) (by rfl) (by rfl) (by kernel_rfl) (by rfl) (by rfl) (by rfl) (by rfl) (by rfl) (by rfl) (by rfl) (by rfl) (by rfl) (by rfl) (by kernel_rfl) (by simp; done) (by simp; done) (by simp; done) (by simp; done) (by simp; done) (by simp; done) (by simp; done) (by simp; done) (by rfl) ?_)|refine Z01 ?_|refine Z02 ?_|refine Z49 ?_|refine Z50 ?_|refine Z54 ?_|refine Z65 ?_|refine Z77 ?_|refine Z78 ?_|refine Z79 ?_);exact Zq) ?_)|refine y_129 ?_|refine y_31 k3 ?_|refine y_31 k4 ?_|refine y_176 ?_)
 refine Zq0 ?_ (by kernel_rfl)
 by_cases hu : u = Kf.K2.zero
 ·have hu2 : (decide (D 6 u.re.val = D 6 (Kf.K2.zero : F2).re.val) && decide (D 6 u.im.val = D 6 (Kf.K2.zero : F2).im.val)) = true := by rw [hu]; exact E2_same _
  repeat (first|refine y_91 hu2 ?_|(refine y_52 ?_;intro _)|refine y_72 ?_|refine y_2 k5 ?_|refine y_2 k6 ?_|refine y_130 ?_|refine Z81 fun _ => ?_|refine Z82 fun _ => ?_)
  refine Ze1 fun _ hw => post_of hw SubW.nil ⟨?_, rfl⟩
  rfl
 by_cases hv : v = Kf.K2.zero
 ·have hv2 : (decide (D 6 v.re.val = D 6 (Kf.K2.zero : F2).re.val) && decide (D 6 v.im.val = D 6 (Kf.K2.zero : F2).im.val)) = true := by rw [hv]; exact E2_same _
  repeat (first|refine y_91 (E2_diff hu) ?_|refine y_91 hv2 ?_|(refine y_52 ?_;intro _)|refine y_72 ?_|refine y_2 k5 ?_|refine y_2 k6 ?_|refine y_130 ?_|refine Z81 fun _ => ?_|refine Z82 fun _ => ?_)
  refine Ze1 fun _ hw => post_of hw SubW.nil ⟨?_, rfl⟩
  rfl
 rw [e1 hu hv, hq2] at k9
 rw [e2 hu, GV_none] at l1
 clear e1 e2 hq hq2 hQ
 repeat (first|refine y_91 (E2_diff hu) ?_|refine y_91 (E2_diff hv) ?_|(refine y_52 ?_;intro _)|refine y_72 ?_|refine y_2 k5 ?_|refine y_2 k6 ?_|refine y_130 ?_|refine Z81 fun _ => ?_|refine Z82 fun _ => ?_)
 refine st_draw1 (by rfl) ?_
 repeat (first|(refine Zqf (by intro _ _ _;(first|(refine st_eqGv (m := 6) (hr := geq_same _ _ _) (by rfl) (by rfl) (by rfl) (by kernel_rfl) (by rfl) (by rfl) (by rfl) (by rfl) (by rfl) (by rfl) (by rfl) (by rfl) (by rfl) (by rfl) (by rfl) (by kernel_rfl) (by rfl) (by rfl) (by rfl) (by rfl) (by rfl) (by rfl) (by rfl) (by rfl) (by rfl) (by rfl) (by kernel_rfl) (by simp; done) (by simp; done) (by simp; done) (by simp; done) (by simp; done) (by simp; done) (by simp; done) (by simp; done) (by rfl) ?_)|refine y_65 ?_|refine y_66 ?_|refine y_107 ?_|refine y_95 ?_|refine Z01 ?_|refine Z02 ?_|refine Z49 ?_|refine Z50 ?_|refine Z54 ?_|refine Z65 ?_|refine Z77 ?_|refine Z78 ?_|refine Z79 ?_);exact Zq) ?_)|refine y_56 ?_|refine y_129 ?_|refine y_31 k7 ?_|refine y_31 k8 ?_|refine y_31 k9 ?_|refine y_31 l1 ?_|refine y_31 l2 ?_|refine y_176 ?_)
 refine Zq0 ?_ (by kernel_rfl)
 repeat (first|refine y_130 ?_|refine Z81 fun _ => ?_|refine Z82 fun _ => ?_)
 refine Ze1 fun _ hw => post_of hw SubW.nil ⟨?_, rfl⟩
 rfl
end Go.Proofs.Ytbpmbdlgmmabcaa.L
namespace Go.Proofs.Ytbpmbdlgmmabcaa.L
open Go Go.Proofs
variable {P : Program}
theorem nat_of_has {k : IntKind} {m : Nat} (hk : ub k = some m) {x : Int} (h : k.has x) : ∃ y : Nat, x = Int.ofNat y ∧ y < m := by
 have : 0 ≤ x ∧ x < (m : Int) := by
  cases k <;> simp [ub] at hk <;> subst hk <;> simp [IntKind.has, IntKind.min, IntKind.max, IntKind.signed, IntKind.bits] at h ⊢ <;> omega
 exact ⟨x.toNat, by show x = ((x.toNat : Nat) : Int); omega, by omega⟩
theorem okWide_LV {k : IntKind} {m n : Nat} {t e : TypeId} {w : World} {r : Reach} {base : Nat} {v : Value} (hk : ub k = some m) (hs : aggT P t = true) (hcell : P.cellTypes P.depth t = some (List.replicate n e))
  (he : P.underlying e = some (.int k)) (hc : P.cellsOf t = n) (h : Value.okWide P w r base t v) : ∃ ys : List Nat, v = LV k ys ∧ ys.length = n ∧ ∀ x ∈ ys, x < m := by
 have h' : ∃ cs, v = .agg cs ∧ cs.size = P.cellsOf t ∧ Row.okWide P w r base t cs := by
  unfold aggT at hs
  unfold Value.okWide at h
  cases hu : P.underlying t with
  | none => rw [hu] at hs; simp at hs
  | some d =>
   rw [hu] at hs h
   cases d <;> simp at hs <;> simpa using h
 obtain ⟨cs, rfl, hcs, ts, hts, _, hrow⟩ := h'
 rw [hcell] at hts; cases hts
 have key : ∀ l : List Value, (∀ (i : Nat) (v : Value), l[i]? = some v → ∃ y : Nat, v = N k y ∧ y < m) → ∃ ys : List Nat, l = ys.map (N k) ∧ ∀ x ∈ ys, x < m := by
  intro l
  induction l with
  | nil => intro _; exact ⟨[], rfl, by simp⟩
  | cons v l ih =>
   intro hl
   obtain ⟨ys, h1, h2⟩ := ih (fun i v hv => hl (i + 1) v (by simpa using hv))
   obtain ⟨y, h3, h4⟩ := hl 0 v rfl
   exact ⟨y :: ys, by simp [h1, h3], by simpa using ⟨h4, h2⟩⟩
 obtain ⟨ys, h1, h2⟩ := key cs.toList (fun i v hv => by
  obtain ⟨u, hu, hok⟩ := hrow i v (by simpa using hv)
  have hu' : u = e := by
   rw [List.getElem?_replicate] at hu
   split at hu
   ·exact (Option.some.inj hu).symm
   ·cases hu
  subst hu'
  unfold Cell.okWide Cell.ok at hok
  rw [he] at hok
  cases v <;> simp at hok
  obtain ⟨rfl, hok⟩ := hok
  obtain ⟨y, hy, hlt⟩ := nat_of_has hk hok
  exact ⟨y, by rw [hy], hlt⟩)
 refine ⟨ys, ?_, ?_, h2⟩
 ·unfold LV; rw [← h1]
 ·have := congrArg List.length h1
  simp at this; omega
theorem post_bool {w w' : World} {e : Ending} (h : PostR (IsV (.bool true)) [] w e w') : e = .returned (.bool true) ∧ RowKit.Below w.heap.size w w' := by
 obtain ⟨v, Wout, ⟨rfl, _⟩, he, hx, _⟩ := h
 exact ⟨he, hx.below⟩
end Go.Proofs.Ytbpmbdlgmmabcaa.L
