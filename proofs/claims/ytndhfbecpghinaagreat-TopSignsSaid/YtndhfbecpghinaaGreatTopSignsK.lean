/- What the proof of the statement about TopSigns stands on, part K. Conditions: as each statement says. -/
import Derived.Test.YtndhfbecpghinaaGreatTopSignsJ
import Derived.ProofKit
import Derived.Test.YtndhfbecpghinaaGreatProg
import Derived.WalkKit
namespace Go.Proofs.YtndhfbecpghinaaGreat.L
open Go Go.Proofs
set_option maxRecDepth 100000
section
attribute [local irreducible] Code.wp wpList Af bodyPost L.Go ab
open Num
attribute [local simp] ae aD
attribute [local irreducible] eN fk hu g6 bi gh ec hP Kf.T12.one Kf.K2.pa
theorem Ka{a b:Prop}(k:b)(h:Rm b→a:=by intro k;(first|refine Z01 ?_|refine Z02 ?_|refine Z03 ?_|refine Z04 ?_|refine Z05 ?_|refine Z06 ?_|refine Z07 ?_|refine Z08 ?_|refine Z09 ?_|refine Z10 ?_|refine Z11 ?_|refine Z12 ?_|refine Z13 ?_|refine Z14 ?_);exact k.h):a:=h ⟨k⟩
theorem yD(s1 s2 s3:Value)(P:Kf.K2.Pt p)(m:List Nat)(S:Kf.K2.Pt p)(r:Bool)(hk:Ok1 P)(hg:gi P=false)(hm:Lt 256 m)(hl:m.length<1073741824)(hS:Ok2 S)
  (hr:decide (gh (ec [P,Kf.K2.pn bo] [hP m kS,S] (bi []))=Kf.T12.one)=r):
  Spec Tryz.prog 11 [s1,s2,s3] (fun w=>Rd w s1 ((eN P).map (N .u8))∧Rd w s2 (m.map (N .u8))∧Rd w s3 ((fk S).map (N .u8))) [] (IsV (.bool r)):=by
 refine ad Tryz.func11 rfl rfl rfl fun w hr0=>?_
 have h1:=RdC.mk0 hr0.1
 have h2:=RdC.mk0 hr0.2.1
 have h3:=RdC.mk0 hr0.2.2
 have o1:=hr0.1.one
 have o2:=hr0.2.1.one
 have a1:=fun v1 v2 ho=>wx v1 v2 s3 ho [(s1,P)] [(s2,m)] S kS r (by simp) (by simp) rfl (fun q hq=>by rw[List.mem_singleton.1 hq];exact hk) (fun q hq=>by rw[List.mem_singleton.1 hq];exact hg)
  (fun q hq=>by rw[List.mem_singleton.1 hq];exact⟨hm,hl⟩) hS Oe (by decide) (by decide) hr
 rw[z5]at a1
 repeat (first|(refine cc (E:=23) (vs:=[s1]) (by rfl) (by rfl) (by rfl) (by rfl) (by rfl) (by rfl) (by rfl) (by simp[o1]) (by rfl) (by rfl) fun _=>?_;refine gE (fun w hw=>(RdW.own fd w hw).one) fun ho=>?_)|refine cc (E:=23) (vs:=[s2]) (by rfl) (by rfl) (by rfl) (by rfl) (by rfl) (by rfl) (by rfl) (by simp[o2]) (by rfl) (by rfl) fun _=>?_|(refine ah (by rfl) (by rfl) (by rfl) (a1 _ _ ho) (fun w hw=>⟨RdW.own fd w hw,fun q hq=>by rw[List.mem_singleton.1 hq];exact RdW.old h1 w hw,RdW.own fd w hw,fun q hq=>by rw[List.mem_singleton.1 hq];exact RdW.old h2 w hw,RdW.old h3 w hw⟩) (by rfl) ?_)|refine Ka ?_|refine Z85 fun _=>?_)
 refine Ze1 fun _ hw=>aa hw SubW.nil ⟨?_,rfl⟩
 rfl
theorem AZ(s2 s3:Value)(o2:s2.oneCell'=true):Spec Tryz.prog 11 [.slice none 0 0,s2,s3] ai [] (IsV (.bool false)):=by
 refine ad Tryz.func11 rfl rfl rfl fun w hr0=>?_
 have a1:=fun v1 v2 ho=>KV v1 v2 s3 (STR kS) ho s2
 rw[z5]at a1
 repeat (first|(refine cc (E:=23) (vs:=[.slice none 0 0]) (by rfl) (by rfl) (by rfl) (by rfl) (by rfl) (by rfl) (by rfl) (by rfl) (by rfl) (by rfl) fun _=>?_;refine gE (fun w hw=>(RdW.own fd w hw).one) fun ho=>?_)|refine cc (E:=23) (vs:=[s2]) (by rfl) (by rfl) (by rfl) (by rfl) (by rfl) (by rfl) (by rfl) (by simp[o2]) (by rfl) (by rfl) fun _=>?_|refine ah (by rfl) (by rfl) (by rfl) (a1 _ _ ho) (fun w hw=>⟨RdW.own fd w hw,RdW.own fd w hw⟩) (by rfl) ?_|refine Ka ?_|refine Z85 fun _=>?_)
 refine Ze1 fun _ hw=>aa hw SubW.nil ⟨?_,rfl⟩
 rfl
theorem rm(s1 s3:Value)(P:Kf.K2.Pt p)(S:Kf.K2.Pt p)(r:Bool)(hk:Ok1 P)(hg:gi P=false)(hm:Lt 256 (eN P))(hS:Ok2 S)
  (hr:decide (gh (ec [P,Kf.K2.pn bo] [hP (eN P) kO,S] (bi []))=Kf.T12.one)=r):
  Spec Tryz.prog 12 [s1,s3] (fun w=>Rd w s1 ((eN P).map (N .u8))∧Rd w s3 ((fk S).map (N .u8))) [] (IsV (.bool r)):=by
 refine ad Tryz.func12 rfl rfl rfl fun w hr0=>?_
 have h1:=RdC.mk0 hr0.1
 have h3:=RdC.mk0 hr0.2
 have o1:=hr0.1.one
 have a1:=fun v1 v2 ho=>wx v1 v2 s3 ho [(s1,P)] [(s1,eN P)] S kO r (by simp) (by simp) rfl (fun q hq=>by rw[List.mem_singleton.1 hq];exact hk) (fun q hq=>by rw[List.mem_singleton.1 hq];exact hg)
  (fun q hq=>by rw[List.mem_singleton.1 hq];exact⟨hm,by simp only;rw[wO];decide⟩) hS Od (by decide) (by decide) hr
 rw[HA]at a1
 repeat (first|(refine cc (E:=23) (vs:=[s1]) (by rfl) (by rfl) (by rfl) (by rfl) (by rfl) (by rfl) (by rfl) (by simp[o1]) (by rfl) (by rfl) fun _=>?_;refine gE (fun w hw=>(RdW.own fd w hw).one) fun ho=>?_)|(refine ah (by rfl) (by rfl) (by rfl) (a1 _ _ (by assumption)) (fun w hw=>⟨RdW.own fd w hw,fun q hq=>by rw[List.mem_singleton.1 hq];exact RdW.old h1 w hw,RdW.own fd w hw,fun q hq=>by rw[List.mem_singleton.1 hq];exact RdW.old h1 w hw,RdW.old h3 w hw⟩) (by rfl) ?_)|refine Ka ?_|refine Z85 fun _=>?_)
 refine Ze1 fun _ hw=>aa hw SubW.nil ⟨?_,rfl⟩
 rfl
end
section
attribute [local irreducible] Code.wp wpList Af bodyPost L.Go ab
open Num
attribute [local simp] ae aD
attribute [local irreducible] hu g6 bi gh ec Kf.T12.one
theorem Uj:hP [1] kS≠hP [] kS:=by
 unfold hP
 rw[We,Wa]
 decide +kernel
theorem Bt(P:Kf.K2.Pt p):Lt 256 (eN P):=by
 unfold eN oG qw
 exact nR (by decide) (nR (by decide) (nR (by decide) (pF _ _)))
theorem U0:r=rN:=by decide +kernel
theorem vy{k:Nat}(h0:0<k)(hk:k<r):gi (Kf.K2.tim bo k)=false:=by
 cases hc:gi (Kf.K2.tim bo k)with
 | false=>rfl
 | true=>
  have hn:Kf.K2.tim bo k=none:=by
   unfold gi at hc
   exact Option.isNone_iff_eq_none.1 hc
  have:=FR (i:=k) (j:=0) (hn.trans (show none=Kf.K2.tim bo 0 from rfl))
  rw[U0]at hk
  rw[Nat.mod_eq_of_lt hk,Nat.zero_mod]at this
  omega
theorem Nb{H K:Kf.K2.Pt p}(hH:Ok2 H)(hK:Ok2 K){k:Nat}(h0:0<k)(hk:k<r):Kf.K2.tim H k=Kf.K2.tim K k↔H=K:=
 ⟨fun h=>JA hH hK (fun⟨t,ht⟩=>by
  rw[U0]at hk
  rcases Nat.eq_zero_or_pos t with rfl | ht0
  ·omega
  ·have:=Nat.le_mul_of_pos_right rN ht0;omega) h,fun h=>by rw[h]⟩
theorem t6{k:Nat}{H S:Kf.K2.Pt p}(hH:Ok2 H)(hS:Ok2 S):decide (gh (ec [Kf.K2.tim bo k,Kf.K2.pn bo] [H,S] (bi []))=Kf.T12.one)=decide (S=Kf.K2.tim H k):=by
 have h:=JL (l:=[(k,H)]) (fun x hx=>by rw[List.mem_singleton.1 hx];exact hH) hS
 rw[show AT [(k,H)]=Kf.K2.tim H k from Kf.K2.bJ _]at h
 exact decide_eq_decide.mpr h
theorem SK(s1 s2 s3:Value){k:Nat}(h0:0<k)(hk:k<r)(m:List Nat)(hm:Lt 256 m)(hl:m.length<1073741824)(S:Kf.K2.Pt p)(hS:Ok2 S):
  Spec Tryz.prog 11 [s1,s2,s3] (fun w=>Rd w s1 ((pkB k).map (N .u8))∧Rd w s2 (m.map (N .u8))∧Rd w s3 ((fk S).map (N .u8))) [] (IsV (.bool (decide (S=Kf.K2.tim (hP m kS) k)))):=
 yD s1 s2 s3 _ m S _ (pG k) (vy h0 hk) hm hl hS (t6 (j4 m kS) hS)
theorem WI(s1 s3:Value){k:Nat}(h0:0<k)(hk:k<r)(S:Kf.K2.Pt p)(hS:Ok2 S):
  Spec Tryz.prog 12 [s1,s3] (fun w=>Rd w s1 ((pkB k).map (N .u8))∧Rd w s3 ((fk S).map (N .u8))) [] (IsV (.bool (decide (S=Kf.K2.tim (hP (pkB k) kO) k)))):=
 rm s1 s3 _ S _ (pG k) (vy h0 hk) (Bt _) hS (t6 (j4 _ kO) hS)
theorem WZ(s:Value){k:Nat}(h0:0<k)(hk:k<r):Spec Tryz.prog 14 [s] (fun w=>Rd w s ((pkB k).map (N .u8))) [] (IsV (.bool true)):=
 nZ s (pG k) (vy h0 hk)
theorem Ca(k:Nat):(pkB k).length=48:=wO _
theorem MB(k:Nat)(m d:List Nat):(sgB k m d).length=96:=Gr _
theorem Fc(bs:List Nat)(hb:Lt 256 bs)(hl:bs.length=32):Spec Tryz.prog 7 [LV .u8 bs] ai [] (fun v Wr=>∃x y,v = .tuple [x,y].toArray∧Wr=[.sl x ((bv (kN bs) 32).map (N .u8)) 22,.sl y ((pkB (kN bs)).map (N .u8)) 5]):=by
 refine ad Tryz.func7 rfl rfl rfl fun w _=>?_
 have a1:=HC bs hb hl
 have a2:=fun s=>kr s (Hz bs) (Hy bs)
 generalize kN bs=k at *
 generalize pkB k=pk at *
 generalize bv k 32=sk at *
 repeat (first|refine lU (m:=32) (by rfl) fd (by rfl) (by rfl) hl (by rfl) ?_|(refine ax (by rfl) (by rfl) (by rfl) (a1) .nil (fun _ _=>trivial) (by rfl) ?_;rintro x _ rfl)|(refine ax (by rfl) (by rfl) (by rfl) (a2 _) .nil (RdW.own fd) (by rfl) ?_;rintro _ _ ⟨y,rfl,rfl⟩)|refine Z01 ?_|refine Z02 ?_|refine Z03 ?_|refine Z04 ?_|refine Z05 ?_|refine Z06 ?_|refine Z07 ?_|refine Z08 ?_|refine Z09 ?_|refine Z10 ?_|refine Z11 ?_|refine Z12 ?_|refine Z13 ?_|refine Z14 ?_|refine Z19 ?_|refine Z24 ?_|refine Z26 ?_|refine Z27 ?_|refine Z67 ?_|refine Z81 fun _=>?_)
 exact Ze2 fun _ hw=>aa hw (Wout:=[.sl x (sk.map (N .u8)) 22,.sl y (pk.map (N .u8)) 5]) (by exact sw) ⟨_,_,rfl,rfl⟩
set_option maxHeartbeats 4000000 in
theorem oZ:Spec Tryz.prog 6 [] ai [] (IsV (.bool true)):=by
 refine ad Tryz.func6 rfl rfl rfl fun w _=>?_
 have a1:=Ih
 have k1:(1:Nat)<r:=by decide +kernel
 have a2:=fun s=>kr s (k:=1) (by decide) k1
 have a3:=fun s=>tH s (.slice none 0 0) (k:=1) (by decide) k1 [] (fun x hx=>by cases hx) (by decide)
 have a4:=fun s1 s3=>SK s1 (.slice none 0 0) s3 (k:=1) (by decide) k1 [] (fun x hx=>by cases hx) (by decide) _ (jr (j4 [] kS) 1)
 have a5:=fun s1 s2 s3=>SK s1 s2 s3 (k:=1) (by decide) k1 [1] (by unfold Lt;decide) (by decide) _ (jr (j4 [] kS) 1)
 have a6:=AZ (.slice none 0 0) (.slice none 0 0) rfl
 rw[decide_eq_true rfl]at a4
 have hne:decide (Kf.K2.tim (hP [] kS) 1=Kf.K2.tim (hP [1] kS) 1)=false:=decide_eq_false (fun h=>Uj ((Nb (j4 _ _) (j4 _ _) (by decide) k1).1 h).symm)
 rw[hne]at a5
 rw[show fk (Kf.K2.tim (hP [] kS) 1)=sgB 1 [] kS from rfl]at a4 a5
 have hp:=Ca 1
 have hs:=MB 1 [] kS
 generalize pkB 1=pk at *
 generalize sgB 1 [] kS=sg at *
 generalize bv 1 32=sk at *
 clear hne
 repeat (first|(refine ax (by rfl) (by rfl) (by rfl) (a1) .nil (fun _ _=>trivial) (by rfl) ?_;rintro _ _ rfl)|(refine ax (by rfl) (by rfl) (by rfl) (a2 _) .nil (RdW.own fd) (by rfl) ?_;rintro _ _ ⟨y,rfl,rfl⟩)|(refine ax (by rfl) (by rfl) (by rfl) (a3 _) .nil (fun w hw=>⟨RdW.own fd w hw,RdW.nil w hw⟩) (by rfl) ?_;rintro _ _ ⟨z,rfl,rfl⟩)|refine iy (by rfl) (by rfl) (RdW.own (xs:=pk.map (N .u8)) fd) (by rfl) ?_|refine iy (by rfl) (by rfl) (RdW.own (xs:=sg.map (N .u8)) fd) (by rfl) ?_|rw[hp]|rw[hs]|refine ah (by rfl) (by rfl) (by rfl) (a4 _ _) (fun w hw=>⟨RdW.own fd w hw,RdW.nil w hw,RdW.own fd w hw⟩) (by rfl) ?_|(refine O2 ?_;intro _)|refine ah (by rfl) (by rfl) (by rfl) (a5 _ _ _) (fun w hw=>⟨RdW.own fd w hw,RdW.own (xs:=[1].map (N .u8)) fd w hw,RdW.own fd w hw⟩) (by rfl) ?_|refine y_4 a6 ?_|refine y_8 ?_|refine Z01 ?_|refine Z02 ?_|refine Z03 ?_|refine Z04 ?_|refine Z05 ?_|refine Z06 ?_|refine Z07 ?_|refine Z08 ?_|refine Z09 ?_|refine Z10 ?_|refine Z11 ?_|refine Z12 ?_|refine Z13 ?_|refine Z14 ?_|refine Z17 ?_|refine Z18 ?_|refine Z19 ?_|refine Z20 ?_|refine Z21 ?_|refine Z49 ?_|refine Z50 ?_|refine Z51 ?_|refine Z52 ?_|refine Z54 ?_|refine Z85 fun _=>?_)
 refine Ze1 fun _ hw=>aa hw SubW.nil ⟨?_,rfl⟩
 rfl
end
section
attribute [local irreducible] Code.wp wpList Af bodyPost L.Go ab
open Num
attribute [local simp] ae aD
attribute [local irreducible] hu g6 bi gh ec Kf.T12.one hP eN fk
set_option maxHeartbeats 4000000 in
theorem lawSigns_spec(bs:List Nat)(hl:bs.length=32)(hb:Lt 256 bs)(s:Value)(m:List Nat)(hm:Lt 256 m)(m63:m.length<9223372036854775808):
  Spec Tryz.prog 4 [LV .u8 bs,s] (fun w=>Rd w s (m.map (N .u8))) [] (IsV (.bool true)):=by
 refine ad Tryz.func4 rfl rfl rfl fun w hr=>?_
 have h1:=RdC.mk0 hr
 by_cases hml:m.length≤300
 case neg=>
  repeat (first|refine ah (by rfl) (by rfl) (by rfl) (oZ) (fun _ _=>trivial) (by rfl) ?_|refine y_8 ?_|refine Z01 ?_|refine Z02 ?_|refine Z03 ?_|refine Z04 ?_|refine Z05 ?_|refine Z06 ?_|refine Z07 ?_|refine Z08 ?_|refine Z09 ?_|refine Z10 ?_|refine Z11 ?_|refine Z12 ?_|refine Z13 ?_|refine Z14 ?_|refine Z17 ?_|refine Z18 ?_|refine Z19 ?_|refine Z20 ?_|refine Z21 ?_|refine Z24 ?_|refine Z26 ?_|refine Z27 ?_|refine Z49 ?_|refine Z50 ?_|refine Z51 ?_|refine Z52 ?_|refine Z67 ?_|refine Z81 fun _=>?_)
  refine Ze1 fun _ hw=>aa hw SubW.nil ⟨?_,rfl⟩
  rfl
 have hk0:=Hz bs
 have hkr:=Hy bs
 have a1:=Fc bs hb hl
 generalize kN bs=k at *
 have a2:=fun x=>tH x s hk0 hkr m hm (by omega)
 have a3:=fun x=>su x hk0 hkr (Bt _) (by rw[Ca];decide)
 have a4:=fun x=>WZ x hk0 hkr
 have a5:=fun x z=>SK x s z hk0 hkr m hm (by omega) _ (jr (j4 m kS) k)
 have a6:=fun x z=>WI x z hk0 hkr _ (jr (j4 (pkB k) kO) k)
 rw[decide_eq_true rfl]at a5 a6
 rw[show fk (Kf.K2.tim (hP m kS) k)=sgB k m kS from rfl]at a5
 rw[show fk (Kf.K2.tim (hP (pkB k) kO) k)=sgB k (pkB k) kO from rfl]at a6
 generalize sgB k (pkB k) kO=so at *
 generalize pkB k=pk at *
 generalize sgB k m kS=sg at *
 generalize bv k 32=sk at *
 repeat (first|refine ah (by rfl) (by rfl) (by rfl) (oZ) (fun _ _=>trivial) (by rfl) ?_|refine y_5 ?_|refine lU (m:=32) (by rfl) fd (by rfl) (by rfl) hl (by rfl) ?_|(refine ax (by rfl) (by rfl) (by rfl) (a1) .nil (fun _ _=>trivial) (by rfl) ?_;rintro _ _ ⟨x,y,rfl,rfl⟩)|(refine ax (by rfl) (by rfl) (by rfl) (a2 _) .nil (fun w hw=>⟨RdW.own fd w hw,RdW.old h1 w hw⟩) (by rfl) ?_;rintro _ _ ⟨z,rfl,rfl⟩)|(refine ax (by rfl) (by rfl) (by rfl) (a3 _) .nil (RdW.own fd) (by rfl) ?_;rintro _ _ ⟨u,rfl,rfl⟩)|refine Fv (a4 _) ?_|refine ah (by rfl) (by rfl) (by rfl) (a5 _ _) (fun w hw=>⟨RdW.own fd w hw,RdW.old h1 w hw,RdW.own fd w hw⟩) (by rfl) ?_|refine ah (by rfl) (by rfl) (by rfl) (a6 _ _) (fun w hw=>⟨RdW.own fd w hw,RdW.own fd w hw⟩) (by rfl) ?_|refine y_8 ?_|refine Z01 ?_|refine Z02 ?_|refine Z03 ?_|refine Z04 ?_|refine Z05 ?_|refine Z06 ?_|refine Z07 ?_|refine Z08 ?_|refine Z09 ?_|refine Z10 ?_|refine Z11 ?_|refine Z12 ?_|refine Z13 ?_|refine Z14 ?_|refine Z17 ?_|refine Z18 ?_|refine Z19 ?_|refine Z20 ?_|refine Z21 ?_|refine Z24 ?_|refine Z26 ?_|refine Z27 ?_|refine Z49 ?_|refine Z50 ?_|refine Z51 ?_|refine Z52 ?_|refine Z67 ?_|refine Z81 fun _=>?_)
 refine Ze1 fun _ hw=>aa hw SubW.nil ⟨?_,rfl⟩
 rfl
end
section
variable {P:Program}
theorem slice_spot{w:World}{r:Reach}{base:Nat}{t e:TypeId}{a:Option Addr}{len cap:Nat}(ht:P.underlying t=some (.slice e))(h:Value.okWide P w r base t (.slice a len cap)):
  ∀x,a=some x→x.spot=none:=by
 intro x hx
 subst hx
 simp only[Value.okWide,ht,Cell.okWide,Cell.ok,World.has]at h
 exact h.2.2.2.1
theorem row_nat{k:IntKind}{m:Nat}(hk:ub k=some m){w:World}{a:Option Addr}{len cap:Nat}{zs:List Int}
  (h:(a=none∧len=0∧cap=0∧zs=[]) ∨
   ∃x,a=some x∧len≤cap∧cap≤maxLen∧zs.length=cap∧(∀i,i<zs.length→w.cell? (x.add i)=some (.int k (zs.getD i 0)))∧∀n∈zs,(Lit.int k n).wf=true)
  (hs:∀x,a=some x→x.spot=none):∃bs:List Nat,Rd w (.slice a len cap) (bs.map (N k))∧(∀x∈bs,x<m)∧bs.length<9223372036854775808:=by
 rcases h with⟨rfl,rfl,rfl,rfl⟩ | ⟨x,rfl,h1,h2,h3,h4,h5⟩
 ·exact⟨[],Rd.nil w,by simp,by decide⟩
 ·have hn:∀n∈zs,0≤n∧n<(m:Int):=by
   intro n hn
   have:=h5 n hn
   cases k <;> simp[ub]at hk <;> subst hk <;> simp[Lit.wf,IntKind.min,IntKind.max,IntKind.signed,IntKind.bits]at this ⊢ <;> omega
  have hg:∀i,i<zs.length→Int.ofNat (zs.getD i 0).toNat=zs.getD i 0:=by
   intro i hi
   have:zs.getD i 0∈zs:=by simp[List.getD_eq_getElem?_getD,hi]
   have:=hn _ this
   show(((zs.getD i 0).toNat:Nat):Int)=_
   omega
  refine⟨(zs.take len).map Int.toNat,⟨⟨some x,cap,?_,?_,by simp,by simpa using hs⟩,?_⟩,?_,?_⟩
  ·simp;omega
  ·simp;omega
  ·intro i v hv
   have hi:i<len∧i<zs.length:=by
    have:=(List.getElem?_eq_some_iff.mp hv).1
    simp at this;omega
   have e1:=h4 i hi.2
   rw[← hg i hi.2]at e1
   show w.cell? (x.add i)=_
   rw[e1]
   simp[hi.1,hi.2]at hv
   rw[← hv]
   simp[N,List.getD_eq_getElem?_getD,hi.2]
  ·intro y hy
   simp only[List.mem_map]at hy
   obtain⟨n,hn',rfl⟩:=hy
   have:=hn n (List.mem_of_mem_take hn')
   omega
  ·have:cap≤2^63-1:=h2
   simp;omega
theorem Al{k:IntKind}{m:Nat}(hk:ub k=some m){x:Int}(h:k.has x):∃y:Nat,x=Int.ofNat y∧y<m:=by
 have:0≤x∧x<(m:Int):=by
  cases k <;> simp[ub]at hk <;> subst hk <;> simp[IntKind.has,IntKind.min,IntKind.max,IntKind.signed,IntKind.bits]at h ⊢ <;> omega
 exact⟨x.toNat,by show x=((x.toNat:Nat):Int);omega,by omega⟩
theorem okWide_LV{k:IntKind}{m n:Nat}{t e:TypeId}{w:World}{r:Reach}{base:Nat}{v:Value}(hk:ub k=some m)(hs:cM P t=true)(hcell:P.cellTypes P.depth t=some (List.replicate n e))
  (he:P.underlying e=some (.int k)) (hc:P.cellsOf t=n) (h:Value.okWide P w r base t v):∃ys:List Nat,v=LV k ys∧ys.length=n∧∀x∈ys,x<m:=by
 have h':∃cs,v = .agg cs∧cs.size=P.cellsOf t∧Row.okWide P w r base t cs:=by
  unfold cM at hs
  unfold Value.okWide at h
  cases hu:P.underlying t with
  | none=>rw[hu]at hs;simp at hs
  | some d=>
   rw[hu]at hs h
   cases d <;> simp at hs <;> simpa using h
 obtain⟨cs,rfl,hcs,ts,hts,_,hrow⟩:=h'
 rw[hcell]at hts;cases hts
 have key:∀l:List Value,(∀(i:Nat)(v:Value),l[i]?=some v→∃y:Nat,v=N k y∧y<m)→∃ys:List Nat,l=ys.map (N k)∧∀x∈ys,x<m:=by
  intro l
  induction l with
  | nil=>intro _;exact⟨[],rfl,by simp⟩
  | cons v l ih=>
   intro hl
   obtain⟨ys,h1,h2⟩:=ih (fun i v hv=>hl (i+1) v (by simpa using hv))
   obtain⟨y,h3,h4⟩:=hl 0 v rfl
   exact⟨y::ys,by simp[h1,h3],by simpa using⟨h4,h2⟩⟩
 obtain⟨ys,h1,h2⟩:=key cs.toList (fun i v hv=>by
  obtain⟨u,hu,hok⟩:=hrow i v (by simpa using hv)
  have hu':u=e:=by
   rw[List.getElem?_replicate]at hu
   split at hu
   ·exact(Option.some.inj hu).symm
   ·cases hu
  subst hu'
  unfold Cell.okWide Cell.ok at hok
  rw[he]at hok
  cases v <;> simp at hok
  obtain⟨rfl,hok⟩:=hok
  obtain⟨y,hy,hlt⟩:=Al hk hok
  exact⟨y,by rw[hy],hlt⟩)
 refine⟨ys,?_,?_,h2⟩
 ·unfold LV;rw[← h1]
 ·have:=congrArg List.length h1
  simp at this;omega
theorem post_bool{w w':World}{e:Ending}(h:md (IsV (.bool true)) [] w e w'):e = .returned (.bool true)∧RowKit.Below w.heap.size w w':=by
 obtain⟨v,Wout,⟨rfl,_⟩,he,hx,_⟩:=h
 exact⟨he,hx.below⟩
end
end Go.Proofs.YtndhfbecpghinaaGreat.L
