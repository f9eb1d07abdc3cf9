/- What the proof of the statement about TopApart stands on, part K. Conditions: as each statement says. -/
import Derived.Test.YtndhfbecpghinaaGreatTopApartJ
import Derived.ProofKit
import Derived.Test.YtndhfbecpghinaaGreatProg
import Derived.WalkKit
namespace Go.Proofs.YtndhfbecpghinaaGreat.L
open Go Go.Proofs
set_option maxRecDepth 100000
section
attribute [local irreducible] Code.wp wpList Af bodyPost L.Go ab
open Num
attribute [local simp] ae aD
attribute [local irreducible] ec f5 hu g8 bi gm ee hP Kf.T12.one Kf.K2.pa
theorem Kz{a b:Prop}(k:b)(h:Rm b→a:=by intro k;(first|refine Z01 ?_|refine Z02 ?_|refine Z03 ?_|refine Z04 ?_|refine Z05 ?_|refine Z06 ?_|refine Z07 ?_|refine Z08 ?_|refine Z09 ?_|refine Z10 ?_|refine Z11 ?_|refine Z12 ?_|refine Z13 ?_|refine Z14 ?_);exact k.h):a:=h ⟨k⟩
theorem zf(s1 s2 s3:Value)(P:Kf.K2.Pt p)(m:List Nat)(S:Kf.K2.Pt p)(r:Bool)(hk:Ok1 P)(hg:gi P=false)(hm:Lt 256 m)(hl:m.length<1073741824)(hS:Ok2 S)
  (hr:decide (gm (ee [P,Kf.K2.pn bn] [hP m kS,S] (bi []))=Kf.T12.one)=r):
  Spec Tryz.prog 11 [s1,s2,s3] (fun w=>Rd w s1 ((ec P).map (N .u8))∧Rd w s2 (m.map (N .u8))∧Rd w s3 ((f5 S).map (N .u8))) [] (IsV (.bool r)):=by
 refine ad Tryz.func11 rfl rfl rfl fun w hr0=>?_
 have h1:=RdC.mk0 hr0.1
 have h2:=RdC.mk0 hr0.2.1
 have h3:=RdC.mk0 hr0.2.2
 have o1:=hr0.1.one
 have o2:=hr0.2.1.one
 have a1:=fun v1 v2 ho=>wQ v1 v2 s3 ho [(s1,P)] [(s2,m)] S kS r (by simp) (by simp) rfl (fun q hq=>by rw[List.mem_singleton.1 hq];exact hk) (fun q hq=>by rw[List.mem_singleton.1 hq];exact hg)
  (fun q hq=>by rw[List.mem_singleton.1 hq];exact⟨hm,hl⟩) hS Cm (by decide) (by decide) hr
 rw[Ax]at a1
 repeat (first|(refine ci (E:=23) (vs:=[s1]) (by rfl) (by rfl) (by rfl) (by rfl) (by rfl) (by rfl) (by rfl) (by simp[o1]) (by rfl) (by rfl) fun _=>?_;refine gG (fun w hw=>(RdW.own fd w hw).one) fun ho=>?_)|refine ci (E:=23) (vs:=[s2]) (by rfl) (by rfl) (by rfl) (by rfl) (by rfl) (by rfl) (by rfl) (by simp[o2]) (by rfl) (by rfl) fun _=>?_|(refine af (by rfl) (by rfl) (by rfl) (a1 _ _ ho) (fun w hw=>⟨RdW.own fd w hw,fun q hq=>by rw[List.mem_singleton.1 hq];exact RdW.old h1 w hw,RdW.own fd w hw,fun q hq=>by rw[List.mem_singleton.1 hq];exact RdW.old h2 w hw,RdW.old h3 w hw⟩) (by rfl) ?_)|refine Kz ?_|refine Z85 fun _=>?_)
 refine Ze1 fun _ hw=>aa hw SubW.nil ⟨?_,rfl⟩
 rfl
theorem Bq(s2 s3:Value)(o2:s2.oneCell'=true):Spec Tryz.prog 11 [.slice none 0 0,s2,s3] ai [] (IsV (.bool false)):=by
 refine ad Tryz.func11 rfl rfl rfl fun w hr0=>?_
 have a1:=fun v1 v2 ho=>Lk v1 v2 s3 (STR kS) ho s2
 rw[Ax]at a1
 repeat (first|(refine ci (E:=23) (vs:=[.slice none 0 0]) (by rfl) (by rfl) (by rfl) (by rfl) (by rfl) (by rfl) (by rfl) (by rfl) (by rfl) (by rfl) fun _=>?_;refine gG (fun w hw=>(RdW.own fd w hw).one) fun ho=>?_)|refine ci (E:=23) (vs:=[s2]) (by rfl) (by rfl) (by rfl) (by rfl) (by rfl) (by rfl) (by rfl) (by simp[o2]) (by rfl) (by rfl) fun _=>?_|refine af (by rfl) (by rfl) (by rfl) (a1 _ _ ho) (fun w hw=>⟨RdW.own fd w hw,RdW.own fd w hw⟩) (by rfl) ?_|refine Kz ?_|refine Z85 fun _=>?_)
 refine Ze1 fun _ hw=>aa hw SubW.nil ⟨?_,rfl⟩
 rfl
theorem ry(s1 s3:Value)(P:Kf.K2.Pt p)(S:Kf.K2.Pt p)(r:Bool)(hk:Ok1 P)(hg:gi P=false)(hm:Lt 256 (ec P))(hS:Ok2 S)
  (hr:decide (gm (ee [P,Kf.K2.pn bn] [hP (ec P) kO,S] (bi []))=Kf.T12.one)=r):
  Spec Tryz.prog 12 [s1,s3] (fun w=>Rd w s1 ((ec P).map (N .u8))∧Rd w s3 ((f5 S).map (N .u8))) [] (IsV (.bool r)):=by
 refine ad Tryz.func12 rfl rfl rfl fun w hr0=>?_
 have h1:=RdC.mk0 hr0.1
 have h3:=RdC.mk0 hr0.2
 have o1:=hr0.1.one
 have a1:=fun v1 v2 ho=>wQ v1 v2 s3 ho [(s1,P)] [(s1,ec P)] S kO r (by simp) (by simp) rfl (fun q hq=>by rw[List.mem_singleton.1 hq];exact hk) (fun q hq=>by rw[List.mem_singleton.1 hq];exact hg)
  (fun q hq=>by rw[List.mem_singleton.1 hq];exact⟨hm,by simp only;rw[xb];decide⟩) hS OG (by decide) (by decide) hr
 rw[RH]at a1
 repeat (first|(refine ci (E:=23) (vs:=[s1]) (by rfl) (by rfl) (by rfl) (by rfl) (by rfl) (by rfl) (by rfl) (by simp[o1]) (by rfl) (by rfl) fun _=>?_;refine gG (fun w hw=>(RdW.own fd w hw).one) fun ho=>?_)|(refine af (by rfl) (by rfl) (by rfl) (a1 _ _ (by assumption)) (fun w hw=>⟨RdW.own fd w hw,fun q hq=>by rw[List.mem_singleton.1 hq];exact RdW.old h1 w hw,RdW.own fd w hw,fun q hq=>by rw[List.mem_singleton.1 hq];exact RdW.old h1 w hw,RdW.old h3 w hw⟩) (by rfl) ?_)|refine Kz ?_|refine Z85 fun _=>?_)
 refine Ze1 fun _ hw=>aa hw SubW.nil ⟨?_,rfl⟩
 rfl
end
section
attribute [local irreducible] Code.wp wpList Af bodyPost L.Go ab
open Num
attribute [local simp] ae aD
attribute [local irreducible] hu g8 bi gm ee Kf.T12.one
theorem UP:hP [1] kS≠hP [] kS:=by
 unfold hP
 rw[WT,WP]
 decide +kernel
theorem BS(P:Kf.K2.Pt p):Lt 256 (ec P):=by
 unfold ec lp qK
 exact n9 (by decide) (n9 (by decide) (n9 (by decide) (pS _ _)))
theorem GQ{P Q:Kf.K2.Pt p}(hP:Ok1 P)(hQ:Ok1 Q)(h:ec P=ec Q):P=Q:=by
 obtain⟨y1,r1,a1,a2,a3⟩:=pJ (gx P).re (gy P).re (gi P)
 obtain⟨y2,r2,b1,b2,b3⟩:=pJ (gx Q).re (gy Q).re (gi Q)
 have h':lp (gx P).re (gy P).re (gi P)=lp (gx Q).re (gy Q).re (gi Q):=h
 rw[a1,b1,List.cons.injEq]at h'
 obtain⟨h1,h2⟩:=h'
 have e31:=congrArg (· &&& 31) h1
 have e64:=congrArg (· &&& 64) h1
 have e32:=congrArg (· &&& 32) h1
 simp only[vb _ a2,vb _ b2,vd _ a2,vd _ b2,vc _ a2,vc _ b2]at e31 e64 e32
 have ei:gi P=gi Q:=by revert e64;cases gi P <;> cases gi Q <;> simp
 have hx:(gx P).re=(gx Q).re:=by
  have:bq (gx P).re.val 48=bq (gx Q).re.val 48:=by rw[← a3,← b3,e31,h2]
  have:=congrArg bA this
  rw[kE,kE]at this
  exact Fin.ext this
 rcases eR hP.2.1 with rfl | ⟨x,y,rfl⟩
 ·rcases eR hQ.2.1 with rfl | ⟨x',y',rfl⟩
  ·rfl
  ·cases ei
 ·rcases eR hQ.2.1 with rfl | ⟨x',y',rfl⟩
  ·cases ei
  ·have hxx:x=x':=hx
   subst hxx
   have k1:=nT hP.1
   have k2:=nT hQ.1
   have hb:lH y=lH y':=by
    have:(lH y && !false)=(lH y' && !false):=by
     revert e32
     show cond (lH y && !false) 32 0=cond (lH y' && !false) 32 0→_
     cases lH y <;> cases lH y' <;> simp
    simpa using this
   have:=UE (k1.trans k2.symm)
   rw[if_pos (show jS y=jS y' from hb)]at this
   rw[this]
theorem MT:r=rN:=by decide +kernel
theorem CE{k:Nat}(h0:0<k)(hk:k<r):gi (Kf.K2.tim bn k)=false:=by
 cases hc:gi (Kf.K2.tim bn k)with
 | false=>rfl
 | true=>
  have hn:Kf.K2.tim bn k=none:=by
   unfold gi at hc
   exact Option.isNone_iff_eq_none.1 hc
  have:=wT (i:=k) (j:=0) (hn.trans (show none=Kf.K2.tim bn 0 from rfl))
  rw[MT]at hk
  rw[Nat.mod_eq_of_lt hk,Nat.zero_mod]at this
  omega
theorem wq{H K:Kf.K2.Pt p}(hH:Ok2 H)(hK:Ok2 K){k:Nat}(h0:0<k)(hk:k<r):Kf.K2.tim H k=Kf.K2.tim K k↔H=K:=
 ⟨fun h=>JT hH hK (fun⟨t,ht⟩=>by
  rw[MT]at hk
  rcases Nat.eq_zero_or_pos t with rfl | ht0
  ·omega
  ·have:=Nat.le_mul_of_pos_right rN ht0;omega) h,fun h=>by rw[h]⟩
theorem JU{H:Kf.K2.Pt p}(hH:Ok2 H){i j:Nat}(hi:i<r)(hj:j<r):Kf.K2.tim H i=Kf.K2.tim H j↔i=j∨H=none:=by
 constructor
 ·intro h
  by_cases hn:H=none
  ·exact .inr hn
  ·have:=ND hH hn h
   rw[MT]at hi hj
   rw[Nat.mod_eq_of_lt hi,Nat.mod_eq_of_lt hj]at this
   exact .inl this
 ·rintro(rfl | rfl)
  ·rfl
  ·rw[Kf.K2.dU,Kf.K2.dU]
theorem Sg{i j:Nat}(hi:i<r)(hj:j<r):pkB i=pkB j↔i=j:=by
 constructor
 ·intro h
  have:=wT (GQ (m8 i) (m8 j) h)
  rw[MT]at hi hj
  rw[Nat.mod_eq_of_lt hi,Nat.mod_eq_of_lt hj]at this
  exact this
 ·rintro rfl;rfl
theorem SL{i j:Nat}(hi:i<r)(hj:j<r):bq i 32=bq j 32↔i=j:=by
 constructor
 ·intro h
  have:=congrArg bA h
  rw[kP _ _ (Nat.lt_trans hi (by decide +kernel)),kP _ _ (Nat.lt_trans hj (by decide +kernel))]at this
  exact this
 ·rintro rfl;rfl
theorem uf{k:Nat}{H S:Kf.K2.Pt p}(hH:Ok2 H)(hS:Ok2 S):decide (gm (ee [Kf.K2.tim bn k,Kf.K2.pn bn] [H,S] (bi []))=Kf.T12.one)=decide (S=Kf.K2.tim H k):=by
 have h:=J5 (l:=[(k,H)]) (fun x hx=>by rw[List.mem_singleton.1 hx];exact hH) hS
 rw[show Bl [(k,H)]=Kf.K2.tim H k from Kf.K2.bJ _]at h
 exact decide_eq_decide.mpr h
theorem NK(s1 s2 s3:Value){k:Nat}(h0:0<k)(hk:k<r)(m:List Nat)(hm:Lt 256 m)(hl:m.length<1073741824)(S:Kf.K2.Pt p)(hS:Ok2 S):
  Spec Tryz.prog 11 [s1,s2,s3] (fun w=>Rd w s1 ((pkB k).map (N .u8))∧Rd w s2 (m.map (N .u8))∧Rd w s3 ((f5 S).map (N .u8))) [] (IsV (.bool (decide (S=Kf.K2.tim (hP m kS) k)))):=
 zf s1 s2 s3 _ m S _ (m8 k) (CE h0 hk) hm hl hS (uf (f6 m kS) hS)
theorem Xm(s1 s3:Value){k:Nat}(h0:0<k)(hk:k<r)(S:Kf.K2.Pt p)(hS:Ok2 S):
  Spec Tryz.prog 12 [s1,s3] (fun w=>Rd w s1 ((pkB k).map (N .u8))∧Rd w s3 ((f5 S).map (N .u8))) [] (IsV (.bool (decide (S=Kf.K2.tim (hP (pkB k) kO) k)))):=
 ry s1 s3 _ S _ (m8 k) (CE h0 hk) (BS _) hS (uf (f6 _ kO) hS)
theorem vL(k:Nat):(pkB k).length=48:=xb _
theorem Sf(k:Nat):Lt 256 (pkB k):=BS _
theorem M1(k:Nat)(m d:List Nat):(sgB k m d).length=96:=GR _
theorem ua(bs:List Nat)(hb:Lt 256 bs)(hl:bs.length=32):Spec Tryz.prog 7 [LV .u8 bs] ai [] (fun v Wr=>∃x y,v = .tuple [x,y].toArray∧Wr=[.sl x ((bq (kN bs) 32).map (N .u8)) 22,.sl y ((pkB (kN bs)).map (N .u8)) 5]):=by
 refine ad Tryz.func7 rfl rfl rfl fun w _=>?_
 have a1:=HW bs hb hl
 have a2:=fun s=>o6 s (Aw bs) (Cl bs)
 generalize kN bs=k at *
 generalize pkB k=pk at *
 generalize bq k 32=sk at *
 repeat (first|refine mc (m:=32) (by rfl) fd (by rfl) (by rfl) hl (by rfl) ?_|(refine ax (by rfl) (by rfl) (by rfl) (a1) .nil (fun _ _=>trivial) (by rfl) ?_;rintro x _ rfl)|(refine ax (by rfl) (by rfl) (by rfl) (a2 _) .nil (RdW.own fd) (by rfl) ?_;rintro _ _ ⟨y,rfl,rfl⟩)|refine Z01 ?_|refine Z02 ?_|refine Z03 ?_|refine Z04 ?_|refine Z05 ?_|refine Z06 ?_|refine Z07 ?_|refine Z08 ?_|refine Z09 ?_|refine Z10 ?_|refine Z11 ?_|refine Z12 ?_|refine Z13 ?_|refine Z14 ?_|refine Z19 ?_|refine Z24 ?_|refine Z26 ?_|refine Z27 ?_|refine Z67 ?_|refine Z81 fun _=>?_)
 exact Ze2 fun _ hw=>aa hw (Wout:=[.sl x (sk.map (N .u8)) 22,.sl y (pk.map (N .u8)) 5]) (by exact sw) ⟨_,_,rfl,rfl⟩
set_option maxHeartbeats 4000000 in
theorem za:Spec Tryz.prog 6 [] ai [] (IsV (.bool true)):=by
 refine ad Tryz.func6 rfl rfl rfl fun w _=>?_
 have a1:=Iy
 have k1:(1:Nat)<r:=by decide +kernel
 have a2:=fun s=>o6 s (k:=1) (by decide) k1
 have a3:=fun s=>tO s (.slice none 0 0) (k:=1) (by decide) k1 [] (fun x hx=>by cases hx) (by decide)
 have a4:=fun s1 s3=>NK s1 (.slice none 0 0) s3 (k:=1) (by decide) k1 [] (fun x hx=>by cases hx) (by decide) _ (iz (f6 [] kS) 1)
 have a5:=fun s1 s2 s3=>NK s1 s2 s3 (k:=1) (by decide) k1 [1] (by unfold Lt;decide) (by decide) _ (iz (f6 [] kS) 1)
 have a6:=Bq (.slice none 0 0) (.slice none 0 0) rfl
 rw[decide_eq_true rfl]at a4
 have hne:decide (Kf.K2.tim (hP [] kS) 1=Kf.K2.tim (hP [1] kS) 1)=false:=decide_eq_false (fun h=>UP ((wq (f6 _ _) (f6 _ _) (by decide) k1).1 h).symm)
 rw[hne]at a5
 rw[show f5 (Kf.K2.tim (hP [] kS) 1)=sgB 1 [] kS from rfl]at a4 a5
 have hp:=vL 1
 have hs:=M1 1 [] kS
 generalize pkB 1=pk at *
 generalize sgB 1 [] kS=sg at *
 generalize bq 1 32=sk at *
 clear hne
 repeat (first|(refine ax (by rfl) (by rfl) (by rfl) (a1) .nil (fun _ _=>trivial) (by rfl) ?_;rintro _ _ rfl)|(refine ax (by rfl) (by rfl) (by rfl) (a2 _) .nil (RdW.own fd) (by rfl) ?_;rintro _ _ ⟨y,rfl,rfl⟩)|(refine ax (by rfl) (by rfl) (by rfl) (a3 _) .nil (fun w hw=>⟨RdW.own fd w hw,RdW.nil w hw⟩) (by rfl) ?_;rintro _ _ ⟨z,rfl,rfl⟩)|refine iC (by rfl) (by rfl) (RdW.own (xs:=pk.map (N .u8)) fd) (by rfl) ?_|refine iC (by rfl) (by rfl) (RdW.own (xs:=sg.map (N .u8)) fd) (by rfl) ?_|rw[hp]|rw[hs]|refine af (by rfl) (by rfl) (by rfl) (a4 _ _) (fun w hw=>⟨RdW.own fd w hw,RdW.nil w hw,RdW.own fd w hw⟩) (by rfl) ?_|(refine Py ?_;intro _)|refine af (by rfl) (by rfl) (by rfl) (a5 _ _ _) (fun w hw=>⟨RdW.own fd w hw,RdW.own (xs:=[1].map (N .u8)) fd w hw,RdW.own fd w hw⟩) (by rfl) ?_|refine y_4 a6 ?_|refine y_8 ?_|refine Z01 ?_|refine Z02 ?_|refine Z03 ?_|refine Z04 ?_|refine Z05 ?_|refine Z06 ?_|refine Z07 ?_|refine Z08 ?_|refine Z09 ?_|refine Z10 ?_|refine Z11 ?_|refine Z12 ?_|refine Z13 ?_|refine Z14 ?_|refine Z17 ?_|refine Z18 ?_|refine Z19 ?_|refine Z20 ?_|refine Z21 ?_|refine Z49 ?_|refine Z50 ?_|refine Z51 ?_|refine Z52 ?_|refine Z54 ?_|refine Z85 fun _=>?_)
 refine Ze1 fun _ hw=>aa hw SubW.nil ⟨?_,rfl⟩
 rfl
end
section
attribute [local irreducible] Code.wp wpList Af bodyPost L.Go ab
open Num
attribute [local simp] ae aD
attribute [local irreducible] hu g8 bi gm ee Kf.T12.one hP ec f5 Kf.K2.pa
theorem UV:1≤kS.length:=by decide +kernel
theorem UW:kS.length≤255:=by decide +kernel
theorem W7:1≤kO.length:=by decide +kernel
theorem W8:kO.length≤255:=by decide +kernel
theorem B7(P Q:Kf.K2.Pt p):(((decide (D 6 (gx P).re.val=D 6 (gx Q).re.val)&&decide (D 6 (gx P).im.val=D 6 (gx Q).im.val))&&(decide (D 6 (gy P).re.val=D 6 (gy Q).re.val)&&decide (D 6 (gy P).im.val=D 6 (gy Q).im.val)))&&decide (gi P=gi Q))=decide (P=Q):=by
 rw[← Bool.decide_and,← Bool.decide_and,← Bool.decide_and,← Bool.decide_and]
 refine decide_eq_decide.mpr ⟨fun⟨⟨⟨h1,h2⟩,h3,h4⟩,h5⟩=>?_,fun h=>by rw[h];simp⟩
 have e1:gx P=gx Q:=qg (by rw[E2,E2,h1,h2])
 have e2:gy P=gy Q:=qg (by rw[E2,E2,h3,h4])
 rw[← kl P,← kl Q,e1,e2,h5]
theorem LL(P:Kf.K2.Pt p):decide (P=none)=gi P:=by
 cases P with
 | none=>rfl
 | some q=>simp[gi]
theorem XD(s1 s2 s3:Value){i:Nat}(ki:0<i∧i<r)(x y:List Nat)(hy:Lt 256 y)(hl:y.length<1073741824):
  Spec Tryz.prog 11 [s1,s2,s3] (fun w=>Rd w s1 ((pkB i).map (N .u8))∧Rd w s2 (y.map (N .u8))∧Rd w s3 ((sgB i x kS).map (N .u8))) [] (IsV (.bool (decide (hP x kS=hP y kS)))):=by
 have h:=NK s1 s2 s3 ki.1 ki.2 y hy hl _ (iz (f6 x kS) i)
 rw[decide_eq_decide.mpr (wq (f6 x kS) (f6 y kS) ki.1 ki.2)]at h
 exact h
theorem Xl(s1 s3:Value){i:Nat}(ki:0<i∧i<r)(x:List Nat):
  Spec Tryz.prog 12 [s1,s3] (fun w=>Rd w s1 ((pkB i).map (N .u8))∧Rd w s3 ((sgB i x kS).map (N .u8))) [] (IsV (.bool (decide (hP x kS=hP (pkB i) kO)))):=by
 have h:=Xm s1 s3 ki.1 ki.2 _ (iz (f6 x kS) i)
 rw[decide_eq_decide.mpr (wq (f6 x kS) (f6 (pkB i) kO) ki.1 ki.2)]at h
 exact h
theorem XE(s1 s2 s3:Value){i j:Nat}(ki:0<i∧i<r)(kj:0<j∧j<r)(x:List Nat)(hx:Lt 256 x)(hl:x.length<1073741824):
  Spec Tryz.prog 11 [s1,s2,s3] (fun w=>Rd w s1 ((pkB j).map (N .u8))∧Rd w s2 (x.map (N .u8))∧Rd w s3 ((sgB i x kS).map (N .u8))) [] (IsV (.bool (decide (i=j∨hP x kS=none)))):=by
 have h:=NK s1 s2 s3 kj.1 kj.2 x hx hl _ (iz (f6 x kS) i)
 rw[decide_eq_decide.mpr (JU (f6 x kS) ki.2 kj.2)]at h
 exact h
theorem Vz(s t:Value){i j:Nat}(ki:i<r)(kj:j<r):Spec Tryz.prog 10 [s,t] (fun w=>Rd w s ((bq i 32).map (N .u8))∧Rd w t ((bq j 32).map (N .u8))) [] (IsV (.bool (decide (i=j)))):=by
 have h:=tM s t (bq i 32) (bq j 32) (by rw[aD];decide)
 rw[decide_eq_decide.mpr (SL ki kj)]at h
 exact h
theorem Vy(s t:Value){i j:Nat}(ki:i<r)(kj:j<r):Spec Tryz.prog 10 [s,t] (fun w=>Rd w s ((pkB i).map (N .u8))∧Rd w t ((pkB j).map (N .u8))) [] (IsV (.bool (decide (i=j)))):=by
 have h:=tM s t (pkB i) (pkB j) (by rw[vL];decide)
 rw[decide_eq_decide.mpr (Sg ki kj)]at h
 exact h
theorem KA{a b:Prop}(k:b)(h:Rm b→a:=by intro k;refine af (by rfl) (by rfl) (by rfl) (za) (fun _ _=>trivial) (by rfl) ?_;exact k.h):a:=h ⟨k⟩
theorem KB{a b:Prop}(k:b)(h:Rm b→a:=by intro k;(first|refine Z01 ?_|refine Z02 ?_|refine Z03 ?_|refine Z04 ?_|refine Z05 ?_|refine Z06 ?_|refine Z07 ?_|refine Z08 ?_|refine Z09 ?_|refine Z10 ?_|refine Z11 ?_|refine Z12 ?_|refine Z13 ?_|refine Z14 ?_|refine Z17 ?_|refine Z18 ?_|refine Z19 ?_|refine Z20 ?_|refine Z21 ?_|refine Z24 ?_|refine Z26 ?_|refine Z27 ?_|refine Z29 ?_|refine Z30 ?_|refine Z31 ?_|refine Z32 ?_|refine Z44 ?_|refine Z45 ?_|refine Z49 ?_|refine Z50 ?_|refine Z51 ?_|refine Z52 ?_|refine Z67 ?_|refine Z68 ?_|refine Z69 ?_|refine Z74 ?_|refine Z77 ?_|refine Z78 ?_|refine Z79 ?_);exact k.h):a:=h ⟨k⟩
theorem DE{S1 a b:Prop}(s1:S1)(k:b)(h:S1→Rm b→a:=by intro s1 k;refine Ni (m:=6) (hr:=s1) (by rfl) (by rfl) (by rfl) (by kernel_rfl) (by rfl) (by rfl) (by rfl) (by rfl) (by rfl) (by rfl) (by rfl) (by rfl) (by rfl) (by rfl) (by rfl) (by kernel_rfl) (by rfl) (by rfl) (by rfl) (by rfl) (by rfl) (by rfl) (by rfl) (by rfl) (by rfl) (by rfl) (by kernel_rfl) (by simp;done) (by simp;done) (by simp;done) (by simp;done) (by simp;done) (by simp;done) (by simp;done) (by simp;done) (by rfl) ?_;exact k.h):a:=h s1 ⟨k⟩
theorem PB{a b:Prop}(k:b)(h:Rm b→a:=by intro k;(first|refine Z01 ?_|refine Z02 ?_|refine Z17 ?_|refine Z18 ?_|refine Z19 ?_|refine Z20 ?_|refine Z21 ?_|refine Z44 ?_|refine Z45 ?_|refine Z49 ?_|refine Z50 ?_|refine Z68 ?_|refine Z69 ?_|refine Z74 ?_|refine Z77 ?_|refine Z78 ?_|refine Z79 ?_);exact k.h):a:=h ⟨k⟩
theorem PC{a b:Prop}(k:b)(h:Rm b→a:=by intro k;refine Zqp (by intro _ _ _;refine db (m:=24) (by rfl) fd (by rfl) (by rfl) (by first|with_reducible assumption|simp) (by rfl) ?_;exact Zq) ?_;exact k.h):a:=h ⟨k⟩
theorem PD{a b:Prop}(k:b)(h:Rm b→a:=by intro k;refine Zqp (by intro _ _ _;(first|refine Z24 ?_|refine Z26 ?_|refine Z27 ?_|refine Z67 ?_|refine Z20 ?_|refine Z21 ?_);exact Zq) ?_;exact k.h):a:=h ⟨k⟩
set_option maxHeartbeats 8000000 in
theorem lawApart_spec(a1:List Nat)(l1:a1.length=32)(b1:Lt 256 a1)(a2:List Nat)(l2:a2.length=32)(b2:Lt 256 a2)
  (s1:Value) (x:List Nat) (hx:Lt 256 x) (x63:x.length<9223372036854775808) (s2:Value) (y:List Nat) (hy:Lt 256 y) (y63:y.length<9223372036854775808):
  Spec Tryz.prog 3 [LV .u8 a1,LV .u8 a2,s1,s2] (fun w=>Rd w s1 (x.map (N .u8))∧Rd w s2 (y.map (N .u8))) [] (IsV (.bool true)):=by
 refine ad Tryz.func3 rfl rfl rfl fun w hr=>?_
 have h1:=RdC.mk0 hr.1
 have h2:=RdC.mk0 hr.2
 have hl0:=fun x=>ae 6 x
 have hle:=fun x:F2=>ak x
 by_cases c1:x.length≤300
 case neg=>
  repeat (first|refine KA ?_|refine y_8 ?_|refine Z01 ?_|refine Z02 ?_|refine Z03 ?_|refine Z04 ?_|refine Z05 ?_|refine Z06 ?_|refine Z07 ?_|refine Z08 ?_|refine Z09 ?_|refine Z10 ?_|refine Z11 ?_|refine Z12 ?_|refine Z13 ?_|refine Z14 ?_|refine Z17 ?_|refine Z18 ?_|refine Z19 ?_|refine Z20 ?_|refine Z21 ?_|refine Z24 ?_|refine Z26 ?_|refine Z27 ?_|refine Z29 ?_|refine Z30 ?_|refine Z31 ?_|refine Z32 ?_|refine Z44 ?_|refine Z45 ?_|refine Z49 ?_|refine Z50 ?_|refine Z51 ?_|refine Z52 ?_|refine Z67 ?_|refine Z68 ?_|refine Z69 ?_|refine Z74 ?_|refine Z77 ?_|refine Z78 ?_|refine Z79 ?_|refine Z81 fun _=>?_|refine Z82 fun _=>?_|refine Z85 fun _=>?_)
  refine Ze1 fun _ hw=>aa hw SubW.nil ⟨?_,rfl⟩
  rfl
 by_cases c2:y.length≤300
 case neg=>
  repeat (first|refine KA ?_|refine y_8 ?_|refine y_5 ?_|refine Z01 ?_|refine Z02 ?_|refine Z03 ?_|refine Z04 ?_|refine Z05 ?_|refine Z06 ?_|refine Z07 ?_|refine Z08 ?_|refine Z09 ?_|refine Z10 ?_|refine Z11 ?_|refine Z12 ?_|refine Z13 ?_|refine Z14 ?_|refine Z17 ?_|refine Z18 ?_|refine Z19 ?_|refine Z20 ?_|refine Z21 ?_|refine Z24 ?_|refine Z26 ?_|refine Z27 ?_|refine Z29 ?_|refine Z30 ?_|refine Z31 ?_|refine Z32 ?_|refine Z44 ?_|refine Z45 ?_|refine Z49 ?_|refine Z50 ?_|refine Z51 ?_|refine Z52 ?_|refine Z67 ?_|refine Z68 ?_|refine Z69 ?_|refine Z74 ?_|refine Z77 ?_|refine Z78 ?_|refine Z79 ?_|refine Z81 fun _=>?_|refine Z82 fun _=>?_|refine Z85 fun _=>?_)
  refine Ze1 fun _ hw=>aa hw SubW.nil ⟨?_,rfl⟩
  rfl
 have ki:=And.intro (Aw a1) (Cl a1)
 have kj:=And.intro (Aw a2) (Cl a2)
 have t1:=ua a1 b1 l1
 have t2:=ua a2 b2 l2
 generalize kN a1=i at *
 generalize kN a2=j at *
 have g1:=fun u=>tO u s1 ki.1 ki.2 x hx (by omega)
 have q1:=fun d=>xF s1 d x kS hx Cm (by omega) UV UW
 have q2:=fun d=>xF s2 d y kS hy Cm (by omega) UV UW
 have q3:=fun s d=>xF s d (pkB i) kO (Sf _) OG (by rw[vL];decide) W7 W8
 have m1:=fun s t=>Vz s t ki.2 kj.2
 have m2:=fun s t=>Vy s t ki.2 kj.2
 have v1:=fun u z=>XD u s2 z ki x y hy (by omega)
 have v2:=fun u z=>Xl u z ki x
 have v3:=fun u z=>XE u s1 z ki kj x hx (by omega)
 clear ki kj
 have e1:=B7 (hP x kS) (hP y kS)
 have e2:=B7 (hP x kS) (hP (pkB i) kO)
 have e3:=LL (hP x kS)
 rw[wG]at q1 q2 q3
 generalize hP x kS=X at *
 generalize hP y kS=Y at *
 generalize hP (pkB i) kO=O at *
 generalize hb1:decide (X=Y)=d1 at *
 generalize hb2:decide (X=O)=d2 at *
 clear hb1 hb2
 generalize gx X=xx at *
 generalize gy X=xy at *
 generalize gi X=xi at *
 generalize gx Y=yx at *
 generalize gy Y=yy at *
 generalize gi Y=yi at *
 generalize gx O=ox at *
 generalize gy O=oy at *
 generalize gi O=oi at *
 repeat (first|refine KA ?_|refine y_5 ?_|refine mc (m:=32) (by rfl) fd (by rfl) (by rfl) (by first | exact l1 | exact l2) (by rfl) ?_|(refine ax (by rfl) (by rfl) (by rfl) (t1) .nil (fun _ _=>trivial) (by rfl) ?_;rintro _ _ ⟨k1,f1,rfl,rfl⟩)|(refine ax (by rfl) (by rfl) (by rfl) (t2) .nil (fun _ _=>trivial) (by rfl) ?_;rintro _ _ ⟨k2,f2,rfl,rfl⟩)|(refine ax (by rfl) (by rfl) (by rfl) (g1 _) .nil (fun w hw=>⟨RdW.own fd w hw,RdW.old h1 w hw⟩) (by rfl) ?_;rintro _ _ ⟨z1,rfl,rfl⟩)|refine bL (vs:=kS) (kk:=.u8) (by rfl) (by rfl) (by rfl) (by rfl) (by rfl) (by rfl) (by rfl) (by rfl) fun _=>?_|refine rZ (xs:=kS.map (N .u8)) (by rfl) fd (by simp[kS]) (by rfl) (by rfl) (by rfl) ?_|refine bL (vs:=kO) (kk:=.u8) (by rfl) (by rfl) (by rfl) (by rfl) (by rfl) (by rfl) (by rfl) (by rfl) fun _=>?_|refine rZ (xs:=kO.map (N .u8)) (by rfl) fd (by simp[kO]) (by rfl) (by rfl) (by rfl) ?_|refine af (by rfl) (by rfl) (by rfl) (q1 _) (fun w hw=>⟨RdW.old h1 w hw,RdW.own fd w hw⟩) (by rfl) ?_|refine af (by rfl) (by rfl) (by rfl) (q2 _) (fun w hw=>⟨RdW.old h2 w hw,RdW.own fd w hw⟩) (by rfl) ?_|refine af (by rfl) (by rfl) (by rfl) (q3 _ _) (fun w hw=>⟨RdW.own fd w hw,RdW.own fd w hw⟩) (by rfl) ?_|(refine ct ?_;intro _)|refine dG ?_|refine af (by rfl) (by rfl) (by rfl) (m1 _ _) (fun w hw=>⟨RdW.own fd w hw,RdW.own fd w hw⟩) (by rfl) ?_|refine af (by rfl) (by rfl) (by rfl) (m2 _ _) (fun w hw=>⟨RdW.own fd w hw,RdW.own fd w hw⟩) (by rfl) ?_|refine KB ?_|refine Z81 fun _=>?_|refine Z82 fun _=>?_|refine Z85 fun _=>?_)
 have hd1:decide (d1=d1)=true:=decide_eq_true rfl
 have hd2:decide (d2=d2)=true:=decide_eq_true rfl
 have hd3:decide (xi=xi)=true:=decide_eq_true rfl
 by_cases hk:i=j
 ·rw[decide_eq_true (.inl hk)]at v3
  rw[decide_eq_true hk]
  clear hk
  refine au (by rfl) ?_
  repeat (first|(refine Zqf (by intro _ _ _;(first|(refine ma (by rfl) (by rfl) (by rfl) (by rfl) ?_;rw[hd1])|(refine ma (by rfl) (by rfl) (by rfl) (by rfl) ?_;rw[hd2])|(refine ma (by rfl) (by rfl) (by rfl) (by rfl) ?_;rw[hd3])|refine Kv ?_|refine DE e1 ?_|refine DE e2 ?_|refine PB ?_);exact Zq) ?_)|refine PC ?_|refine uk ?_|(refine Zqp (by intro _ _ _;refine af (by rfl) (by rfl) (by rfl) (v1 _ _) (fun w hw=>⟨RdW.own fd w hw,RdW.old (h2.shift (by assumption)) w hw,RdW.own fd w hw⟩) (by rfl) ?_;exact Zq) ?_)|(refine Zqp (by intro _ _ _;refine af (by rfl) (by rfl) (by rfl) (v2 _ _) (fun w hw=>⟨RdW.own fd w hw,RdW.own fd w hw⟩) (by rfl) ?_;exact Zq) ?_)|(refine Zqp (by intro _ _ _;refine af (by rfl) (by rfl) (by rfl) (v3 _ _) (fun w hw=>⟨RdW.own fd w hw,RdW.old (h1.shift (by assumption)) w hw,RdW.own fd w hw⟩) (by rfl) ?_;exact Zq) ?_)|refine PD ?_|refine fq ?_|refine Zqn ?_)
  refine Zq0 ?_ (by kernel_rfl)
  repeat (first|refine KB ?_|refine Z81 fun _=>?_|refine Z82 fun _=>?_|refine Z85 fun _=>?_)
  refine Ze1 fun _ hw=>aa hw SubW.nil ⟨?_,rfl⟩
  rfl
 ·rw[show decide (i=j∨X=none)=xi by rw[← e3];exact decide_eq_decide.mpr (or_iff_right hk)]at v3
  rw[decide_eq_false hk]
  clear hk
  refine au (by rfl) ?_
  repeat (first|(refine Zqf (by intro _ _ _;(first|(refine ma (by rfl) (by rfl) (by rfl) (by rfl) ?_;rw[hd1])|(refine ma (by rfl) (by rfl) (by rfl) (by rfl) ?_;rw[hd2])|(refine ma (by rfl) (by rfl) (by rfl) (by rfl) ?_;rw[hd3])|refine Kv ?_|refine DE e1 ?_|refine DE e2 ?_|refine PB ?_);exact Zq) ?_)|refine PC ?_|refine uk ?_|(refine Zqp (by intro _ _ _;refine af (by rfl) (by rfl) (by rfl) (v1 _ _) (fun w hw=>⟨RdW.own fd w hw,RdW.old (h2.shift (by assumption)) w hw,RdW.own fd w hw⟩) (by rfl) ?_;exact Zq) ?_)|(refine Zqp (by intro _ _ _;refine af (by rfl) (by rfl) (by rfl) (v2 _ _) (fun w hw=>⟨RdW.own fd w hw,RdW.own fd w hw⟩) (by rfl) ?_;exact Zq) ?_)|(refine Zqp (by intro _ _ _;refine af (by rfl) (by rfl) (by rfl) (v3 _ _) (fun w hw=>⟨RdW.own fd w hw,RdW.old (h1.shift (by assumption)) w hw,RdW.own fd w hw⟩) (by rfl) ?_;exact Zq) ?_)|refine PD ?_|refine fq ?_|refine Zqn ?_)
  refine Zq0 ?_ (by kernel_rfl)
  repeat (first|refine KB ?_|refine Z81 fun _=>?_|refine Z82 fun _=>?_|refine Z85 fun _=>?_)
  refine Ze1 fun _ hw=>aa hw SubW.nil ⟨?_,rfl⟩
  rfl
end
section
variable {P:Program}
theorem slice_spot{w:World}{r:Reach}{base:Nat}{t e:TypeId}{a:Option Addr}{len cap:Nat}(ht:P.underlying t=some (.slice e))(h:Value.okWide P w r base t (.slice a len cap)):
  ∀x,a=some x→x.spot=none:=by
 intro x hx
 subst hx
 simp only[Value.okWide,ht,Cell.okWide,Cell.ok,World.has]at h
 exact h.2.2.2.1
theorem row_nat{k:IntKind}{m:Nat}(hk:ub k=some m){w:World}{a:Option Addr}{len cap:Nat}{zs:List Int}
  (h:(a=none∧len=0∧cap=0∧zs=[]) ∨
   ∃x,a=some x∧len≤cap∧cap≤maxLen∧zs.length=cap∧(∀i,i<zs.length→w.cell? (x.add i)=some (.int k (zs.getD i 0)))∧∀n∈zs,(Lit.int k n).wf=true)
  (hs:∀x,a=some x→x.spot=none):∃bs:List Nat,Rd w (.slice a len cap) (bs.map (N k))∧(∀x∈bs,x<m)∧bs.length<9223372036854775808:=by
 rcases h with⟨rfl,rfl,rfl,rfl⟩ | ⟨x,rfl,h1,h2,h3,h4,h5⟩
 ·exact⟨[],Rd.nil w,by simp,by decide⟩
 ·have hn:∀n∈zs,0≤n∧n<(m:Int):=by
   intro n hn
   have:=h5 n hn
   cases k <;> simp[ub]at hk <;> subst hk <;> simp[Lit.wf,IntKind.min,IntKind.max,IntKind.signed,IntKind.bits]at this ⊢ <;> omega
  have hg:∀i,i<zs.length→Int.ofNat (zs.getD i 0).toNat=zs.getD i 0:=by
   intro i hi
   have:zs.getD i 0∈zs:=by simp[List.getD_eq_getElem?_getD,hi]
   have:=hn _ this
   show(((zs.getD i 0).toNat:Nat):Int)=_
   omega
  refine⟨(zs.take len).map Int.toNat,⟨⟨some x,cap,?_,?_,by simp,by simpa using hs⟩,?_⟩,?_,?_⟩
  ·simp;omega
  ·simp;omega
  ·intro i v hv
   have hi:i<len∧i<zs.length:=by
    have:=(List.getElem?_eq_some_iff.mp hv).1
    simp at this;omega
   have e1:=h4 i hi.2
   rw[← hg i hi.2]at e1
   show w.cell? (x.add i)=_
   rw[e1]
   simp[hi.1,hi.2]at hv
   rw[← hv]
   simp[N,List.getD_eq_getElem?_getD,hi.2]
  ·intro y hy
   simp only[List.mem_map]at hy
   obtain⟨n,hn',rfl⟩:=hy
   have:=hn n (List.mem_of_mem_take hn')
   omega
  ·have:cap≤2^63-1:=h2
   simp;omega
theorem AM{k:IntKind}{m:Nat}(hk:ub k=some m){x:Int}(h:k.has x):∃y:Nat,x=Int.ofNat y∧y<m:=by
 have:0≤x∧x<(m:Int):=by
  cases k <;> simp[ub]at hk <;> subst hk <;> simp[IntKind.has,IntKind.min,IntKind.max,IntKind.signed,IntKind.bits]at h ⊢ <;> omega
 exact⟨x.toNat,by show x=((x.toNat:Nat):Int);omega,by omega⟩
theorem okWide_LV{k:IntKind}{m n:Nat}{t e:TypeId}{w:World}{r:Reach}{base:Nat}{v:Value}(hk:ub k=some m)(hs:cD P t=true)(hcell:P.cellTypes P.depth t=some (List.replicate n e))
  (he:P.underlying e=some (.int k)) (hc:P.cellsOf t=n) (h:Value.okWide P w r base t v):∃ys:List Nat,v=LV k ys∧ys.length=n∧∀x∈ys,x<m:=by
 have h':∃cs,v = .agg cs∧cs.size=P.cellsOf t∧Row.okWide P w r base t cs:=by
  unfold cD at hs
  unfold Value.okWide at h
  cases hu:P.underlying t with
  | none=>rw[hu]at hs;simp at hs
  | some d=>
   rw[hu]at hs h
   cases d <;> simp at hs <;> simpa using h
 obtain⟨cs,rfl,hcs,ts,hts,_,hrow⟩:=h'
 rw[hcell]at hts;cases hts
 have key:∀l:List Value,(∀(i:Nat)(v:Value),l[i]?=some v→∃y:Nat,v=N k y∧y<m)→∃ys:List Nat,l=ys.map (N k)∧∀x∈ys,x<m:=by
  intro l
  induction l with
  | nil=>intro _;exact⟨[],rfl,by simp⟩
  | cons v l ih=>
   intro hl
   obtain⟨ys,h1,h2⟩:=ih (fun i v hv=>hl (i+1) v (by simpa using hv))
   obtain⟨y,h3,h4⟩:=hl 0 v rfl
   exact⟨y::ys,by simp[h1,h3],by simpa using⟨h4,h2⟩⟩
 obtain⟨ys,h1,h2⟩:=key cs.toList (fun i v hv=>by
  obtain⟨u,hu,hok⟩:=hrow i v (by simpa using hv)
  have hu':u=e:=by
   rw[List.getElem?_replicate]at hu
   split at hu
   ·exact(Option.some.inj hu).symm
   ·cases hu
  subst hu'
  unfold Cell.okWide Cell.ok at hok
  rw[he]at hok
  cases v <;> simp at hok
  obtain⟨rfl,hok⟩:=hok
  obtain⟨y,hy,hlt⟩:=AM hk hok
  exact⟨y,by rw[hy],hlt⟩)
 refine⟨ys,?_,?_,h2⟩
 ·unfold LV;rw[← h1]
 ·have:=congrArg List.length h1
  simp at this;omega
theorem post_bool{w w':World}{e:Ending}(h:mm (IsV (.bool true)) [] w e w'):e = .returned (.bool true)∧RowKit.Below w.heap.size w w':=by
 obtain⟨v,Wout,⟨rfl,_⟩,he,hx,_⟩:=h
 exact⟨he,hx.below⟩
end
end Go.Proofs.YtndhfbecpghinaaGreat.L
