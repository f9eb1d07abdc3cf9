/- What the proof of the statement about TopTogether stands on, part K. Conditions: as each statement says. -/
import Derived.Test.YtndhfbecpghinaaGreatTopTogetherJ
import Derived.ProofKit
import Derived.Test.YtndhfbecpghinaaGreatProg
import Derived.WalkKit
namespace Go.Proofs.YtndhfbecpghinaaGreat.L
open Go Go.Proofs
set_option maxRecDepth 100000
section
attribute [local irreducible] Code.wp wpList Af bodyPost L.Go ab
open Num
attribute [local simp] ae aD
attribute [local irreducible] gh da hu gY bi fY dU hP Kf.T12.one Kf.K2.pa
theorem Kl{a b:Prop}(k:b)(h:Rm b→a:=by intro k;(first|refine Z01 ?_|refine Z02 ?_|refine Z03 ?_|refine Z04 ?_|refine Z05 ?_|refine Z06 ?_|refine Z07 ?_|refine Z08 ?_|refine Z09 ?_|refine Z10 ?_|refine Z11 ?_|refine Z12 ?_|refine Z13 ?_|refine Z14 ?_);exact k.h):a:=h ⟨k⟩
theorem yT(s1 s2 s3:Value)(P:Kf.K2.Pt p)(m:List Nat)(S:Kf.K2.Pt p)(r:Bool)(hk:Ok1 P)(hg:gi P=false)(hm:Lt 256 m)(hl:m.length<1073741824)(hS:Ok2 S)
  (hr:decide (fY (dU [P,Kf.K2.pn bh] [hP m kS,S] (bi []))=Kf.T12.one)=r):
  Spec Tryz.prog 11 [s1,s2,s3] (fun w=>Rd w s1 ((gh P).map (N .u8))∧Rd w s2 (m.map (N .u8))∧Rd w s3 ((da S).map (N .u8))) [] (IsV (.bool r)):=by
 refine ad Tryz.func11 rfl rfl rfl fun w hr0=>?_
 have h1:=RdC.mk0 hr0.1
 have h2:=RdC.mk0 hr0.2.1
 have h3:=RdC.mk0 hr0.2.2
 have o1:=hr0.1.one
 have o2:=hr0.2.1.one
 have a1:=fun v1 v2 ho=>wJ v1 v2 s3 ho [(s1,P)] [(s2,m)] S kS r (by simp) (by simp) rfl (fun q hq=>by rw[List.mem_singleton.1 hq];exact hk) (fun q hq=>by rw[List.mem_singleton.1 hq];exact hg)
  (fun q hq=>by rw[List.mem_singleton.1 hq];exact⟨hm,hl⟩) hS HN (by decide) (by decide) hr
 rw[u9]at a1
 repeat (first|(refine br (E:=23) (vs:=[s1]) (by rfl) (by rfl) (by rfl) (by rfl) (by rfl) (by rfl) (by rfl) (by simp[o1]) (by rfl) (by rfl) fun _=>?_;refine iz (fun w hw=>(RdW.own fd w hw).one) fun ho=>?_)|refine br (E:=23) (vs:=[s2]) (by rfl) (by rfl) (by rfl) (by rfl) (by rfl) (by rfl) (by rfl) (by simp[o2]) (by rfl) (by rfl) fun _=>?_|(refine ah (by rfl) (by rfl) (by rfl) (a1 _ _ ho) (fun w hw=>⟨RdW.own fd w hw,fun q hq=>by rw[List.mem_singleton.1 hq];exact RdW.old h1 w hw,RdW.own fd w hw,fun q hq=>by rw[List.mem_singleton.1 hq];exact RdW.old h2 w hw,RdW.old h3 w hw⟩) (by rfl) ?_)|refine Kl ?_|refine Z85 fun _=>?_)
 refine Ze1 fun _ hw=>aa hw SubW.nil ⟨?_,rfl⟩
 rfl
theorem Bc(s2 s3:Value)(o2:s2.oneCell'=true):Spec Tryz.prog 11 [.slice none 0 0,s2,s3] ai [] (IsV (.bool false)):=by
 refine ad Tryz.func11 rfl rfl rfl fun w hr0=>?_
 have a1:=fun v1 v2 ho=>K7 v1 v2 s3 (STR kS) ho s2
 rw[u9]at a1
 repeat (first|(refine br (E:=23) (vs:=[.slice none 0 0]) (by rfl) (by rfl) (by rfl) (by rfl) (by rfl) (by rfl) (by rfl) (by rfl) (by rfl) (by rfl) fun _=>?_;refine iz (fun w hw=>(RdW.own fd w hw).one) fun ho=>?_)|refine br (E:=23) (vs:=[s2]) (by rfl) (by rfl) (by rfl) (by rfl) (by rfl) (by rfl) (by rfl) (by simp[o2]) (by rfl) (by rfl) fun _=>?_|refine ah (by rfl) (by rfl) (by rfl) (a1 _ _ ho) (fun w hw=>⟨RdW.own fd w hw,RdW.own fd w hw⟩) (by rfl) ?_|refine Kl ?_|refine Z85 fun _=>?_)
 refine Ze1 fun _ hw=>aa hw SubW.nil ⟨?_,rfl⟩
 rfl
theorem qg(s1 s2 s3:Value)(ks:List (Value×Kf.K2.Pt p))(ms:List (Value×List Nat))(S:Kf.K2.Pt p)(r:Bool)(h0:0<ks.length)(h9:ks.length<900)(hl:ms.length=ks.length)
  (hk:∀q∈ks,Ok1 q.2) (hg:∀q∈ks,gi q.2=false) (hm:∀q∈ms,Lt 256 q.2∧q.2.length<1073741824) (hS:Ok2 S)
  (hr:decide (fY (dU (ks.map (·.2)++[Kf.K2.pn bh]) (hPs kS ms++[S]) (bi []))=Kf.T12.one)=r):
  Spec Tryz.prog 16 [s1,s2,s3] (fun w=>Rd w s1 (ks.map (·.1))∧(∀q∈ks,Rd w q.1 ((gh q.2).map (N .u8)))∧Rd w s2 (ms.map (·.1))∧(∀q∈ms,Rd w q.1 (q.2.map (N .u8)))∧Rd w s3 ((da S).map (N .u8))) [] (IsV (.bool r)):=by
 refine ad Tryz.func16 rfl rfl rfl fun w hr0=>?_
 have h1:=RdC.mk0 hr0.1
 have h2:∀q∈ks,RdC ⟨w,fps []⟩ q.1 ((gh q.2).map (N .u8)):=fun q hq=>RdC.mk0 (hr0.2.1 q hq)
 have h3:=RdC.mk0 hr0.2.2.1
 have h4:∀q∈ms,RdC ⟨w,fps []⟩ q.1 (q.2.map (N .u8)):=fun q hq=>RdC.mk0 (hr0.2.2.2.1 q hq)
 have h5:=RdC.mk0 hr0.2.2.2.2
 have a1:=wJ s1 s2 s3 hr0.1.one ks ms S kS r h0 h9 hl hk hg hm hS HN (by decide) (by decide) hr
 rw[u9]at a1
 repeat (first|refine ah (by rfl) (by rfl) (by rfl) (a1) (fun w hw=>⟨RdW.old h1 w hw,fun q hq=>RdW.old (h2 q hq) w hw,RdW.old h3 w hw,fun q hq=>RdW.old (h4 q hq) w hw,RdW.old h5 w hw⟩) (by rfl) ?_|refine Kl ?_)
 refine Ze1 fun _ hw=>aa hw SubW.nil ⟨?_,rfl⟩
 rfl
def mc(ss:List (Value×Kf.K2.Pt p)):Kf.K2.Pt p:=ss.foldl (fun a q=>Kf.K2.pa a q.2) none
theorem SR{ss:List (Value×Kf.K2.Pt p)}{i:Nat}{q:Value×Kf.K2.Pt p}(h:ss[i]?=some q):Kf.K2.pa (mc (ss.take i)) q.2=mc (ss.take (i+1)):=by
 unfold mc
 rw[List.take_add_one,h];simp
theorem No{ss:List (Value×Kf.K2.Pt p)}(h:∀q∈ss,Ok2 q.2):Ok2 (mc ss):=by
 have:∀(l:List (Value×Kf.K2.Pt p))(a:Kf.K2.Pt p),Ok2 a→(∀q∈l,Ok2 q.2)→Ok2 (l.foldl (fun a q=>Kf.K2.pa a q.2) a):=by
  intro l
  induction l with
  | nil=>intro a ha _;exact ha
  | cons q l ih=>intro a ha hl;exact ih _ (rp ha (hl q (by simp))) (fun q hq=>hl q (by simp[hq]))
 exact this ss none xL h
theorem Dn{a b:Prop}(k:b)(h:Rm b→a:=by intro k;(first|refine Z01 ?_|refine Z02 ?_|refine Z03 ?_|refine Z04 ?_|refine Z05 ?_|refine Z06 ?_|refine Z07 ?_|refine Z08 ?_|refine Z09 ?_|refine Z10 ?_|refine Z11 ?_|refine Z12 ?_|refine Z13 ?_|refine Z14 ?_|refine Z15 ?_|refine Z17 ?_|refine Z18 ?_|refine Z19 ?_|refine Z20 ?_|refine Z21 ?_|refine Z22 ?_|refine Z23 ?_|refine Z24 ?_|refine Z26 ?_|refine Z27 ?_|refine Z29 ?_|refine Z30 ?_|refine Z31 ?_|refine Z32 ?_|refine Z67 ?_);exact k.h):a:=h ⟨k⟩
set_option maxHeartbeats 4000000 in
theorem qf(s:Value)(ss:List (Value×Kf.K2.Pt p))(h0:0<ss.length)(h9:ss.length<1000)(hk:∀q∈ss,Ok2 q.2):
  Spec Tryz.prog 15 [s] (fun w=>Rd w s (ss.map (·.1))∧∀q∈ss,Rd w q.1 ((da q.2).map (N .u8))) [] (fun v Wr=>∃x,v = .tuple [x,N .i64 0].toArray∧Wr=[.sl x ((da (mc ss)).map (N .u8)) 5]):=by
 refine ad Tryz.func15 rfl rfl rfl fun w hr=>?_
 have h1:=RdC.mk0 hr.1
 have h2:∀q∈ss,RdC ⟨w,fps []⟩ q.1 ((da q.2).map (N .u8)):=fun q hq=>RdC.mk0 (hr.2 q hq)
 have hl0:=fun x=>ae 6 x
 have hle:=fun x:F2=>ak x
 have hls:(ss.map (·.1)).length=ss.length:=List.length_map ..
 repeat (first|refine pc ?_|(refine co ?_;intro _)|refine dt ?_|refine y_5 ?_|rw[hls]|refine Dn ?_|refine Z82 fun _=>?_)
 rename_i p4
 refine ay (ι:=Nat) (fun i=>i≤ss.length) (fun i=>[(4,pt p4 0),(13,s),(14,N .i64 ss.length),(15,N .i64 i)]) (fun i=>[.blk p4 (GV (mc (ss.take i))) 36]) (fun i=>ss.length-i) 0 (by omega) sbq (by show SubW [.blk p4 (GV none) _] _;rw[kD];exact sw) ?_
 intro i hi
 repeat (first|refine Dn ?_|refine Z82 fun _=>?_)
 refine an (by rfl) (fun h=>?_) (fun h=>?_)
 ·obtain⟨⟨u,P⟩,hq⟩:∃q,ss[i]?=some q:=⟨ss[i],by simp[h]⟩
  have hmem:=List.mem_of_getElem? hq
  have hu:=h2 (u,P) hmem
  have hP:=hk (u,P) hmem
  have hs:=SR hq
  simp only at hu hP hs
  have a1:=qo u hP
  have a2:=Hl (mc (ss.take i)) P
  rw[hs]at a2
  generalize hB:mc (ss.take (i+1))=B at *
  generalize mc (ss.take i)=A at *
  obtain⟨xP,yP,iP,qP⟩:∃x y i,GV P=GE x y i:=⟨_,_,_,rfl⟩
  obtain⟨xA,yA,iA,qA⟩:∃x y i,GV A=GE x y i:=⟨_,_,_,rfl⟩
  obtain⟨xB,yB,iB,qB⟩:∃x y i,GV B=GE x y i:=⟨_,_,_,rfl⟩
  rw[qP]at a1 a2
  rw[qA]at a2 ⊢
  rw[qB]at a2
  repeat (first|refine eq (v:=u) (by rfl) (RdW.old h1) (by simp[hq]) (by rfl) (by rfl) ?_|refine ah (by rfl) (by rfl) (by rfl) (a1) (RdW.old hu) (by rfl) ?_|(refine co ?_;intro _)|refine dt ?_|refine y_5 ?_|refine du ?_|refine y_4 a2 ?_|refine Dn ?_|refine Z82 fun _=>?_)
  exact ao (i+1) (by omega) (by omega) sbq (by rw[hB,qB];exact sw)
 ·have hil:i=ss.length:=by omega
  subst hil
  rw[List.take_length]
  have a3:=mE (No hk)
  obtain⟨xA,yA,iA,qA⟩:∃x y i,GV (mc ss)=GE x y i:=⟨_,_,_,rfl⟩
  rw[qA]at a3 ⊢
  repeat (first|refine du ?_|(refine aw (by rfl) (by rfl) (by rfl) (a3) .nil (fun _ _=>trivial) (by rfl) ?_;rintro _ _ ⟨x,rfl,rfl⟩)|refine Dn ?_|refine Z82 fun _=>?_)
  exact Ze2 fun _ hw=>aa hw (Wout:=[.sl x ((da (mc ss)).map (N .u8)) 5]) (by exact sw) ⟨_,rfl,rfl⟩
end
section
attribute [local irreducible] Code.wp wpList Af bodyPost L.Go ab
open Num
attribute [local simp] ae aD
attribute [local irreducible] hu gY bi fY dU Kf.T12.one
theorem Uv:hP [1] kS≠hP [] kS:=by
 unfold hP
 rw[WA,Wv]
 decide +kernel
theorem Vc:r=rN:=by decide +kernel
theorem pO{k:Nat}(h0:0<k)(hk:k<r):gi (Kf.K2.tim bh k)=false:=by
 cases hc:gi (Kf.K2.tim bh k)with
 | false=>rfl
 | true=>
  have hn:Kf.K2.tim bh k=none:=by
   unfold gi at hc
   exact Option.isNone_iff_eq_none.1 hc
  have:=F4 (i:=k) (j:=0) (hn.trans (show none=Kf.K2.tim bh 0 from rfl))
  rw[Vc]at hk
  rw[Nat.mod_eq_of_lt hk,Nat.zero_mod]at this
  omega
theorem Nq{H K:Kf.K2.Pt p}(hH:Ok2 H)(hK:Ok2 K){k:Nat}(h0:0<k)(hk:k<r):Kf.K2.tim H k=Kf.K2.tim K k↔H=K:=
 ⟨fun h=>JK hH hK (fun⟨t,ht⟩=>by
  rw[Vc]at hk
  rcases Nat.eq_zero_or_pos t with rfl | ht0
  ·omega
  ·have:=Nat.le_mul_of_pos_right rN ht0;omega) h,fun h=>by rw[h]⟩
theorem Fu{k:Nat}{H S:Kf.K2.Pt p}(hH:Ok2 H)(hS:Ok2 S):decide (fY (dU [Kf.K2.tim bh k,Kf.K2.pn bh] [H,S] (bi []))=Kf.T12.one)=decide (S=Kf.K2.tim H k):=by
 have h:=yR (l:=[(k,H)]) (fun x hx=>by rw[List.mem_singleton.1 hx];exact hH) hS
 rw[show wi [(k,H)]=Kf.K2.tim H k from Kf.K2.bB _]at h
 exact decide_eq_decide.mpr h
theorem Vo(s1 s2 s3:Value){k:Nat}(h0:0<k)(hk:k<r)(m:List Nat)(hm:Lt 256 m)(hl:m.length<1073741824)(S:Kf.K2.Pt p)(hS:Ok2 S):
  Spec Tryz.prog 11 [s1,s2,s3] (fun w=>Rd w s1 ((pkB k).map (N .u8))∧Rd w s2 (m.map (N .u8))∧Rd w s3 ((da S).map (N .u8))) [] (IsV (.bool (decide (S=Kf.K2.tim (hP m kS) k)))):=
 yT s1 s2 s3 _ m S _ (m0 k) (pO h0 hk) hm hl hS (Fu (iv m kS) hS)
theorem Mh(k:Nat):(pkB k).length=48:=GD _
theorem MN(k:Nat)(m d:List Nat):(sgB k m d).length=96:=GF _
theorem oC(bs:List Nat)(hb:Lt 256 bs)(hl:bs.length=32):Spec Tryz.prog 7 [LV .u8 bs] ai [] (fun v Wr=>∃x y,v = .tuple [x,y].toArray∧Wr=[.sl x ((bz (kN bs) 32).map (N .u8)) 22,.sl y ((pkB (kN bs)).map (N .u8)) 5]):=by
 refine ad Tryz.func7 rfl rfl rfl fun w _=>?_
 have a1:=HP bs hb hl
 have a2:=fun s=>oY s (u7 bs) (xz bs)
 generalize kN bs=k at *
 generalize pkB k=pk at *
 generalize bz k 32=sk at *
 repeat (first|refine lZ (m:=32) (by rfl) fd (by rfl) (by rfl) hl (by rfl) ?_|(refine aw (by rfl) (by rfl) (by rfl) (a1) .nil (fun _ _=>trivial) (by rfl) ?_;rintro x _ rfl)|(refine aw (by rfl) (by rfl) (by rfl) (a2 _) .nil (RdW.own fd) (by rfl) ?_;rintro _ _ ⟨y,rfl,rfl⟩)|refine Z01 ?_|refine Z02 ?_|refine Z03 ?_|refine Z04 ?_|refine Z05 ?_|refine Z06 ?_|refine Z07 ?_|refine Z08 ?_|refine Z09 ?_|refine Z10 ?_|refine Z11 ?_|refine Z12 ?_|refine Z13 ?_|refine Z14 ?_|refine Z19 ?_|refine Z24 ?_|refine Z26 ?_|refine Z27 ?_|refine Z67 ?_|refine Z81 fun _=>?_)
 exact Ze2 fun _ hw=>aa hw (Wout:=[.sl x (sk.map (N .u8)) 22,.sl y (pk.map (N .u8)) 5]) (by exact sw) ⟨_,_,rfl,rfl⟩
set_option maxHeartbeats 4000000 in
theorem yM:Spec Tryz.prog 6 [] ai [] (IsV (.bool true)):=by
 refine ad Tryz.func6 rfl rfl rfl fun w _=>?_
 have a1:=Is
 have k1:(1:Nat)<r:=by decide +kernel
 have a2:=fun s=>oY s (k:=1) (by decide) k1
 have a3:=fun s=>kT s (.slice none 0 0) (k:=1) (by decide) k1 [] (fun x hx=>by cases hx) (by decide)
 have a4:=fun s1 s3=>Vo s1 (.slice none 0 0) s3 (k:=1) (by decide) k1 [] (fun x hx=>by cases hx) (by decide) _ (iw (iv [] kS) 1)
 have a5:=fun s1 s2 s3=>Vo s1 s2 s3 (k:=1) (by decide) k1 [1] (by unfold Lt;decide) (by decide) _ (iw (iv [] kS) 1)
 have a6:=Bc (.slice none 0 0) (.slice none 0 0) rfl
 rw[decide_eq_true rfl]at a4
 have hne:decide (Kf.K2.tim (hP [] kS) 1=Kf.K2.tim (hP [1] kS) 1)=false:=decide_eq_false (fun h=>Uv ((Nq (iv _ _) (iv _ _) (by decide) k1).1 h).symm)
 rw[hne]at a5
 rw[show da (Kf.K2.tim (hP [] kS) 1)=sgB 1 [] kS from rfl]at a4 a5
 have hp:=Mh 1
 have hs:=MN 1 [] kS
 generalize pkB 1=pk at *
 generalize sgB 1 [] kS=sg at *
 generalize bz 1 32=sk at *
 clear hne
 repeat (first|(refine aw (by rfl) (by rfl) (by rfl) (a1) .nil (fun _ _=>trivial) (by rfl) ?_;rintro _ _ rfl)|(refine aw (by rfl) (by rfl) (by rfl) (a2 _) .nil (RdW.own fd) (by rfl) ?_;rintro _ _ ⟨y,rfl,rfl⟩)|(refine aw (by rfl) (by rfl) (by rfl) (a3 _) .nil (fun w hw=>⟨RdW.own fd w hw,RdW.nil w hw⟩) (by rfl) ?_;rintro _ _ ⟨z,rfl,rfl⟩)|refine iC (by rfl) (by rfl) (RdW.own (xs:=pk.map (N .u8)) fd) (by rfl) ?_|refine iC (by rfl) (by rfl) (RdW.own (xs:=sg.map (N .u8)) fd) (by rfl) ?_|rw[hp]|rw[hs]|refine ah (by rfl) (by rfl) (by rfl) (a4 _ _) (fun w hw=>⟨RdW.own fd w hw,RdW.nil w hw,RdW.own fd w hw⟩) (by rfl) ?_|(refine Pc ?_;intro _)|refine ah (by rfl) (by rfl) (by rfl) (a5 _ _ _) (fun w hw=>⟨RdW.own fd w hw,RdW.own (xs:=[1].map (N .u8)) fd w hw,RdW.own fd w hw⟩) (by rfl) ?_|refine y_4 a6 ?_|refine y_8 ?_|refine Z01 ?_|refine Z02 ?_|refine Z03 ?_|refine Z04 ?_|refine Z05 ?_|refine Z06 ?_|refine Z07 ?_|refine Z08 ?_|refine Z09 ?_|refine Z10 ?_|refine Z11 ?_|refine Z12 ?_|refine Z13 ?_|refine Z14 ?_|refine Z17 ?_|refine Z18 ?_|refine Z19 ?_|refine Z20 ?_|refine Z21 ?_|refine Z49 ?_|refine Z50 ?_|refine Z51 ?_|refine Z52 ?_|refine Z54 ?_|refine Z85 fun _=>?_)
 refine Ze1 fun _ hw=>aa hw SubW.nil ⟨?_,rfl⟩
 rfl
end
section
attribute [local irreducible] Code.wp wpList Af bodyPost L.Go ab
open Num
attribute [local simp] ae aD
attribute [local irreducible] hu gY bi fY dU Kf.T12.one hP gh da Kf.K2.pa mc
theorem wI{α:Type}{p:α→Prop}{a b c:α}(h1:p a)(h2:p b)(h3:p c):∀q∈[a,b,c],p q:=by
 intro q hq
 simp only[List.mem_cons,List.not_mem_nil,or_false]at hq
 rcases hq with rfl | rfl | rfl <;> assumption
theorem Fv{l:List (Nat×Kf.K2.Pt p)}{S:Kf.K2.Pt p}(h:∀x∈l,Ok2 x.2)(hS:Ok2 S)(he:S=wi l):
  decide (fY (dU (l.map (fun x=>Kf.K2.tim bh x.1)++[Kf.K2.pn bh]) (l.map (fun x=>x.2)++[S]) (bi []))=Kf.T12.one)=true:=
 decide_eq_true ((yR h hS).2 he)
theorem W9{A B C:Kf.K2.Pt p}(hA:Ok2 A)(hB:Ok2 B)(hC:Ok2 C)(u v w:Value):mc [(u,A),(v,B),(w,C)]=Kf.K2.pa A (Kf.K2.pa B C):=by
 have h0:mc [(u,A),(v,B),(w,C)]=Kf.K2.pa (Kf.K2.pa (Kf.K2.pa none A) B) C:=by unfold mc;rfl
 have h1:Kf.K2.pa none A=A:=by unfold Kf.K2.pa;rfl
 rw[h0,h1,Kf.K2.dW p_3 no2 hA.1 hB.1 hC.1]
theorem Vn{A B C:Kf.K2.Pt p}(hA:Ok2 A)(hB:Ok2 B)(hC:Ok2 C):Kf.K2.pa A (Kf.K2.pa B C)=Kf.K2.pa C (Kf.K2.pa A B):=by
 rw[← Kf.K2.dW p_3 no2 hA.1 hB.1 hC.1,Kf.K2.dr p_3 (rp hA hB).1 hC.1]
theorem Vm(a b c:Nat)(A B C:Kf.K2.Pt p):wi [(a,A),(b,B),(c,C)]=Kf.K2.pa (Kf.K2.tim A a) (Kf.K2.pa (Kf.K2.tim B b) (Kf.K2.tim C c)):=by
 have h1:Kf.K2.pa (Kf.K2.tim C c) none=Kf.K2.tim C c:=Kf.K2.bB _
 show Kf.K2.pa _ (Kf.K2.pa _ (Kf.K2.pa _ none))=_
 rw[h1]
theorem TN(s1 s2 s3 u1 u2 u3 v1 v2 v3:Value){i j k:Nat}{x y z:List Nat}{S:Kf.K2.Pt p}(hi:0<i∧i<r)(hj:0<j∧j<r)(hk:0<k∧k<r)(hx:Lt 256 x∧x.length<1073741824)(hy:Lt 256 y∧y.length<1073741824)(hz:Lt 256 z∧z.length<1073741824)
  (hS:Ok2 S) (he:S=Kf.K2.pa (Kf.K2.tim (hP x kS) i) (Kf.K2.pa (Kf.K2.tim (hP y kS) j) (Kf.K2.tim (hP z kS) k))):
  Spec Tryz.prog 16 [s1,s2,s3] (fun w=>Rd w s1 [u1,u2,u3]∧Rd w u1 ((pkB i).map (N .u8))∧Rd w u2 ((pkB j).map (N .u8))∧Rd w u3 ((pkB k).map (N .u8))∧Rd w s2 [v1,v2,v3]∧Rd w v1 (x.map (N .u8))∧Rd w v2 (y.map (N .u8))∧Rd w v3 (z.map (N .u8))∧Rd w s3 ((da S).map (N .u8))) [] (IsV (.bool true)):=by
 have h:=qg s1 s2 s3 [(u1,Kf.K2.tim bh i),(u2,Kf.K2.tim bh j),(u3,Kf.K2.tim bh k)] [(v1,x),(v2,y),(v3,z)] S true (by simp) (by simp) rfl
  (wI (m0 _) (m0 _) (m0 _))
  (wI (pO hi.1 hi.2) (pO hj.1 hj.2) (pO hk.1 hk.2))
  (wI hx hy hz) hS
  (Fv (l:=[(i,hP x kS),(j,hP y kS),(k,hP z kS)]) (wI (iv _ _) (iv _ _) (iv _ _)) hS (he.trans (Vm ..).symm))
 refine⟨h.call,fun w hw hW=>h.run w ?_ hW⟩
 obtain⟨h1,h2,h3,h4,h5,h6,h7,h8,h9⟩:=hw
 exact⟨h1,wI h2 h3 h4,h5,wI h6 h7 h8,h9⟩
theorem WX(s u1 u2 u3:Value){A B C:Kf.K2.Pt p}(hA:Ok2 A)(hB:Ok2 B)(hC:Ok2 C):
  Spec Tryz.prog 15 [s] (fun w=>Rd w s [u1,u2,u3]∧Rd w u1 ((da A).map (N .u8))∧Rd w u2 ((da B).map (N .u8))∧Rd w u3 ((da C).map (N .u8))) [] (fun v Wr=>∃x,v = .tuple [x,N .i64 0].toArray∧Wr=[.sl x ((da (Kf.K2.pa A (Kf.K2.pa B C))).map (N .u8)) 5]):=by
 have h:=qf s [(u1,A),(u2,B),(u3,C)] (by simp) (by simp) (wI hA hB hC)
 rw[W9 hA hB hC]at h
 refine⟨h.call,fun w hw hW=>h.run w ?_ hW⟩
 obtain⟨h1,h2,h3,h4⟩:=hw
 exact⟨h1,wI h2 h3 h4⟩
theorem Km{a b:Prop}(k:b)(h:Rm b→a:=by intro k;refine ah (by rfl) (by rfl) (by rfl) (yM) (fun _ _=>trivial) (by rfl) ?_;exact k.h):a:=h ⟨k⟩
theorem PT{a b:Prop}(k:b)(h:Rm b→a:=by intro k;(first|refine Km ?_|refine y_8 ?_|refine y_5 ?_|refine Z01 ?_|refine Z02 ?_|refine Z03 ?_|refine Z04 ?_|refine Z05 ?_|refine Z06 ?_|refine Z07 ?_|refine Z08 ?_|refine Z09 ?_|refine Z10 ?_|refine Z11 ?_|refine Z12 ?_|refine Z13 ?_|refine Z14 ?_|refine Z17 ?_|refine Z18 ?_|refine Z19 ?_|refine Z20 ?_|refine Z21 ?_|refine Z24 ?_|refine Z26 ?_|refine Z27 ?_|refine Z49 ?_|refine Z50 ?_|refine Z51 ?_|refine Z52 ?_|refine Z67 ?_);exact k.h):a:=h ⟨k⟩
theorem PU{a b:Prop}(k:b)(h:Rm b→a:=by intro k;(first|refine y_8 ?_|refine Z01 ?_|refine Z02 ?_|refine Z03 ?_|refine Z04 ?_|refine Z05 ?_|refine Z06 ?_|refine Z07 ?_|refine Z08 ?_|refine Z09 ?_|refine Z10 ?_|refine Z11 ?_|refine Z12 ?_|refine Z13 ?_|refine Z14 ?_|refine Z17 ?_|refine Z18 ?_|refine Z19 ?_|refine Z20 ?_|refine Z21 ?_|refine Z24 ?_|refine Z26 ?_|refine Z27 ?_|refine Z49 ?_|refine Z50 ?_|refine Z51 ?_|refine Z52 ?_|refine Z67 ?_);exact k.h):a:=h ⟨k⟩
set_option maxHeartbeats 8000000 in
theorem lawTogether_spec(a1:List Nat)(l1:a1.length=32)(b1:Lt 256 a1)(a2:List Nat)(l2:a2.length=32)(b2:Lt 256 a2)(a3:List Nat)(l3:a3.length=32)(b3:Lt 256 a3)
  (s1:Value) (x:List Nat) (hx:Lt 256 x) (x63:x.length<9223372036854775808) (s2:Value) (y:List Nat) (hy:Lt 256 y) (y63:y.length<9223372036854775808) (s3:Value) (z:List Nat) (hz:Lt 256 z) (z63:z.length<9223372036854775808):
  Spec Tryz.prog 5 [LV .u8 a1,LV .u8 a2,LV .u8 a3,s1,s2,s3] (fun w=>Rd w s1 (x.map (N .u8))∧Rd w s2 (y.map (N .u8))∧Rd w s3 (z.map (N .u8))) [] (IsV (.bool true)):=by
 refine ad Tryz.func5 rfl rfl rfl fun w hr=>?_
 have h1:=RdC.mk0 hr.1
 have h2:=RdC.mk0 hr.2.1
 have h3:=RdC.mk0 hr.2.2
 have o1:=hr.1.one
 have o2:=hr.2.1.one
 have o3:=hr.2.2.one
 by_cases c1:x.length≤300
 case neg=>
  repeat (first|refine Km ?_|refine y_8 ?_|refine Z01 ?_|refine Z02 ?_|refine Z03 ?_|refine Z04 ?_|refine Z05 ?_|refine Z06 ?_|refine Z07 ?_|refine Z08 ?_|refine Z09 ?_|refine Z10 ?_|refine Z11 ?_|refine Z12 ?_|refine Z13 ?_|refine Z14 ?_|refine Z17 ?_|refine Z18 ?_|refine Z19 ?_|refine Z20 ?_|refine Z21 ?_|refine Z24 ?_|refine Z26 ?_|refine Z27 ?_|refine Z49 ?_|refine Z50 ?_|refine Z51 ?_|refine Z52 ?_|refine Z67 ?_|refine Z81 fun _=>?_|refine Z85 fun _=>?_)
  refine Ze1 fun _ hw=>aa hw SubW.nil ⟨?_,rfl⟩
  rfl
 by_cases c2:y.length≤300
 case neg=>
  repeat (first|refine PT ?_|refine Z81 fun _=>?_|refine Z85 fun _=>?_)
  refine Ze1 fun _ hw=>aa hw SubW.nil ⟨?_,rfl⟩
  rfl
 by_cases c3:z.length≤300
 case neg=>
  repeat (first|refine PT ?_|refine Z81 fun _=>?_|refine Z85 fun _=>?_)
  refine Ze1 fun _ hw=>aa hw SubW.nil ⟨?_,rfl⟩
  rfl
 have ki:=And.intro (u7 a1) (xz a1)
 have kj:=And.intro (u7 a2) (xz a2)
 have kk:=And.intro (u7 a3) (xz a3)
 have t1:=oC a1 b1 l1
 have t2:=oC a2 b2 l2
 have t3:=oC a3 b3 l3
 generalize kN a1=i at *
 generalize kN a2=j at *
 generalize kN a3=k at *
 have g1:=fun u=>kT u s1 ki.1 ki.2 x hx (by omega)
 have g2:=fun u=>kT u s2 kj.1 kj.2 y hy (by omega)
 have g3:=fun u=>kT u s3 kk.1 kk.2 z hz (by omega)
 have A:=iw (iv x kS) i
 have B:=iw (iv y kS) j
 have C:=iw (iv z kS) k
 have p1:=fun s u1 u2 u3=>WX s u1 u2 u3 A B C
 have hS:=rp A (rp B C)
 have v1:=fun s1' s2' s3' u1 u2 u3=>TN s1' s2' s3' u1 u2 u3 s1 s2 s3 ki kj kk ⟨hx,by omega⟩ ⟨hy,by omega⟩ ⟨hz,by omega⟩ hS rfl
 have v2:=fun s1' s2' s3' u1 u2 u3=>TN s1' s2' s3' u1 u2 u3 s3 s1 s2 kk ki kj ⟨hz,by omega⟩ ⟨hx,by omega⟩ ⟨hy,by omega⟩ hS (Vn A B C)
 rw[show da (Kf.K2.tim (hP x kS) i)=sgB i x kS from rfl,show da (Kf.K2.tim (hP y kS) j)=sgB j y kS from rfl,show da (Kf.K2.tim (hP z kS) k)=sgB k z kS from rfl]at p1
 generalize da (Kf.K2.pa (Kf.K2.tim (hP x kS) i) (Kf.K2.pa (Kf.K2.tim (hP y kS) j) (Kf.K2.tim (hP z kS) k)))=sa at *
 clear hS A B C
 generalize sgB i x kS=sg1 at *
 generalize sgB j y kS=sg2 at *
 generalize sgB k z kS=sg3 at *
 generalize pkB i=pk1 at *
 generalize pkB j=pk2 at *
 generalize pkB k=pk3 at *
 generalize bz i 32=sk1 at *
 generalize bz j 32=sk2 at *
 generalize bz k 32=sk3 at *
 clear ki kj kk
 repeat (first|refine Km ?_|refine y_5 ?_|refine lZ (m:=32) (by rfl) fd (by rfl) (by rfl) (by first | exact l1 | exact l2 | exact l3) (by rfl) ?_|(refine aw (by rfl) (by rfl) (by rfl) (t1) .nil (fun _ _=>trivial) (by rfl) ?_;rintro _ _ ⟨e1,f1,rfl,rfl⟩)|(refine aw (by rfl) (by rfl) (by rfl) (t2) .nil (fun _ _=>trivial) (by rfl) ?_;rintro _ _ ⟨e2,f2,rfl,rfl⟩)|(refine aw (by rfl) (by rfl) (by rfl) (t3) .nil (fun _ _=>trivial) (by rfl) ?_;rintro _ _ ⟨e3,f3,rfl,rfl⟩)|(refine aw (by rfl) (by rfl) (by rfl) (g1 _) .nil (fun w hw=>⟨RdW.own fd w hw,RdW.old h1 w hw⟩) (by rfl) ?_;rintro _ _ ⟨y1,rfl,rfl⟩)|(refine aw (by rfl) (by rfl) (by rfl) (g2 _) .nil (fun w hw=>⟨RdW.own fd w hw,RdW.old h2 w hw⟩) (by rfl) ?_;rintro _ _ ⟨y2,rfl,rfl⟩)|(refine aw (by rfl) (by rfl) (by rfl) (g3 _) .nil (fun w hw=>⟨RdW.own fd w hw,RdW.old h3 w hw⟩) (by rfl) ?_;rintro _ _ ⟨y3,rfl,rfl⟩)|refine PU ?_|refine Z81 fun _=>?_|refine Z85 fun _=>?_)
 refine ky (s:=y1) fd fun q1=>?_
 refine ky (s:=y2) fd fun q2=>?_
 refine ky (s:=y3) fd fun q3=>?_
 refine ky (s:=f1) fd fun r1=>?_
 refine ky (s:=f2) fd fun r2=>?_
 refine ky (s:=f3) fd fun r3=>?_
 repeat (first|refine br (E:=23) (vs:=[y1,y2,y3]) (by rfl) (by rfl) (by rfl) (by rfl) (by rfl) (by rfl) (by rfl) (by simp[q1,q2,q3]) (by rfl) (by rfl) fun _=>?_|(refine aw (by rfl) (by rfl) (by rfl) (p1 _ _ _ _) .nil (fun w hw=>⟨RdW.own fd w hw,RdW.own fd w hw,RdW.own fd w hw,RdW.own fd w hw⟩) (by rfl) ?_;rintro _ _ ⟨z1,rfl,rfl⟩)|refine br (E:=23) (vs:=[f1,f2,f3]) (by rfl) (by rfl) (by rfl) (by rfl) (by rfl) (by rfl) (by rfl) (by simp[r1,r2,r3]) (by rfl) (by rfl) fun _=>?_|refine br (E:=23) (vs:=[s1,s2,s3]) (by rfl) (by rfl) (by rfl) (by rfl) (by rfl) (by rfl) (by rfl) (by simp[o1,o2,o3]) (by rfl) (by rfl) fun _=>?_|refine br (E:=23) (vs:=[f3,f1,f2]) (by rfl) (by rfl) (by rfl) (by rfl) (by rfl) (by rfl) (by rfl) (by simp[r1,r2,r3]) (by rfl) (by rfl) fun _=>?_|refine br (E:=23) (vs:=[s3,s1,s2]) (by rfl) (by rfl) (by rfl) (by rfl) (by rfl) (by rfl) (by rfl) (by simp[o1,o2,o3]) (by rfl) (by rfl) fun _=>?_|refine ah (by rfl) (by rfl) (by rfl) (v1 _ _ _ _ _ _) (fun w hw=>⟨RdW.own fd w hw,RdW.own fd w hw,RdW.own fd w hw,RdW.own fd w hw,RdW.own fd w hw,RdW.old h1 w hw,RdW.old h2 w hw,RdW.old h3 w hw,RdW.own fd w hw⟩) (by rfl) ?_|refine ah (by rfl) (by rfl) (by rfl) (v2 _ _ _ _ _ _) (fun w hw=>⟨RdW.own fd w hw,RdW.own fd w hw,RdW.own fd w hw,RdW.own fd w hw,RdW.own fd w hw,RdW.old h3 w hw,RdW.old h1 w hw,RdW.old h2 w hw,RdW.own fd w hw⟩) (by rfl) ?_|refine PU ?_|refine Z81 fun _=>?_|refine Z85 fun _=>?_)
 refine Ze1 fun _ hw=>aa hw SubW.nil ⟨?_,rfl⟩
 rfl
end
section
variable {P:Program}
theorem slice_spot{w:World}{r:Reach}{base:Nat}{t e:TypeId}{a:Option Addr}{len cap:Nat}(ht:P.underlying t=some (.slice e))(h:Value.okWide P w r base t (.slice a len cap)):
  ∀x,a=some x→x.spot=none:=by
 intro x hx
 subst hx
 simp only[Value.okWide,ht,Cell.okWide,Cell.ok,World.has]at h
 exact h.2.2.2.1
theorem row_nat{k:IntKind}{m:Nat}(hk:ub k=some m){w:World}{a:Option Addr}{len cap:Nat}{zs:List Int}
  (h:(a=none∧len=0∧cap=0∧zs=[]) ∨
   ∃x,a=some x∧len≤cap∧cap≤maxLen∧zs.length=cap∧(∀i,i<zs.length→w.cell? (x.add i)=some (.int k (zs.getD i 0)))∧∀n∈zs,(Lit.int k n).wf=true)
  (hs:∀x,a=some x→x.spot=none):∃bs:List Nat,Rd w (.slice a len cap) (bs.map (N k))∧(∀x∈bs,x<m)∧bs.length<9223372036854775808:=by
 rcases h with⟨rfl,rfl,rfl,rfl⟩ | ⟨x,rfl,h1,h2,h3,h4,h5⟩
 ·exact⟨[],Rd.nil w,by simp,by decide⟩
 ·have hn:∀n∈zs,0≤n∧n<(m:Int):=by
   intro n hn
   have:=h5 n hn
   cases k <;> simp[ub]at hk <;> subst hk <;> simp[Lit.wf,IntKind.min,IntKind.max,IntKind.signed,IntKind.bits]at this ⊢ <;> omega
  have hg:∀i,i<zs.length→Int.ofNat (zs.getD i 0).toNat=zs.getD i 0:=by
   intro i hi
   have:zs.getD i 0∈zs:=by simp[List.getD_eq_getElem?_getD,hi]
   have:=hn _ this
   show(((zs.getD i 0).toNat:Nat):Int)=_
   omega
  refine⟨(zs.take len).map Int.toNat,⟨⟨some x,cap,?_,?_,by simp,by simpa using hs⟩,?_⟩,?_,?_⟩
  ·simp;omega
  ·simp;omega
  ·intro i v hv
   have hi:i<len∧i<zs.length:=by
    have:=(List.getElem?_eq_some_iff.mp hv).1
    simp at this;omega
   have e1:=h4 i hi.2
   rw[← hg i hi.2]at e1
   show w.cell? (x.add i)=_
   rw[e1]
   simp[hi.1,hi.2]at hv
   rw[← hv]
   simp[N,List.getD_eq_getElem?_getD,hi.2]
  ·intro y hy
   simp only[List.mem_map]at hy
   obtain⟨n,hn',rfl⟩:=hy
   have:=hn n (List.mem_of_mem_take hn')
   omega
  ·have:cap≤2^63-1:=h2
   simp;omega
theorem Az{k:IntKind}{m:Nat}(hk:ub k=some m){x:Int}(h:k.has x):∃y:Nat,x=Int.ofNat y∧y<m:=by
 have:0≤x∧x<(m:Int):=by
  cases k <;> simp[ub]at hk <;> subst hk <;> simp[IntKind.has,IntKind.min,IntKind.max,IntKind.signed,IntKind.bits]at h ⊢ <;> omega
 exact⟨x.toNat,by show x=((x.toNat:Nat):Int);omega,by omega⟩
theorem okWide_LV{k:IntKind}{m n:Nat}{t e:TypeId}{w:World}{r:Reach}{base:Nat}{v:Value}(hk:ub k=some m)(hs:cM P t=true)(hcell:P.cellTypes P.depth t=some (List.replicate n e))
  (he:P.underlying e=some (.int k)) (hc:P.cellsOf t=n) (h:Value.okWide P w r base t v):∃ys:List Nat,v=LV k ys∧ys.length=n∧∀x∈ys,x<m:=by
 have h':∃cs,v = .agg cs∧cs.size=P.cellsOf t∧Row.okWide P w r base t cs:=by
  unfold cM at hs
  unfold Value.okWide at h
  cases hu:P.underlying t with
  | none=>rw[hu]at hs;simp at hs
  | some d=>
   rw[hu]at hs h
   cases d <;> simp at hs <;> simpa using h
 obtain⟨cs,rfl,hcs,ts,hts,_,hrow⟩:=h'
 rw[hcell]at hts;cases hts
 have key:∀l:List Value,(∀(i:Nat)(v:Value),l[i]?=some v→∃y:Nat,v=N k y∧y<m)→∃ys:List Nat,l=ys.map (N k)∧∀x∈ys,x<m:=by
  intro l
  induction l with
  | nil=>intro _;exact⟨[],rfl,by simp⟩
  | cons v l ih=>
   intro hl
   obtain⟨ys,h1,h2⟩:=ih (fun i v hv=>hl (i+1) v (by simpa using hv))
   obtain⟨y,h3,h4⟩:=hl 0 v rfl
   exact⟨y::ys,by simp[h1,h3],by simpa using⟨h4,h2⟩⟩
 obtain⟨ys,h1,h2⟩:=key cs.toList (fun i v hv=>by
  obtain⟨u,hu,hok⟩:=hrow i v (by simpa using hv)
  have hu':u=e:=by
   rw[List.getElem?_replicate]at hu
   split at hu
   ·exact(Option.some.inj hu).symm
   ·cases hu
  subst hu'
  unfold Cell.okWide Cell.ok at hok
  rw[he]at hok
  cases v <;> simp at hok
  obtain⟨rfl,hok⟩:=hok
  obtain⟨y,hy,hlt⟩:=Az hk hok
  exact⟨y,by rw[hy],hlt⟩)
 refine⟨ys,?_,?_,h2⟩
 ·unfold LV;rw[← h1]
 ·have:=congrArg List.length h1
  simp at this;omega
theorem post_bool{w w':World}{e:Ending}(h:mi (IsV (.bool true)) [] w e w'):e = .returned (.bool true)∧RowKit.Below w.heap.size w w':=by
 obtain⟨v,Wout,⟨rfl,_⟩,he,hx,_⟩:=h
 exact⟨he,hx.below⟩
end
end Go.Proofs.YtndhfbecpghinaaGreat.L
