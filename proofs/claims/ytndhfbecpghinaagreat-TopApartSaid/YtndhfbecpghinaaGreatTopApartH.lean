/- What the proof of the statement about TopApart stands on, part H. Conditions: as each statement says. -/
import Derived.Test.YtndhfbecpghinaaGreatTopApartG
import Derived.Laws.Cover3
import Derived.Laws.IdiomStrings
import Derived.RangeFuncCalls
import Derived.RangeFuncIn
import Derived.RangeFuncLeaves
import Derived.RangeFuncRecord
import Derived.Recover
import Derived.TacticsIn
import Derived.Test.YtndhfbecpghinaaGreatProg
namespace Go.Proofs.YtndhfbecpghinaaGreat.L
open Go Go.Proofs
set_option maxRecDepth 100000
section
attribute [local irreducible] Code.wp wpList Af bodyPost L.Go ab
open Num
attribute [local simp] ae aD
def Q6s(l:List Fq):List (List Nat):=l.map Q6
theorem fQ(l:List Fq):∀v∈Q6s l,v.length=6:=by
 intro v hv
 obtain⟨x,_,rfl⟩:=List.mem_map.1 hv
 exact ae _ _
def fbs(l:List Fq):List Nat:=(l.map fun x=>bq x.val 48).flatten
theorem mH(l:List Fq):(fbs l).length=48*l.length:=by
 unfold fbs
 induction l with
 | nil=>rfl
 | cons x r ih=>rw[List.map_cons,List.flatten_cons,List.length_append,aD,ih,List.length_cons];omega
theorem UD{l:List Fq}{i:Nat}{x:Fq}(h:l[i]?=some x):fbs (l.take i)++bq x.val 48=fbs (l.take (i+1)):=by
 rw[List.take_add_one,h]
 simp[fbs,Option.toList]
theorem Mw(x:Fq):Spec Tryz.prog 119 [LV .u64 (Q6 x)] ai [] (IsV (LV .u8 (bq x.val 48))):=by
 have h:=x8 (a:=x.val) (Nat.lt_trans x.isLt lS)
 rwa [Nat.mod_eq_of_lt x.isLt]at h
attribute [local irreducible] fbs Q6s
theorem DC{a b:Prop}(k:b)(h:Rm b→a:=by intro k;(first|refine Z01 ?_|refine Z02 ?_|refine Z03 ?_|refine Z04 ?_|refine Z05 ?_|refine Z06 ?_|refine Z07 ?_|refine Z08 ?_|refine Z09 ?_|refine Z10 ?_|refine Z11 ?_|refine Z12 ?_|refine Z13 ?_|refine Z14 ?_|refine Z15 ?_|refine Z17 ?_|refine Z18 ?_|refine Z20 ?_|refine Z21 ?_|refine Z22 ?_|refine Z23 ?_|refine Z24 ?_|refine Z26 ?_|refine Z27 ?_|refine Z29 ?_|refine Z30 ?_|refine Z31 ?_|refine Z32 ?_|refine Z62 ?_|refine Z63 ?_|refine Z67 ?_);exact k.h):a:=h ⟨k⟩
set_option maxHeartbeats 2000000 in
theorem oV(s:Value)(xs:List Fq)(hl:xs.length<1000):Spec Tryz.prog 65 [s] (fun w=>Rd w (wide 6 s) ((Q6s xs).flatten.map (N .u64))) []
  (fun v Wr=>Wr=[.sl v ((fbs xs).map (N .u8)) 5]):=by
 refine ad Tryz.func65 rfl rfl rfl fun w hr=>?_
 have h1:=RdC.mk0 hr
 have hE:=fQ xs
 have el:(Q6s xs).length=xs.length:=by unfold Q6s;simp
 have hxl:((Q6s xs).flatten.map (N .u64)).length=xs.length*6:=by rw[List.length_map,fy hE,el]
 have e0:fbs (xs.take 0)=[]:=by unfold fbs;rfl
 repeat (first|refine ie (m:=6) (k:=xs.length) (s:=s) (by rfl) (by rfl) (RdW.old h1) (by decide) hxl (by rfl) ?_|refine DC ?_|refine Z82 fun _=>?_|refine Z84 fun _=>?_)
 refine jF 5 ?_
 refine az (ι:=Nat×Value) (fun q=>q.1≤xs.length) (fun q=>[(6,s),(7,N .i64 xs.length),(8,N .i64 q.1),(2,q.2)]) (fun q=>[.sl q.2 ((fbs (xs.take q.1)).map (N .u8)) 5]) (fun q=>xs.length-q.1) (0,.slice none 0 0) (by simp) sbq (by rw[e0];exact sw) ?_
 rintro⟨i,v⟩ hi
 simp only at hi ⊢
 repeat (first|refine DC ?_|refine Z82 fun _=>?_|refine Z84 fun _=>?_)
 refine an (by rfl) (fun h=>?_) (fun h=>?_)
 ·obtain⟨x,hx⟩:∃x,xs[i]?=some x:=⟨_,List.getElem?_eq_getElem h⟩
  have hz:(Q6s xs)[i]?=some (Q6 x):=by unfold Q6s;rw[List.getElem?_map,hx];rfl
  have hs:=UD hx
  have hol:=aD x.val 48
  have hlen:(fbs (xs.take i)).length<100000:=by rw[mH,List.length_take];omega
  repeat (first|(refine cM ?_;intro _)|refine ar (v:=LV .u8 (List.replicate 48 0)) (by rfl) (by rfl) fun _=>?_|refine fh (m:=6) (s:=s) (i:=i) (k:=xs.length) (by rfl) (by rfl) (by rfl) (by rfl) (RdW.old h1) (by decide) hxl h (by rfl) ?_|refine eI (m:=6) (s:=wide 6 s) (i:=i) (by rfl) (by rfl) (by rfl) (RdW.old h1) hE hz (by decide) (by rfl) ?_|refine y_4 (Mw x) ?_|(refine hJ (xs:=fbs (xs.take i)) (ys:=bq x.val 48) (kk:=.u8) (by rfl) (by rfl) fd (RdW.arrAll (m:=48) fd hol) (by rfl) (by rfl) (by rfl) (by rfl) (by rw[hol];omega) (by rw[hol];omega) (by rfl) fun _=>?_)|refine DC ?_|refine Z82 fun _=>?_|refine Z84 fun _=>?_)
  rw[hs]
  rename_i v2
  exact ao (i+1,v2) (by simp only;omega) (by simp only;omega) sbq sw
 ·have hi':i=xs.length:=by omega
  subst hi'
  rw[List.take_length]
  repeat (first|refine DC ?_|refine Z82 fun _=>?_|refine Z84 fun _=>?_)
  exact Ze1 fun _ hw=>aa hw (Wout:=[.sl v ((fbs xs).map (N .u8)) 5]) (by exact sw) rfl
def flg(is:Bool)(f:Nat)(xs:List Nat):List Nat:=if is then xs.set 0 (xs.getD 0 0 ||| f)else xs
theorem Pq{a b:Prop}(k:b)(h:Rm b→a:=by intro k;(first|refine Z01 ?_|refine Z03 ?_|refine Z04 ?_|refine Z05 ?_|refine Z06 ?_|refine Z07 ?_|refine Z08 ?_|refine Z09 ?_|refine Z10 ?_|refine Z11 ?_|refine Z12 ?_|refine Z13 ?_|refine Z14 ?_|refine Z22 ?_|refine Z23 ?_|refine Z24 ?_|refine Z26 ?_|refine Z27 ?_|refine Z29 ?_|refine Z30 ?_|refine Z31 ?_|refine Z32 ?_|refine Z41 ?_|refine Z67 ?_);exact k.h):a:=h ⟨k⟩
set_option maxHeartbeats 2000000 in
theorem rK(is:Bool){f:Nat}(hf:f<256)(s:Value)(xs:List Nat)(hx:0<xs.length)(hb:Lt 256 xs)(bb:Nat)(U:TypeId)(hs:s.oneCell'=true):
  Spec Tryz.prog 120 [.bool is,N .u8 f,pt bb 0] ai [.blk bb s U,.sl s (xs.map (N .u8)) 5]
   (fun v Wr=>v = .tuple #[]∧Wr=[.blk bb s U,.sl s ((flg is f xs).map (N .u8)) 5]):=by
 refine ad Tryz.func120 rfl rfl rfl fun w _=>?_
 cases is with
 | false=>
  repeat (first|refine Pq ?_)
  refine gE (by rfl) fun _ hw=>aa hw (Wout:=[.blk bb s U,.sl s (xs.map (N .u8)) 5]) (by exact sw) ⟨rfl,rfl⟩
 | true=>
  have h0:xs.getD 0 0<256:=hb.getD (by decide) 0
  repeat (first|refine fI (by rfl) fd hs (by rfl) (by rfl) ?_|refine Pq ?_)
  rw[Nat.mod_eq_of_lt h0,Nat.mod_eq_of_lt hf]
  refine gE (by rfl) fun _ hw=>aa hw (Wout:=[.blk bb s U,.sl s ((flg true f xs).map (N .u8)) 5]) (by exact sw) ⟨rfl,rfl⟩
theorem gz(is:Bool)(f:Nat)(xs:List Nat):(flg is f xs).length=xs.length:=by
 unfold flg
 cases is <;> simp
theorem n9{is:Bool}{f:Nat}(hf:f<256){xs:List Nat}(h:Lt 256 xs):Lt 256 (flg is f xs):=by
 unfold flg
 cases is with
 | false=>exact h
 | true=>exact h.set (Nat.or_lt_two_pow (n:=8) (h.getD (by decide) 0) hf) 0
def qK(inf big:Bool)(xs:List Nat):List Nat:=flg (big && !inf) 32 (flg inf 64 (flg true 128 xs))
theorem Gt{s:Value}(h:s.oneCell'=true)(k:Nat):(cut3 s k).oneCell'=true:=by
 unfold cut3
 cases s <;> first | rfl | exact h
attribute [local irreducible] flg
theorem Ku{a b:Prop}(k:b)(h:Rm b→a:=by intro k;(first|refine Z01 ?_|refine Z02 ?_|refine Z03 ?_|refine Z04 ?_|refine Z05 ?_|refine Z06 ?_|refine Z07 ?_|refine Z08 ?_|refine Z09 ?_|refine Z10 ?_|refine Z11 ?_|refine Z12 ?_|refine Z13 ?_|refine Z14 ?_|refine Z20 ?_|refine Z21 ?_|refine Z24 ?_|refine Z26 ?_|refine Z27 ?_|refine Z29 ?_|refine Z30 ?_|refine Z31 ?_|refine Z32 ?_|refine Z37 ?_|refine Z48 ?_|refine Z49 ?_|refine Z50 ?_|refine Z51 ?_|refine Z52 ?_|refine Z54 ?_|refine Z62 ?_|refine Z63 ?_|refine Z67 ?_);exact k.h):a:=h ⟨k⟩
set_option maxHeartbeats 2000000 in
theorem mI(inf big:Bool)(s:Value)(xs:List Nat){k:Nat}(hk:xs.length=2*k)(h0:0<k)(h1:k<1000)(hb:Lt 256 xs):
  Spec Tryz.prog 66 [s,.bool true,.bool inf,.bool big] ai [.sl s (xs.map (N .u8)) 5]
   (fun v Wr=>Wr=[.sl v ((qK inf big (xs.take k)).map (N .u8)) 5]):=by
 refine ad Tryz.func66 rfl rfl rfl fun w _=>?_
 refine gG (p:=s.oneCell'=true) (fun w hw=>(RdW.own (W:=[.sl s (xs.map (N .u8)) 5]) Find.here w hw).one) fun hs=>?_
 have hs2:=Gt hs k
 have hl1:(xs.take k).length=k:=by rw[List.length_take];omega
 have hb1:Lt 256 (xs.take k):=hb.take k
 have c1:=rK true (f:=128) (by decide) (cut3 s k) (xs.take k) (by omega) hb1
 have c2:=rK inf (f:=64) (by decide) (cut3 s k) (flg true 128 (xs.take k)) (by rw[gz];omega) (n9 (by decide) hb1)
 have c3:=rK (big && !inf) (f:=32) (by decide) (cut3 s k) (flg inf 64 (flg true 128 (xs.take k))) (by rw[gz,gz];omega) (n9 (by decide) (n9 (by decide) hb1))
 have hq:xs.length/2=k:=by omega
 repeat (first|refine fI (by rfl) fd hs (by rfl) (by rfl) ?_|rw[hq]|(refine oI (k:=k) (by rfl) (by rfl) (by rfl) (RdW.own fd) (by rfl) (by rfl) (by simp;omega) (by rfl) ?_)|refine ij (by rfl) (by rfl) fd hs hs2 (by rfl) ?_|refine Ku ?_|refine Z81 fun _=>?_)
 rename_i b4
 refine yU (s:=s) (xs:=xs.map (N .u8)) k fd (by simp;omega) ?_
 rw[← List.map_take]
 have d1:=c1 b4 23 hs2
 have d2:=c2 b4 23 hs2
 have d3:=c3 b4 23 hs2
 repeat (first|(refine ax (by rfl) (by rfl) (by rfl) d1 (.cons fd (.cons fd .nil)) (fun _ _=>trivial) (by rfl) ?_;rintro _ _ ⟨rfl,rfl⟩)|(refine ax (by rfl) (by rfl) (by rfl) d2 (.cons fd (.cons fd .nil)) (fun _ _=>trivial) (by rfl) ?_;rintro _ _ ⟨rfl,rfl⟩)|refine Ku ?_|refine Z81 fun _=>?_)
 clear c1 c2 c3 d1 d2
 cases big <;> cases inf
 all_goals
  repeat (first|(refine ax (by rfl) (by rfl) (by rfl) d3 (.cons fd (.cons fd .nil)) (fun _ _=>trivial) (by rfl) ?_;rintro _ _ ⟨rfl,rfl⟩)|refine fI (by rfl) fd hs2 (by rfl) (by rfl) ?_|refine Ku ?_|refine Z81 fun _=>?_)
  exact Ze1 fun _ hw=>aa hw (Wout:=[.sl (cut3 s k) ((qK _ _ (xs.take k)).map (N .u8)) 5]) (by exact sw) rfl
end
section
attribute [local irreducible] Code.wp wpList Af bodyPost L.Go ab
open Num
attribute [local simp] ae aD
def lH(y:Fq):Bool:=decide ((-y).val<y.val)
theorem Uc(y:Fq):Spec Tryz.prog 51 [LV .u64 (Q6 y)] ai [] (IsV (.bool (lH y))):=by
 have h:=nY (a:=y.val) (Nat.lt_trans y.isLt lS)
 rwa [dy]at h
def lp(u v:Fq)(j:Bool):List Nat:=qK j (lH v) (bq u.val 48)
def ec(P:Kf.K2.Pt p):List Nat:=lp (gx P).re (gy P).re (gi P)
theorem Ef(u v:Fq):(fbs [u,v]).take 48=bq u.val 48:=by
 have h:fbs [u,v]=bq u.val 48++bq v.val 48:=by unfold fbs;simp
 rw[h,List.take_left' (aD _ _)]
theorem G8(l:List Fq):Lt 256 (fbs l):=by
 unfold fbs
 intro x hx
 obtain⟨y,hy,hxy⟩:=List.mem_flatten.1 hx
 obtain⟨z,_,rfl⟩:=List.mem_map.1 hy
 exact pS _ _ x hxy
theorem Hd(u v:Fq)(j:Bool):qK j (lH v) ((fbs [u,v]).take 48)=lp u v j:=by rw[Ef];rfl
theorem wI{P:Kf.K2.Pt p}:HV P=HE (gx P).re (gy P).re (gi P):=rfl
theorem Pv{a b:Prop}(k:b)(h:Rm b→a:=by intro k;refine R.Zpp (by rfl) (by intro _ _ _;refine wb (by rfl) fd (by rfl) (by first|with_reducible assumption|simp) (by rfl) ?_;exact Zq) ?_;exact k.h):a:=h ⟨k⟩
theorem Pw{a b:Prop}(k:b)(h:Rm b→a:=by intro k;refine R.Zpn (by rfl) (by intro _ _ _;(first|refine Z81 fun _=>?_|refine Z85 fun _=>?_);exact R.Zpx) ?_;exact k.h):a:=h ⟨k⟩
theorem Px{a b:Prop}(k:b)(h:Rm b→a:=by intro k;(first|refine Z01 ?_|refine Z02 ?_|refine Z03 ?_|refine Z04 ?_|refine Z05 ?_|refine Z06 ?_|refine Z07 ?_|refine Z08 ?_|refine Z09 ?_|refine Z10 ?_|refine Z11 ?_|refine Z12 ?_|refine Z13 ?_|refine Z14 ?_|refine Z24 ?_|refine Z26 ?_|refine Z27 ?_|refine Z29 ?_|refine Z30 ?_|refine Z31 ?_|refine Z32 ?_|refine Z54 ?_|refine Z67 ?_);exact k.h):a:=h ⟨k⟩
theorem P4{a b:Prop}(k:b)(h:Rm b→a:=by intro k;(first|refine bI ?_|refine eP ?_|refine Z01 ?_|refine Z02 ?_|refine Z03 ?_|refine Z04 ?_|refine Z05 ?_|refine Z06 ?_|refine Z07 ?_|refine Z08 ?_|refine Z09 ?_|refine Z10 ?_|refine Z11 ?_|refine Z12 ?_|refine Z13 ?_|refine Z14 ?_|refine Z24 ?_|refine Z26 ?_|refine Z27 ?_|refine Z29 ?_|refine Z30 ?_|refine Z31 ?_|refine Z32 ?_|refine Z54 ?_|refine Z67 ?_);exact k.h):a:=h ⟨k⟩
set_option maxHeartbeats 4000000 in
theorem uU{P:Kf.K2.Pt p}(h:Ok1 P):Spec Tryz.prog 33 [HV P,.bool true] ai [] (fun v Wr=>∃x,v = .tuple [x,N .i64 0].toArray∧Wr=[.sl x ((ec P).map (N .u8)) 5]):=by
 refine ad Tryz.func33 rfl rfl rfl fun w _=>?_
 have hl0:=fun x=>ae 6 x
 obtain⟨ho,hR,ht⟩:=h
 have a1:=RD ho hR ht
 have a2:=oj hR
 have e:ec P=lp (gx P).re (gy P).re (gi P):=rfl
 rw[e]
 rw[wI]at a1 a2 ⊢
 generalize (gx P).re=u at *
 generalize (gy P).re=v at *
 generalize gi P=j at *
 have a3:=Uc v
 have a4:=fun s=>oV s [u,v] (by show 2<1000;decide)
 have a5:=fun s=>mI j (lH v) s (fbs [u,v]) (k:=48) (by rw[mH];rfl) (by decide) (by decide) (G8 _)
 rw[Hd]at a5
 generalize lp u v j=bs at *
 generalize fbs [u,v]=fs at *
 have hQ2:(Q6s [u,v]).flatten.length=2*6:=by rw[fy (fQ _)];unfold Q6s;rfl
 repeat (first|refine KK ?_|(refine dV ?_;intro _)|refine y_4 a1 ?_|refine y_4 a2 ?_|refine av (m:=6) (k:=2) (kk:=.u64) (vss:=Q6s [u,v]) (by rfl) (by rfl) (by rfl) (by rfl) (by rfl) (by rfl) (by rfl) (fQ _) (by rfl) (by rfl) fun _=>?_|(refine ax (by rfl) (by rfl) (by rfl) (a4 _) .nil (RdW.slv fd hQ2) (by rfl) ?_;rintro x2 _ rfl)|refine P4 ?_|refine Z81 fun _=>?_|refine Z85 fun _=>?_)
 refine R.ag [0,1,2,3,4,5,6,7,8,9] (by rfl) ?_
 repeat (first|(refine R.Zpf (by rfl) (by intro _ _ _;(first|refine bI ?_|refine oH (by rfl) (show _=some (12,1)from rfl) (by rfl) (by rfl) ?_|refine Z01 ?_|refine Z02 ?_|refine Z54 ?_);exact Zq) ?_)|refine aL ?_|refine sj ?_|refine sn ?_|refine Pv ?_|refine cB ?_|refine ah a3 ?_|refine aA ?_|(refine Pw ?_;intro _)|(refine R.Zpn (by rfl) (by intro _ _ _;(refine ax (by rfl) (by rfl) (by rfl) (a5 _) (.cons fd .nil) (fun _ _=>trivial) (by rfl) ?_;rintro _ _ rfl);exact R.Zpx) fun _=>?_))
 refine R.Zp0 ?_
 repeat (first|refine Px ?_|refine Z81 fun _=>?_|refine Z85 fun _=>?_)
 rename_i x4
 exact Ze2 fun _ hw=>aa hw (Wout:=[.sl x4 (bs.map (N .u8)) 5]) (by exact sw) ⟨_,rfl,rfl⟩
def qz(x y:F2)(j:Bool):List Nat:=qK j (ir y) (bq x.im.val 48++bq x.re.val 48)
def f5(P:Kf.K2.Pt p):List Nat:=qz (gx P) (gy P) (gi P)
theorem He(x y:F2)(j:Bool):qK j (ir y) ((fbs [x.im,x.re,y.im,y.re]).take 96)=qz x y j:=by
 have h:fbs [x.im,x.re,y.im,y.re]=(bq x.im.val 48++bq x.re.val 48)++(bq y.im.val 48++bq y.re.val 48):=by unfold fbs;simp
 rw[h,List.take_left' (by rw[List.length_append,aD,aD])];rfl
theorem wG{P:Kf.K2.Pt p}:GV P=GE (gx P) (gy P) (gi P):=rfl
theorem Kv{a b:Prop}(k:b)(h:Rm b→a:=by intro k;refine oH (by rfl) (show _=some (24,1)from rfl) (by rfl) (by rfl) ?_;exact k.h):a:=h ⟨k⟩
set_option maxHeartbeats 4000000 in
theorem uV{P:Kf.K2.Pt p}(h:Ok2 P):Spec Tryz.prog 27 [GV P,.bool true] ai [] (fun v Wr=>∃x,v = .tuple [x,N .i64 0].toArray∧Wr=[.sl x ((f5 P).map (N .u8)) 5]):=by
 refine ad Tryz.func27 rfl rfl rfl fun w _=>?_
 have hl0:=fun x=>ae 6 x
 have hle:=fun x:F2=>ak x
 have a1:=RE h.1 h.2
 have a2:=xA P
 have e:f5 P=qz (gx P) (gy P) (gi P):=rfl
 rw[e]
 rw[wG]at a1 a2 ⊢
 generalize gx P=x at *
 generalize gy P=y at *
 generalize gi P=j at *
 have a3:=Ub y
 have a4:=fun s=>oV s [x.im,x.re,y.im,y.re] (by show 4<1000;decide)
 have a5:=fun s=>mI j (ir y) s (fbs [x.im,x.re,y.im,y.re]) (k:=96) (by rw[mH];rfl) (by decide) (by decide) (G8 _)
 rw[He]at a5
 generalize qz x y j=bs at *
 generalize fbs [x.im,x.re,y.im,y.re]=fs at *
 have hQ4:(Q6s [x.im,x.re,y.im,y.re]).flatten.length=4*6:=by rw[fy (fQ _)];unfold Q6s;rfl
 have q1:ab (E2 x++E2 y) (0+0+6) 6 (D 6 x.im.val):=(ab.r (ae 6 _) (ae 6 _)).inl
 have q2:ab (E2 x++E2 y) (0+0+0) 6 (D 6 x.re.val):=(ab.l (ae 6 _)).inl
 have q3:ab (E2 x++E2 y) (0+12+6) 6 (D 6 y.im.val):=by have h:=ab.inr (xs:=E2 x) (ab.r (xs:=D 6 y.re.val) (ys:=D 6 y.im.val) (ae 6 _) (ae 6 _));rw[ak x]at h;exact h
 have q4:ab (E2 x++E2 y) (0+12+0) 6 (D 6 y.re.val):=by have h:=ab.inr (xs:=E2 x) (ab.l (xs:=D 6 y.re.val) (ys:=D 6 y.im.val) (ae 6 _));rw[ak x]at h;exact h
 repeat (first|refine dM ?_|refine cQ (by rfl) fd (by rfl) (by rfl) q1 (by rfl) ?_|refine cQ (by rfl) fd (by rfl) (by rfl) q2 (by rfl) ?_|refine cQ (by rfl) fd (by rfl) (by rfl) q3 (by rfl) ?_|refine cQ (by rfl) fd (by rfl) (by rfl) q4 (by rfl) ?_|refine po ?_|refine dG ?_|(refine ct ?_;intro _)|refine y_4 a1 ?_|refine y_4 a2 ?_|refine av (m:=6) (k:=4) (kk:=.u64) (vss:=Q6s [x.im,x.re,y.im,y.re]) (by rfl) (by rfl) (by rfl) (by rfl) (by rfl) (by rfl) (by rfl) (fQ _) (by rfl) (by rfl) fun _=>?_|(refine ax (by rfl) (by rfl) (by rfl) (a4 _) .nil (RdW.slv fd hQ4) (by rfl) ?_;rintro x2 _ rfl)|refine P4 ?_|refine Z81 fun _=>?_|refine Z85 fun _=>?_)
 refine R.ag [0,1,2,3,4,5,6,7,8,9] (by rfl) ?_
 repeat (first|(refine R.Zpf (by rfl) (by intro _ _ _;(first|refine bI ?_|refine Kv ?_|refine Z01 ?_|refine Z02 ?_|refine Z54 ?_);exact Zq) ?_)|refine aL ?_|refine lC ?_|refine Pv ?_|refine cB ?_|refine ah a3 ?_|refine aA ?_|(refine Pw ?_;intro _)|(refine R.Zpn (by rfl) (by intro _ _ _;(refine ax (by rfl) (by rfl) (by rfl) (a5 _) (.cons fd .nil) (fun _ _=>trivial) (by rfl) ?_;rintro _ _ rfl);exact R.Zpx) fun _=>?_))
 refine R.Zp0 ?_
 repeat (first|refine Px ?_|refine Z81 fun _=>?_|refine Z85 fun _=>?_)
 rename_i x4
 exact Ze2 fun _ hw=>aa hw (Wout:=[.sl x4 (bs.map (N .u8)) 5]) (by exact sw) ⟨_,rfl,rfl⟩
end
section
attribute [local irreducible] Code.wp wpList Af bodyPost L.Go
open Num
attribute [local simp] ae aD
theorem Iw:List.replicate 31 0++[1]=bq 1 32:=by decide +kernel
theorem Py{a b:Prop}(k:b)(h:Rm b→a:=by intro k;refine bL (vs:=[1]) (kk:=.u8) (by rfl) (by rfl) (by rfl) (by rfl) (by rfl) (by rfl) (by rfl) (by rfl) ?_;exact k.h):a:=h ⟨k⟩
theorem Iy:Spec Tryz.prog 17 [] ai [] (fun v Wr=>Wr=[.sl v ((bq 1 32).map (N .u8)) 5]):=by
 refine ad Tryz.func17 rfl rfl rfl fun w _=>?_
 repeat (first|refine yR (n:=31) (by rfl) (by rfl) (by rfl) (by rfl) (by rfl) (by rfl) (by rfl) (by rfl) fun _=>?_|(refine Py ?_;intro _)|refine hJ (xs:=List.replicate 31 0) (ys:=[1]) (kk:=.u8) (by rfl) (by rfl) fd (RdW.own fd) (by rfl) (by rfl) (by rfl) (by rfl) (by simp) (by simp) (by rfl) fun _=>?_|refine Z02 ?_|refine Z03 ?_|refine Z04 ?_|refine Z05 ?_|refine Z06 ?_|refine Z07 ?_|refine Z08 ?_|refine Z09 ?_|refine Z10 ?_|refine Z11 ?_|refine Z12 ?_|refine Z13 ?_|refine Z14 ?_|refine Z83 fun _=>?_|refine Z84 fun _=>?_|refine Z85 fun _=>?_)
 rw[Iw]
 rename_i v
 exact Ze1 fun _ hw=>aa hw (Wout:=[.sl v ((bq 1 32).map (N .u8)) 5]) (by exact sw) rfl
def kN(bs:List Nat):Nat:=if bA bs%r=0 then 1 else bA bs%r
theorem Cl(bs:List Nat):kN bs<r:=by
 unfold kN
 split
 ·decide +kernel
 ·exact Nat.mod_lt _ CT
theorem Aw(bs:List Nat):0<kN bs:=by
 unfold kN
 split <;> omega
theorem Iv:[1]++List.replicate (4-[1].length) 0=D 4 1:=by decide +kernel
theorem Kw{a b:Prop}(k:b)(h:Rm b→a:=by intro k;(first|refine Z02 ?_|refine Z03 ?_|refine Z04 ?_|refine Z05 ?_|refine Z06 ?_|refine Z07 ?_|refine Z08 ?_|refine Z09 ?_|refine Z10 ?_|refine Z11 ?_|refine Z12 ?_|refine Z13 ?_|refine Z14 ?_|refine Z24 ?_|refine Z26 ?_|refine Z27 ?_|refine Z29 ?_|refine Z30 ?_|refine Z31 ?_|refine Z32 ?_|refine Z62 ?_|refine Z63 ?_|refine Z67 ?_|refine Z77 ?_|refine Z78 ?_|refine Z79 ?_);exact k.h):a:=h ⟨k⟩
theorem HW(bs:List Nat)(hb:Lt 256 bs)(hl:bs.length=32):Spec Tryz.prog 19 [LV .u8 bs] ai [] (fun v Wr=>Wr=[.sl v ((bq (kN bs) 32).map (N .u8)) 22]):=by
 refine ad Tryz.func19 rfl rfl rfl fun w _=>?_
 have a1:=fun s=>u4 s bs hb (by omega)
 have hml:=ae 4 (bA bs%r)
 have hk:=Cl bs
 have a2:=xc (a:=kN bs) (Nat.lt_trans hk I6)
 rw[Nat.mod_eq_of_lt hk]at a2
 have hol:=aD (kN bs) 32
 have z4:([]++List.replicate (4-([]:List Nat).length) 0:List Nat)=D 4 0:=by decide +kernel
 repeat (first|(refine sO ?_;intro _)|(refine Bu ?_;intro _)|refine af (by rfl) (by rfl) (by rfl) (a1 _) (RdW.arrAll (m:=32) fd hl) (by rfl) ?_|(refine bk (kk:=.u64) (vs:=[]) (by rfl) (by rfl) (by rfl) (by rfl) (by rfl) (by rfl) (by rfl) (by rfl) ?_;rw[z4])|refine Kw ?_|refine Z81 fun _=>?_|refine Z82 fun _=>?_)
 by_cases h0:bA bs%r=0
 ·have hk1:kN bs=1:=if_pos h0
  have hd:decide (D 4 (bA bs%r)=D 4 0)=true:=by rw[h0];exact decide_eq_true rfl
  rw[hd]
  rw[hk1]at a2 hol ⊢
  repeat (first|(refine bk (kk:=.u64) (vs:=[1]) (by rfl) (by rfl) (by rfl) (by rfl) (by rfl) (by rfl) (by rfl) (by rfl) ?_;rw[Iv])|refine y_4 a2 ?_|(refine Bu ?_;intro _)|refine Kw ?_|refine Z81 fun _=>?_|refine Z82 fun _=>?_)
  refine oE fd hol ?_
  exact Ze1 fun _ hw=>aa hw (Wout:=[.sl (fj _ 32 0 32) ((bq 1 32).map (N .u8)) 22]) (by exact sw) rfl
 ·have hk1:kN bs=bA bs%r:=if_neg h0
  have hd:decide (D 4 (bA bs%r)=D 4 0)=false:=by rw[decide_eq_false_iff_not,G5 (Ic _) (by decide +kernel)];exact h0
  rw[hd]
  rw[hk1]at a2 hol ⊢
  repeat (first|refine y_4 a2 ?_|(refine Bu ?_;intro _)|refine Kw ?_|refine Z81 fun _=>?_|refine Z82 fun _=>?_)
  refine oE fd hol ?_
  exact Ze1 fun _ hw=>aa hw (Wout:=[.sl (fj _ 32 0 32) ((bq (bA bs%r) 32).map (N .u8)) 22]) (by exact sw) rfl
theorem o5(s:Value){k:Nat}(h0:0<k)(hk:k<r):Spec Tryz.prog 31 [s] (fun w=>Rd w s ((bq k 32).map (N .u8))) [] (fun v Wr=>Wr=[.sl v ((D 4 k).map (N .u64)) 71]):=by
 refine ad Tryz.func31 rfl rfl rfl fun w hr=>?_
 have h1:=RdC.mk0 hr
 have hb:bA (bq k 32)=k:=kP _ _ (Nat.lt_trans hk (by decide +kernel))
 have a1:=u6 s (bq k 32) (pS _ _) (aD _ _)
 rw[hb,if_pos hk]at a1
 have hk4:k<W^4:=Nat.lt_trans hk I6
 have hml:=ae 4 k
 have z4:([]++List.replicate (4-([]:List Nat).length) 0:List Nat)=D 4 0:=by decide +kernel
 have hd:decide (D 4 k=D 4 0)=false:=by rw[decide_eq_false_iff_not,G5 hk4 (by decide +kernel)];omega
 repeat (first|(refine sO ?_;intro _)|refine af (by rfl) (by rfl) (by rfl) (a1) (RdW.old h1) (by rfl) ?_|(refine bk (kk:=.u64) (vs:=[]) (by rfl) (by rfl) (by rfl) (by rfl) (by rfl) (by rfl) (by rfl) (by rfl) ?_;rw[z4])|rw[hd]|refine Z01 ?_|refine Z02 ?_|refine Z03 ?_|refine Z04 ?_|refine Z05 ?_|refine Z06 ?_|refine Z07 ?_|refine Z08 ?_|refine Z09 ?_|refine Z10 ?_|refine Z11 ?_|refine Z12 ?_|refine Z13 ?_|refine Z14 ?_|refine Z17 ?_|refine Z18 ?_|refine Z19 ?_|refine Z24 ?_|refine Z26 ?_|refine Z27 ?_|refine Z29 ?_|refine Z30 ?_|refine Z31 ?_|refine Z32 ?_|refine Z49 ?_|refine Z50 ?_|refine Z51 ?_|refine Z52 ?_|refine Z62 ?_|refine Z63 ?_|refine Z67 ?_|refine Z77 ?_|refine Z78 ?_|refine Z79 ?_|refine Z82 fun _=>?_)
 refine oE fd hml ?_
 exact Ze1 fun _ hw=>aa hw (Wout:=[.sl (fj _ 4 0 4) ((D 4 k).map (N .u64)) 71]) (by exact sw) rfl
end
section
variable {P:Program} {c:Cx} {n:Nn} {l:Sl} {W:List Res} {ops:Array Oper} {Q:Exit→Act→World→Prop} {rest:List Oper}
variable {T:TypeId} {pos:String} {after:Array Edge}
abbrev dcl(f:FuncId)(caps:List Value):Deferred:={ target:=.fn (.func f) caps.toArray,args:=#[] }
theorem yK{x:Operand}{f:FuncId}{caps:List Value}(hx:ev l x=some (.func (.func f) #[] caps.toArray))
  (hk:Go c ⟨n.sz,dcl f caps::n.df⟩ l W (wpList P ops Q rest)):
  Go c n l W (wpList P ops Q (⟨none,.defer { callee:=.value x,args:=#[],argTypes:=#[] },T,pos,after,none⟩::rest)):=by
 intro a w hA hw
 refine wpList_plain rfl fun K hK=>?_
 have hrun:(execOp a.eval ⟨none,.defer { callee:=.value x,args:=#[],argTypes:=#[] },T,pos,after,none⟩).run P w = .ok (.defer (dcl f caps)) w:=by
  simp[execOp,resolve,hA.ev hx,Deferred.ofValue]
 show Oper.upon P _ a K Q ((execOp a.eval _).run P w)
 rw[hrun]
 exact hK _ _ (hk _ _ ⟨by simp[Act.put,hA.dfr],hA.sz,hA.at_⟩ hw)
def BD(P:Program)(f:FuncId)(caps:List Value):Prop:=
 (∀ars w,(callFunc f ars).run P w = .ok (.enter f ars) w)∧∀w,CallsD P f caps.toArray .returning w fun e u' w'=>(∃v,e = .returned v)∧u' = .returning∧Ext [] w w'
theorem yg{f cf:FuncId}{fn:Func}{y:Code}{caps:List Value}{T1 T2 T3:TypeId}{p1 p2 p3:String}{e1 e2 e3:Array Edge}{ats:Array TypeId}(hf:P.funcs[f]?=some fn)
  (hb:fn.body=some (.seq (.region 0 #[⟨some 3,.call { callee:=.builtin .recover,args:=#[],argTypes:=#[] },T1,p1,e1,none⟩,
   ⟨some 4,.call { callee:=.value (.func cf),args:=#[.tmp 3],argTypes:=ats },T2,p2,e2,none⟩,⟨some 2,.assign (.tmp 4),T3,p3,e3,none⟩] false) y))
  (hnm:(fn.name == "runtime.NumGoroutine")=false) (hres:fn.results = #[]) (hn:fn.ntmps=8) (hcl:caps.length=2) (hspec:Spec P cf [.nilIface] ai [] (IsV (N .i64 0)))
  (hy:∀w0,Go ⟨w0,[]⟩ ⟨8,[]⟩ [(2,N .i64 0)] [] (y.wp P (Af P (fun e a w=>e = .normal∧a.defers=[]∧Ext [] w0 w) []))):BD P f caps:=by
 refine⟨fun ars w=>gw ⟨fn,hf,hnm,by rw[hb];rfl⟩ ars w,fun w=>callsD_of_wpS hf hb fun c₀ cs hm=>wpS_seq (wpS_region ?_)⟩
 have hr:recoverD (c₀::cs)=none:=by simp[recoverD,hm]
 have h3:3<(caps.toArray++Array.replicate (fn.ntmps-caps.toArray.size) undef).size:=by simp[hn,hcl]
 have hsz:(caps.toArray++Array.replicate (fn.ntmps-caps.toArray.size) undef).size=8:=by simp[hn,hcl]
 generalize (caps.toArray++Array.replicate (fn.ntmps-caps.toArray.size) undef)=tm at h3 hsz
 show wpOpsS P _ _ [0,1,2] _ _ _
 have r0:∀w,(execOp (Act.eval { tmps:=tm,defers:=[] }) ⟨some 3,.call { callee:=.builtin .recover,args:=#[],argTypes:=#[] },T1,p1,e1,none⟩).run P w = .ok .recover w:=fun w=>by
  simp[execOp,resolve,invoke,builtin]
 have hc:=gw hspec.call
 unfold wpOpsS
 simp only[List.getElem?_toArray,List.getElem?_cons_zero,Region.wanted,if_true]
 rw[r0]
 simp only[hr]
 unfold wpOpsS
 simp only[List.getElem?_toArray,List.getElem?_cons_succ,List.getElem?_cons_zero,Region.wanted,if_true]
 have r1:(execOp (Act.eval (Act.put { tmps:=tm,defers:=[] } (some 3) Value.nilIface)) ⟨some 4,.call { callee:=.value (.func cf),args:=#[.tmp 3],argTypes:=ats },T2,p2,e2,none⟩).run P w = .ok (.enter cf #[.nilIface]) w:=by
  have e:(Act.eval (Act.put { tmps:=tm,defers:=[] } (some 3) Value.nilIface)) (.tmp 3) = .nilIface:=by
   simp[Act.eval,Act.put,h3]
  have e':(Act.eval (Act.put { tmps:=tm,defers:=[] } (some 3) Value.nilIface)) (.func cf) = .func (.func cf) #[] #[]:=rfl
  simp[execOp,resolve,e,e',Deferred.ofValue,invoke,hc]
 rw[r1]
 refine Calls.mono (hspec.run w trivial (OwnsIn.nil w)) fun e w' hp=>?_
 obtain⟨v,Wout,⟨rfl,rfl⟩,rfl,hext,_⟩:=hp
 unfold wpOpsS
 simp only[List.getElem?_toArray,List.getElem?_cons_succ,List.getElem?_cons_zero,Region.wanted,if_true]
 have r2:∀(a:Act),a.tmps[4]?=some (N .i64 0)→(execOp (Act.eval a) ⟨some 2,.assign (.tmp 4),T3,p3,e3,none⟩).run P w' = .ok (.value (N .i64 0)) w':=fun a h=>by
  have e:Act.eval a (.tmp 4)=N .i64 0:=by simp[Act.eval,h]
  show Result.ok (Next.value (Act.eval a (.tmp 4))) w'=_
  rw[e]
 rw[r2 _ (by simp[Act.put,hsz])]
 unfold wpOpsS
 have hgo:=hy w' (((Act.put { tmps:=tm,defers:=[] } (some 3) Value.nilIface).put (some 4) (N .i64 0)).put (some 2) (N .i64 0)) w' ⟨rfl,by simp[Act.put,hsz],fun t v ht=>by
  simp only[lk]at ht
  by_cases h:2=t
  ·subst h;simp at ht;subst ht;simp[Act.put,hsz]
  ·rw[iJ h]at ht;cases ht⟩ ⟨Ext.refl _ _,by simp,by simp[fps],by simp[fps]⟩
 refine wpS_of_wp (wp_mono hgo ?_)
 rintro e a w'' hq
 change e = .normal∧a.defers=[]∧Ext [] w' w'' at hq
 obtain⟨rfl,hd,hx⟩:=hq
 refine⟨hd,.returning,?_,_,results_none hres _ _ _,⟨_,rfl⟩,rfl,hext.trans hx (by simp)⟩
 rw[← hm]
theorem xU{f:FuncId}{vs:List Value}{pre:World→Prop}{Win:List Res}{Φ:Value→List Res→Prop}{fn:Func}{x:Code}
  (hf:P.funcs[f]?=some fn) (hb:fn.body=some x) (hnm:(fn.name == "runtime.NumGoroutine")=false) (hn:Nat.ble vs.length fn.ntmps=true)
  (h:∀w,pre w→Go ⟨w,fps Win⟩ ⟨fn.ntmps,[]⟩ (oR 0 vs) Win (x.wp P (Af P (bodyPostD P fn (mm Φ Win w)) []))):Spec P f vs pre Win Φ:=by
 refine⟨⟨fn,hf,hnm,by rw[hb];rfl⟩,fun w hp hW=>calls_of_wp_defers hf hb ?_⟩
 refine h w hp _ _ ⟨rfl,?_,?_⟩ (jz hW)
 ·have:vs.length≤fn.ntmps:=by simpa using Nat.le_of_ble_eq_true hn
  simp;omega
 ·intro t v ht
  obtain⟨_,h2⟩:=mx vs 0 t v ht
  simp only[Nat.sub_zero]at h2
  have hlt:t<vs.length:=by
   rcases Nat.lt_or_ge t vs.length with h | h
   ·exact h
   ·rw[List.getElem?_eq_none h]at h2;simp at h2
  show(vs.toArray++_)[t]?=some v
  rw[Array.getElem?_append_left (by simpa using hlt)]
  simpa using h2
theorem C5{f:FuncId}{caps:List Value}{fn:Func}{R:Ending→World→Prop}{t u:Tmp}{b b':Nat}{T T' U U':TypeId}{v v':Value}{R0 R1:List Res}
  (hres:fn.results = #[.cell t T,.cell u T']) (hv:lk l t=some (pt b 0)) (hu:lk l u=some (pt b' 0)) (hs:kv P T=true) (hs':kv P T'=true) (hD:n.df=[dcl f caps]) (hq:BD P f caps)
  (hf:Find W (.blk b v U) R0) (hf':Find W (.blk b' v' U') R1) (hc:v.cells = #[v]) (hc':v'.cells = #[v'])
  (hR:∀w,SatW c W w→R (.returned (.tuple #[v,v'])) w):Go c n l W (bodyPostD P fn R .ret):=fun a w ha hw=>by
 show Leaves P fn a.tmps R a.defers .returning w
 rw[ha.dfr,hD]
 refine leaves_cons (f:=f) (args:=caps.toArray) (by simp) (by simp[invoke,hq.1]) ?_
 refine(hq.2 w).mono fun e u' w' ⟨⟨x,he⟩,hu',hx⟩=>?_
 subst he;subst hu'
 have hw2:=hw.ext0 hx
 show Leaves P fn a.tmps R [] (settle .returning) w'
 have hh:w'.heap[b]?=some (.cells #[v] U (0,0)):=by rw[← hc];exact hw2.holds _ hf.mem
 have hh':w'.heap[b']?=some (.cells #[v'] U' (0,0)):=by rw[← hc'];exact hw2.holds _ hf'.mem
 have c1:w'.cell? ⟨b,0,none⟩=some v:=by rw[cell_of_row _ b 0 _ U _ hh];simp
 have c2:w'.cell? ⟨b',0,none⟩=some v':=by rw[cell_of_row _ b' 0 _ U' _ hh'];simp
 have h1:=ha.at_ t _ hv
 have h2:=ha.at_ u _ hu
 refine⟨.tuple #[v,v'],?_,hR _ hw2⟩
 have p1:a.tmps[t]?.getD undef=pt b 0:=by rw[h1];rfl
 have p2:a.tmps[u]?.getD undef=pt b' 0:=by rw[h2];rfl
 simp[results,hres,p1,p2,asAddr,cL hs c1,cL hs' c2]
theorem jJ{φ:Act→World→Prop}(h:∀a w,SatA n l a→SatW c W w→φ a w):Go c n l W φ:=h
theorem JF{φ:Act→World→Prop}{s:Value}{xs:List Value}{U:TypeId}{R:List Res}(hf:Find W (.sl s xs U) R)(h:s.oneCell'=true→Go c n l W φ):Go c n l W φ:=fun a w ha hw=>by
 have ho:s.oneCell'=true:=by
  rcases hw.holds _ hf.mem with⟨rfl,_⟩ | ⟨b,off,cap,pre,post,fz,hs⟩
  ·rfl
  ·rw[hs.val];rfl
 exact h ho a w ha hw
theorem JA{d:Nat}{x:Operand}{xt yt:TypeId}{ms:Array (String×TypeId)}(hx:ev l x=some .nilIface)(ht:P.underlying xt=some (.interface ms))(hn:Nat.blt d n.sz=true)
  (hk:Go c n ((d,.bool true)::l) W (wpList P ops Q rest)):Go c n l W (wpList P ops Q (⟨some d,.binOp .eql xt x (.const .nilIface) yt,T,pos,after,none⟩::rest)):=
 aw rfl rfl hn (fun a w ha _=>by
  have h0:a.eval (.const .nilIface) = .nilIface:=rfl
  have h1:(Op.equalIn 10000 xt .nilIface .nilIface).run P w = .ok true w:=by
   rw[Op.equalIn]
   simp only[Sem.run_bind,run_underlying ht,Result.andThen_ok,Sem.run_pure]
  simp[execOp,ha.ev hx,h0,eqGuard,binOp,Op.equal,Op.maxDepth,h1]) hk
end
section
open Num
theorem Le{xs ys:List Nat}(hx:Lt 256 xs)(hy:Lt 256 ys)(h:STR xs=STR ys):xs=ys:=by
 have h0:∀{zs:List Nat},Lt 256 zs→((zs.map Int.ofNat).map fun n=>UInt8.ofNat n.toNat).map UInt8.toNat=zs:=by
  intro zs hz
  rw[List.map_map,List.map_map]
  conv=>rhs;rw[← List.map_id zs]
  refine List.map_congr_left fun a ha=>?_
  have:=hz a ha
  simp only[Function.comp,Int.toNat_natCast,Int.ofNat_eq_natCast,id]
  rw[UInt8.toNat_ofNat']
  exact Nat.mod_eq_of_lt this
 unfold STR at h
 simp only[Value.string.injEq]at h
 have h1:=congrArg (fun b:ByteArray=>b.data.toList.map UInt8.toNat) h
 simp only[strOfNums_data]at h1
 rw[h0 hx,h0 hy]at h1
 exact h1
def wK(es:List MapEntry):Prop:=∀e∈es,∃m,e.key=STR m∧Lt 256 m
theorem j4{m:List Nat}(hm:Lt 256 m):∀{es:List MapEntry}(i:Nat),wK es →
  (∃j e,e∈es∧e.key=STR m∧Instr.findNow .string (STR m) es i=some (some (j,e.val)))∨((∀e∈es,e.key≠STR m)∧Instr.findNow .string (STR m) es i=some none)
 | [],i,_=>.inr ⟨by simp,rfl⟩
 | e::es,i,hs=>by
  obtain⟨m',hk,hm'⟩:=hs e (List.mem_cons_self ..)
  have ih:=j4 hm (es:=es) (i+1) (fun x hx=>hs x (List.mem_cons_of_mem _ hx))
  by_cases hc:STR m'=STR m
  ·refine .inl ⟨i,e,List.mem_cons_self ..,hk.trans hc,?_⟩
   have:Instr.sameNow .string (STR m) e.key=some true:=by
    rw[hk,hc]
    unfold STR Instr.sameNow
    simp only[beq_toListBytes,beq_self_eq_true]
   simp only[Instr.findNow,this]
  ·have hf:Instr.sameNow .string (STR m) e.key=some false:=by
    rw[hk]
    have:strOfNums (m.map Int.ofNat)≠strOfNums (m'.map Int.ofNat):=fun h=>hc (by unfold STR;rw[h])
    unfold STR Instr.sameNow
    simp only[beq_toListBytes,Option.some.injEq]
    refine beq_eq_false_iff_ne.2 fun h=>this ?_
    have e:∀b:ByteArray,b.toList=b.data.toList:=fun b=>by simp[ByteArray.toList_eq]
    rw[e,e]at h
    exact ByteArray.ext (Array.ext' h)
   rcases ih with⟨j,e',h1,h2,h3⟩ | ⟨h1,h2⟩
   ·exact .inl ⟨j,e',List.mem_cons_of_mem _ h1,h2,by simp only[Instr.findNow,hf];exact h3⟩
   ·refine .inr ⟨fun x hx=>?_,by simp only[Instr.findNow,hf];exact h2⟩
    rcases List.mem_cons.1 hx with rfl | hx
    ·rw[hk];exact hc
    ·exact h1 x hx
section
variable {P:Program} {c:Cx} {n:Nn} {l:Sl} {W:List Res} {ops:Array Oper} {Q:Exit→Act→World→Prop} {rest:List Oper}
variable {d:Nat} {T:TypeId} {pos:String} {after:Array Edge}
theorem lY{w:World}{b k:Nat}{es:Array MapEntry}(h:w.heap[b]?=some (.map es k)):(getObj b).run P w = .ok (.map es k) w:=by simp[getObj,Sem.run,h]
theorem D5{tg:List Nat}(h:Lt 256 tg)(cap:Nat):bytesRow (strOfNums (tg.map Int.ofNat)) cap=(tg.map (N .u8)++List.replicate (cap-tg.length) (Value.int .u8 0)).toArray:=by
 have h1:(strOfNums (tg.map Int.ofNat)).data.map (fun b=>Value.int .u8 b.toNat)=(tg.map (N .u8)).toArray:=by
  unfold strOfNums
  simp only[List.map_toArray,List.map_map]
  congr 1
  refine List.map_congr_left fun a ha=>?_
  have:=h a ha
  simp only[Function.comp,Int.toNat_natCast,Int.ofNat_eq_natCast,N]
  rw[UInt8.toNat_ofNat',Nat.mod_eq_of_lt this]
 unfold bytesRow
 rw[h1,strOfNums_size,List.length_map]
 simp
theorem nJ{x:Operand}{tg:List Nat}{t u E:TypeId}(hx:ev l x=some (STR tg))(ht:P.underlying t=some .string)(hu:P.underlying u=some (.slice E))(hE:P.underlying E=some (.int .u8))(hl:Lt 256 tg)(hn:Nat.blt d n.sz=true)
  (hk:∀v,Go c n ((d,v)::l) (.sl v (tg.map (N .u8)) E::W) (wpList P ops Q rest)):
  Go c n l W (wpList P ops Q (⟨some d,.convert t u x,T,pos,after,none⟩::rest)):=
 fi rfl rfl hn (Φ:=fun v V=>V = .sl v (tg.map (N .u8)) E::W) (fun a w ha hw=>by
  have hr:=run_bytes_of_string (P:=P) w t u E (strOfNums (tg.map Int.ofNat)) ht hu hE
  have hg:=grownCap_ge w (strOfNums (tg.map Int.ofNat)).size 0 E
  generalize grownCap w (strOfNums (tg.map Int.ofNat)).size 0 E=cap at hr hg
  rw[D5 hl]at hr
  rw[strOfNums_size,List.length_map]at hr hg
  refine⟨_,_,_,by simp only[execOp,ha.ev hx,STR,Sem.run_bind,hr,Result.andThen_ok,Sem.run_pure];rfl,
   (hw.drawn (w.drawn+1)).alloc (r:=.sl (.slice (some ⟨w.heap.size,0,none⟩) tg.length cap) (tg.map (N .u8)) E) rfl (.inr ⟨w.heap.size,0,cap,[],List.replicate (cap-tg.length) (Value.int .u8 0),_,by simp,by simpa using hg,by simp;omega,rfl,World.alloc_heap_new _ _,by simp⟩),rfl⟩) (fun u V hV=>by subst hV;exact hk u)
theorem Bi{t:TypeId}(hn:Nat.blt d n.sz=true)(hk:∀b,Go c n ((d,.map (some b))::l) (.ob b (.map #[] 0)::W) (wpList P ops Q rest)):
  Go c n l W (wpList P ops Q (⟨some d,.makeMap t none,T,pos,after,none⟩::rest)):=
 fi rfl rfl hn (Φ:=fun u V=>∃b,u = .map (some b)∧V = .ob b (.map #[] 0)::W)
  (fun a w ha hw=>⟨.map (some w.heap.size),w.alloc (.map #[] 0),_,by
   simp[execOp,Instr.makeMap],hw.alloc (o:=.map #[] 0) (r:=.ob w.heap.size (.map #[] 0)) rfl (World.alloc_heap_new _ _),_,rfl,rfl⟩)
  (fun u V ⟨b,hu,hV⟩=>by subst hu;subst hV;exact hk b)
theorem Fw{x y:Operand}{t kt et:TypeId}{b k:Nat}{es:Array MapEntry}{m:List Nat}{z:Value}{R:List Res}(hx:ev l x=some (.map (some b)))(hy:ev l y=some (STR m))(ht:P.underlying t=some (.map kt et))(hkt:P.underlying kt=some .string)(hz:cH P et=some z)
  (hf:Find W (.ob b (.map es k)) R) (hm:Lt 256 m) (hs:wK es.toList) (hn:Nat.blt d n.sz=true)
  (h1:∀e∈es.toList,e.key=STR m→Go c n ((d,.tuple #[e.val,.bool true])::l) W (wpList P ops Q rest))
  (h2:(∀e∈es.toList,e.key≠STR m)→Go c n ((d,.tuple #[z,.bool false])::l) W (wpList P ops Q rest)):
  Go c n l W (wpList P ops Q (⟨some d,.lookup t x y true,T,pos,after,none⟩::rest)):=by
 have hck:∀w,(Instr.checkKey es.isEmpty 10000 kt (STR m)).run P w = .ok () w:=fun w=>by
  rw[Instr.checkKey]
  simp only[Sem.run_bind,run_underlying hkt,Result.andThen_ok,STR]
  rfl
 rcases j4 hm 0 hs with⟨j,e,he,hke,hfn⟩ | ⟨hno,hfn⟩
 ·refine aw (v:=.tuple #[e.val,.bool true]) rfl rfl hn (fun a w ha hw=>?_) (h1 e he hke)
  have hh:w.heap[b]?=some (.map es k):=hw.holds _ hf.mem
  simp only[execOp,ha.ev hx,ha.ev hy,Instr.lookup,Sem.run_bind,run_underlying ht,Result.andThen_ok,lY hh,hck,Instr.findKey,run_underlying hkt,hfn,Sem.run_pure]
  rfl
 ·refine aw (v:=.tuple #[z,.bool false]) rfl rfl hn (fun a w ha hw=>?_) (h2 hno)
  have hh:w.heap[b]?=some (.map es k):=hw.holds _ hf.mem
  simp only[execOp,ha.ev hx,ha.ev hy,Instr.lookup,Sem.run_bind,run_underlying ht,Result.andThen_ok,lY hh,hck,Instr.findKey,run_underlying hkt,hfn,Sem.run_pure,cn hz]
  rfl
theorem we{x y u:Operand}{t kt et:TypeId}{b k:Nat}{es:Array MapEntry}{m:List Nat}{v:Value}{R:List Res}(hx:ev l x=some (.map (some b)))(hy:ev l y=some (STR m))(hu:ev l u=some v)(ht:P.underlying t=some (.map kt et))(hkt:P.underlying kt=some .string)
  (hf:Find W (.ob b (.map es k)) R) (hm:Lt 256 m) (hs:wK es.toList) (hno:∀e∈es.toList,e.key≠STR m)
  (hk:Go c n l (.ob b (.map (es.push { key:=STR m,val:=v,born:=k }) (k+1))::R) (wpList P ops Q rest)):
  Go c n l W (wpList P ops Q (⟨none,.mapUpdate t x y u,T,pos,after,none⟩::rest)):=by
 have hck:∀w,(Instr.checkKey false 10000 kt (STR m)).run P w = .ok () w:=fun w=>by
  rw[Instr.checkKey]
  simp only[Sem.run_bind,run_underlying hkt,Result.andThen_ok,STR]
  rfl
 rcases j4 hm 0 hs with⟨j,e,he,hke,hfn⟩ | ⟨_,hfn⟩
 ·exact absurd hke (hno e he)
 ·refine tW rfl rfl (fun a w ha hw=>?_) hk
  have hw:=hw.perm hf.perm
  have hh:w.heap[b]?=some (.map es k):=hw.holds _ (List.mem_cons_self ..)
  refine⟨w.putObj b (.map (es.push { key:=STR m,val:=v,born:=k }) (k+1)),?_,hw.upd (r':=.ob b _) rfl ⟨rfl,rfl,rfl,by simp,fun k _ hk=>World.putObj_heap_other (by simpa[Res.fp]using hk)⟩ (World.putObj_heap_same (Array.getElem?_eq_some_iff.1 hh).1)⟩
  have hset:∀o,(setObj b o).run P w = .ok () (w.putObj b o):=fun o=>by simp[setObj,Sem.run,hh,World.putObj]
  simp only[execOp,ha.ev hx,ha.ev hy,ha.ev hu,Instr.mapUpdate,Sem.run_bind,run_underlying ht,Result.andThen_ok,lY hh,hck,Instr.findKey,run_underlying hkt,hfn,Sem.run_pure,hset]
end
end
section
attribute [local irreducible] Code.wp wpList Af bodyPost L.Go ab
open Num
attribute [local simp] ae aD
def hdf(i b:Bool)(y:Nat):Nat:=(y ||| 128) ||| (cond i 64 0) ||| (cond b 32 0)
theorem HH:∀y,y<32→∀i b:Bool,hdf i b y<256:=by decide +kernel
theorem Ce:∀y,y<32→∀i b:Bool,hdf i b y &&& 128=128:=by decide +kernel
theorem vd:∀y,y<32→∀i b:Bool,hdf i b y &&& 64=cond i 64 0:=by decide +kernel
theorem vc:∀y,y<32→∀i b:Bool,hdf i b y &&& 32=cond b 32 0:=by decide +kernel
theorem vb:∀y,y<32→∀i b:Bool,hdf i b y &&& 31=y:=by decide +kernel
theorem B3(i b:Bool){y:Nat}(r:List Nat):qK i b (y::r)=hdf i (b && !i) y::r:=by
 cases i <;> cases b <;> simp[qK,flg,hdf]
theorem tB(x:Fq):∃y r,bq x.val 48=y::r∧y<32:=by
 have hl:=aD x.val 48
 cases h:bq x.val 48 with
 | nil=>rw[h]at hl;cases hl
 | cons y r=>
  refine⟨y,r,rfl,?_⟩
  have h2:=ot x.val 48 0 (by decide)
  rw[h]at h2
  have h3:y=x.val/256^(48-1-0)%256:=h2
  have h4:x.val<32*256^47:=Nat.lt_trans x.isLt (by decide +kernel)
  have h5:x.val/256^47<32:=Nat.div_lt_of_lt_mul (by rw[Nat.mul_comm];exact h4)
  rw[h3]
  exact Nat.lt_of_le_of_lt (Nat.mod_le _ _) h5
theorem RdW.tail1{c:Cx}{W:List Res}{s:Value}{x:Nat}{xs:List Nat}(h:RdW c W s ((x::xs).map (N .u8))):RdW c W (L.sub s 1 ((x::xs).map (N .u8)).length) (xs.map (N .u8)):=by
 have h2:=RdW.subN (lo:=1) (hi:=(x::xs).length) h (by simp) (Nat.le_refl _)
 rw[List.take_length,List.drop_one,List.tail_cons]at h2
 rw[List.length_map];exact h2
theorem jR{a b:Prop}(k:b)(h:Rm b→a:=by intro k;(first|refine Z01 ?_|refine Z02 ?_|refine Z03 ?_|refine Z04 ?_|refine Z05 ?_|refine Z06 ?_|refine Z07 ?_|refine Z08 ?_|refine Z09 ?_|refine Z10 ?_|refine Z11 ?_|refine Z12 ?_|refine Z13 ?_|refine Z14 ?_|refine Z15 ?_|refine Z17 ?_|refine Z18 ?_|refine Z19 ?_|refine Z20 ?_|refine Z21 ?_|refine Z22 ?_|refine Z23 ?_|refine Z24 ?_|refine Z26 ?_|refine Z27 ?_|refine Z29 ?_|refine Z30 ?_|refine Z31 ?_|refine Z32 ?_|refine Z36 ?_|refine Z40 ?_|refine Z49 ?_|refine Z50 ?_|refine Z51 ?_|refine Z52 ?_|refine Z54 ?_|refine Z62 ?_|refine Z63 ?_|refine Z67 ?_|refine Z68 ?_|refine Z69 ?_);exact k.h):a:=h ⟨k⟩
theorem Kx{a b:Prop}(k:b)(h:Rm b→a:=by intro k;refine yO (i:=0) (by rfl) (by rfl) (by rfl) (by rfl) (RdW.old (h1.shift (by assumption))) (by simp) (by rfl) ?_;exact k.h):a:=h ⟨k⟩
theorem Ky{a b:Prop}(k:b)(h:Rm b→a:=by intro k;refine pb (i:=0) (by rfl) (RdW.old (h1.shift (by assumption))) (by simp) (by rfl) (by rfl) ?_;exact k.h):a:=h ⟨k⟩
theorem DD{a b:Prop}(k:b)(h:Rm b→a:=by intro k;refine R.Zpn (by rfl) (by intro _ _ _;(first|refine Z82 fun _=>?_|refine Z84 fun _=>?_|refine Z85 fun _=>?_);exact R.Zpx) ?_;exact k.h):a:=h ⟨k⟩
theorem Pz{a b:Prop}(k:b)(h:Rm b→a:=by intro k;(first|refine Z01 ?_|refine Z02 ?_|refine Z15 ?_|refine Z17 ?_|refine Z18 ?_|refine Z19 ?_|refine Z20 ?_|refine Z21 ?_|refine Z22 ?_|refine Z23 ?_|refine Z36 ?_|refine Z40 ?_|refine Z49 ?_|refine Z50 ?_|refine Z54 ?_|refine Z62 ?_|refine Z63 ?_|refine Z68 ?_|refine Z69 ?_);exact k.h):a:=h ⟨k⟩
theorem P5{a b:Prop}(k:b)(h:Rm b→a:=by intro k;(first|refine Kx ?_|refine Ky ?_|refine Z01 ?_|refine Z02 ?_|refine Z15 ?_|refine Z17 ?_|refine Z18 ?_|refine Z19 ?_|refine Z20 ?_|refine Z21 ?_|refine Z22 ?_|refine Z23 ?_|refine Z36 ?_|refine Z40 ?_|refine Z49 ?_|refine Z50 ?_|refine Z54 ?_|refine Z62 ?_|refine Z63 ?_|refine Z68 ?_|refine Z69 ?_);exact k.h):a:=h ⟨k⟩
theorem DP{a b:Prop}(k:b)(h:Rm b→a:=by intro k;refine R.Zpp (by rfl) (by intro _ _ _;(first|refine TC ?_);exact Zq) ?_;exact k.h):a:=h ⟨k⟩
set_option maxHeartbeats 4000000 in
theorem yh(s:Value){y hf:Nat}{r:List Nat}(hy:y<32)(hr0:r.length+1=48*hf)(hh:hf<1000)(hz:y::r=List.replicate (48*hf) 0):
  Spec Tryz.prog 47 [s,N .i64 hf,.bool true] (fun w=>Rd w s ((hdf true false y::r).map (N .u8))) [] (IsV (.tuple #[.slice none 0 0,.bool false,N .i64 0])):=by
 refine ad Tryz.func47 rfl rfl rfl fun w hr=>?_
 obtain⟨i,hi⟩:∃i,i=true:=⟨_,rfl⟩
 obtain⟨b,hb0⟩:∃i,i=false:=⟨_,rfl⟩
 rw[← hi,← hb0]at hr
 have h1:=RdC.mk0 hr
 have hlen:(hdf i b y::r).length=48*hf:=by rw[List.length_cons];omega
 have hb:hdf i b y<256:=HH y hy i b
 have e1:=Ce y hy i b
 have e2:=vd y hy i b
 have e3:=vc y hy i b
 have e4:=vb y hy i b
 generalize hdf i b y=h0 at *
 have hm:=Nat.mod_eq_of_lt hb
 repeat (first|refine y_5 ?_|refine iC (by rfl) (by rfl) (RdW.old h1) (by rfl) ?_|rw[hlen]|refine jR ?_|refine Z82 fun _=>?_|refine Z84 fun _=>?_|refine Z85 fun _=>?_)
 refine R.ag [0,1,2,3,4,5,6,7,8,9,10,11,12,13,14,15,16,17] (by rfl) ?_
 repeat (first|(refine R.Zpf (by rfl) (by intro _ _ _;(first|refine P5 ?_);exact Zq) ?_)|refine DP ?_|refine aA ?_|(refine DD ?_;intro _))
 refine R.Zp0 ?_
 have hg:(h0::r).getD 0 0%256=h0:=hm
 have g1:decide (0<(h0::r).getD 0 0%256 &&& 128%256)=true:=by rw[hg];show decide (0<h0 &&& 128)=true;rw[e1];rfl
 have g2:decide (0<(h0::r).getD 0 0%256 &&& 64%256)=i:=by rw[hg];show decide (0<h0 &&& 64)=i;rw[e2];cases i <;> rfl
 have g3:decide (0<(h0::r).getD 0 0%256 &&& 32%256)=b:=by rw[hg];show decide (0<h0 &&& 32)=b;rw[e3];cases b <;> rfl
 rw[g1,g2,g3]
 clear g1 g2 g3 e1 e2 e3
 subst hi
 subst hb0
 repeat (first|refine jR ?_|refine Z82 fun _=>?_|refine Z84 fun _=>?_|refine Z85 fun _=>?_)
 refine R.ag [0,1,2,3,5,6,4,7,8] (by rfl) ?_
 repeat (first|(refine R.Zpf (by rfl) (by intro _ _ _;(first|refine Kx ?_|refine Ky ?_|refine ky (xs:=(h0::r).map (N .u8)) (lo:=1) (hi:=((h0::r).map (N .u8)).length) (by rfl) (by rfl) (by rfl) (RdW.old (h1.shift (by assumption))) (by rfl) (by rfl) (by simp) (Nat.le_refl _) (by rfl) ?_|refine Pz ?_);exact Zq) ?_)|refine DP ?_|refine aA ?_|(refine DD ?_;intro _)|(refine R.Zpn (by rfl) (by intro _ _ _;refine bL (vs:=[(h0::r).getD 0 0%256 &&& 31%256]) (kk:=.u8) (by rfl) (by rfl) (by rfl) (by rfl) (by rfl) (by rfl) (by rfl) (by rfl) fun _=>?_;exact R.Zpx) fun _=>?_)|(refine R.Zpn (by rfl) (by intro _ _ _;(refine hJ (xs:=[(h0::r).getD 0 0%256 &&& 31%256]) (ys:=r) (kk:=.u8) (by rfl) (by rfl) fd (RdW.tail1 (RdW.old (h1.shift (by assumption)))) (by rfl) (by rfl) (by rfl) (by rfl) (by simp;omega) (by simp;omega) (by rfl) fun _=>?_);exact R.Zpx) fun _=>?_))
 refine R.Zp0 ?_
 rw[show[(h0::r).getD 0 0%256 &&& 31%256]++r=y::r by rw[hg];show(h0 &&& 31)::r=_;rw[e4]]
 rw[hz]
 have hzl:(List.replicate (48*hf) 0).length=48*hf:=List.length_replicate
 repeat (first|rw[hzl]|refine FB ?_|refine ic ?_|refine Z01 ?_|refine Z02 ?_|refine Z03 ?_|refine Z04 ?_|refine Z05 ?_|refine Z06 ?_|refine Z07 ?_|refine Z08 ?_|refine Z09 ?_|refine Z10 ?_|refine Z11 ?_|refine Z12 ?_|refine Z13 ?_|refine Z14 ?_|refine Z15 ?_|refine Z17 ?_|refine Z18 ?_|refine Z19 ?_|refine Z20 ?_|refine Z21 ?_|refine Z22 ?_|refine Z23 ?_|refine Z24 ?_|refine Z26 ?_|refine Z27 ?_|refine Z29 ?_|refine Z30 ?_|refine Z31 ?_|refine Z32 ?_|refine Z36 ?_|refine Z40 ?_|refine Z49 ?_|refine Z50 ?_|refine Z51 ?_|refine Z52 ?_|refine Z54 ?_|refine Z62 ?_|refine Z63 ?_|refine Z67 ?_|refine Z68 ?_|refine Z69 ?_|refine Z82 fun _=>?_|refine Z84 fun _=>?_|refine Z85 fun _=>?_)
 rename_i v0 v
 refine az (ι:=Nat) (fun i=>i≤48*hf) (fun i=>[(12,.bool false),(63,v),(64,N .i64 (48*hf)),(65,N .i64 i)]) (fun _=>[.sl v ((List.replicate (48*hf) 0).map (N .u8)) 5]) (fun i=>48*hf-i) 0 (by omega) sbq sw ?_
 intro i hi
 repeat (first|refine jR ?_|refine Z82 fun _=>?_|refine Z84 fun _=>?_|refine Z85 fun _=>?_)
 refine an (by rfl) (fun h=>?_) (fun h=>?_)
 ·have hg0:(List.replicate (48*hf) 0).getD i 0=0:=by simp[List.getD_eq_getElem?_getD,List.getElem?_replicate];split <;> rfl
  repeat (first|rw[hg0]|refine jR ?_|refine Z82 fun _=>?_|refine Z84 fun _=>?_|refine Z85 fun _=>?_)
  exact ao (i+1) (by omega) (by omega) sbq sw
 ·repeat (first|with_reducible refine Bj ?_|refine jR ?_|refine Z82 fun _=>?_|refine Z84 fun _=>?_|refine Z85 fun _=>?_)
  exact Ze3 fun _ hw=>aa hw SubW.nil ⟨rfl,rfl⟩
theorem kE(x:Fq):bA (bq x.val 48)=x.val:=kP _ _ (Nat.lt_trans x.isLt (by decide +kernel))
theorem Se(s:Value)(x:Fq):Spec Tryz.prog 93 [s] (fun w=>Rd w s ((bq x.val 48).map (N .u8))) [] (IsV (.tuple #[LV .u64 (Q6 x),N .i64 0])):=by
 have h:=AU s (bq x.val 48) (pS _ _) (aD _ _) (by rw[kE];exact x.isLt)
 rwa [kE]at h
theorem UC(x:Fq)(l:List Fq):fbs (x::l)=bq x.val 48++fbs l:=by unfold fbs;rw[List.map_cons,List.flatten_cons]
theorem wJ(l:List Fq):(Q6s l).flatten.length=l.length*6:=by rw[fy (fQ _)];unfold Q6s;rw[List.length_map]
theorem TW{l:List Fq}{i:Nat}{x:Fq}(h:l[i]?=some x):Q6s (l.take i)++[Q6 x]=Q6s (l.take (i+1)):=by
 rw[List.take_add_one,h]
 simp[Q6s,Option.toList]
theorem TV(l:List Fq):(Q6s l).length=l.length:=by unfold Q6s;rw[List.length_map]
theorem QZ{l:List Fq}{i:Nat}{x:Fq}(h:l[i]?=some x):l.drop i=x::l.drop (i+1):=by
 obtain⟨hi,h⟩:=List.getElem?_eq_some_iff.1 h
 rw[List.drop_eq_getElem_cons hi,h]
set_option maxHeartbeats 4000000 in
theorem yj(s:Value)(b:Bool){xs:List Fq}{y hf:Nat}{r:List Nat}(hy:y<32)(hx:xs.length=hf)(hh:hf<1000)(hz:y::r=fbs xs):
  Spec Tryz.prog 47 [s,N .i64 hf,.bool true] (fun w=>Rd w s ((hdf false b y::r).map (N .u8))) [] (fun v Wr=>∃u,v = .tuple [u,.bool b,N .i64 0].toArray∧Wr=[.sl (wide 6 u) ((Q6s xs).flatten.map (N .u64)) 32]):=by
 refine ad Tryz.func47 rfl rfl rfl fun w hr=>?_
 obtain⟨i,hi⟩:∃i,i=false:=⟨_,rfl⟩
 rw[← hi]at hr
 have hr0:r.length+1=48*hf:=by
  have h:=congrArg List.length hz
  rw[mH,hx]at h
  exact h
 have h1:=RdC.mk0 hr
 have hlen:(hdf i b y::r).length=48*hf:=by rw[List.length_cons];omega
 have hb:hdf i b y<256:=HH y hy i b
 have e1:=Ce y hy i b
 have e2:=vd y hy i b
 have e3:=vc y hy i b
 have e4:=vb y hy i b
 generalize hdf i b y=h0 at *
 have hm:=Nat.mod_eq_of_lt hb
 repeat (first|refine y_5 ?_|refine iC (by rfl) (by rfl) (RdW.old h1) (by rfl) ?_|rw[hlen]|refine jR ?_|refine Z82 fun _=>?_|refine Z84 fun _=>?_|refine Z85 fun _=>?_)
 refine R.ag [0,1,2,3,4,5,6,7,8,9,10,11,12,13,14,15,16,17] (by rfl) ?_
 repeat (first|(refine R.Zpf (by rfl) (by intro _ _ _;(first|refine P5 ?_);exact Zq) ?_)|refine DP ?_|refine aA ?_|(refine DD ?_;intro _))
 refine R.Zp0 ?_
 have hg:(h0::r).getD 0 0%256=h0:=hm
 have g1:decide (0<(h0::r).getD 0 0%256 &&& 128%256)=true:=by rw[hg];show decide (0<h0 &&& 128)=true;rw[e1];rfl
 have g2:decide (0<(h0::r).getD 0 0%256 &&& 64%256)=i:=by rw[hg];show decide (0<h0 &&& 64)=i;rw[e2];cases i <;> rfl
 have g3:decide (0<(h0::r).getD 0 0%256 &&& 32%256)=b:=by rw[hg];show decide (0<h0 &&& 32)=b;rw[e3];cases b <;> rfl
 rw[g1,g2,g3]
 clear g1 g2 g3 e1 e2 e3
 subst hi
 cases b
 all_goals
  repeat (first|refine jR ?_|refine Z82 fun _=>?_|refine Z84 fun _=>?_|refine Z85 fun _=>?_)
  refine R.ag [0,1,2,3,5,6,4,7,8] (by rfl) ?_
  repeat (first|(refine R.Zpf (by rfl) (by intro _ _ _;(first|refine Kx ?_|refine Ky ?_|refine ky (xs:=(h0::r).map (N .u8)) (lo:=1) (hi:=((h0::r).map (N .u8)).length) (by rfl) (by rfl) (by rfl) (RdW.old (h1.shift (by assumption))) (by rfl) (by rfl) (by simp) (Nat.le_refl _) (by rfl) ?_|refine Pz ?_);exact Zq) ?_)|refine DP ?_|refine aA ?_|(refine DD ?_;intro _)|(refine R.Zpn (by rfl) (by intro _ _ _;refine bL (vs:=[(h0::r).getD 0 0%256 &&& 31%256]) (kk:=.u8) (by rfl) (by rfl) (by rfl) (by rfl) (by rfl) (by rfl) (by rfl) (by rfl) fun _=>?_;exact R.Zpx) fun _=>?_)|(refine R.Zpn (by rfl) (by intro _ _ _;(refine hJ (xs:=[(h0::r).getD 0 0%256 &&& 31%256]) (ys:=r) (kk:=.u8) (by rfl) (by rfl) fd (RdW.tail1 (RdW.old (h1.shift (by assumption)))) (by rfl) (by rfl) (by rfl) (by rfl) (by simp;omega) (by simp;omega) (by rfl) fun _=>?_);exact R.Zpx) fun _=>?_))
  refine R.Zp0 ?_
  rw[show[(h0::r).getD 0 0%256 &&& 31%256]++r=y::r by rw[hg];show(h0 &&& 31)::r=_;rw[e4]]
  rw[hz]
  repeat (first|refine jR ?_|refine Z82 fun _=>?_|refine Z84 fun _=>?_|refine Z85 fun _=>?_)
  rename_i v0 v
  refine iD 6 32 ?_
  refine az (ι:=Nat×Value×Value) (fun q=>q.1≤hf) (fun q=>[(12,.bool _),(13,q.2.1),(16,q.2.2)]) (fun q=>[.sl (wide 6 q.2.2) ((Q6s (xs.take q.1)).flatten.map (N .u64)) 32,.sl q.2.1 ((fbs (xs.drop q.1)).map (N .u8)) 5]) (fun q=>hf-q.1) (0,v,.slice none 0 0) (by simp) sbq sw ?_
  rintro⟨k,v1,u1⟩ hk
  simp only at hk ⊢
  have hl1:(fbs (xs.drop k)).length=48*(hf-k):=by rw[mH,List.length_drop,hx]
  repeat (first|rw[hl1]|refine jR ?_|refine Z82 fun _=>?_|refine Z84 fun _=>?_|refine Z85 fun _=>?_)
  refine an (by rfl) (fun h=>?_) (fun h=>?_)
  ·have hkl:k<hf:=by omega
   obtain⟨x,hxk⟩:∃x,xs[k]?=some x:=⟨_,List.getElem?_eq_getElem (by rw[hx];exact hkl)⟩
   have hdr:fbs (xs.drop k)=bq x.val 48++fbs (xs.drop (k+1)):=by rw[QZ hxk,UC]
   have htk:((fbs (xs.drop k)).take 48).drop 0=bq x.val 48:=by rw[hdr,List.take_left' (aD _ _)];rfl
   have htd:((fbs (xs.drop k)).take (48*(hf-k))).drop 48=fbs (xs.drop (k+1)):=by rw[List.take_of_length_le (by omega),hdr,List.drop_left' (aD _ _)]
   have hE:∀v∈[Q6 x],v.length=6:=by simp
   have hE1:[Q6 x].flatten.length=1*6:=by simp
   have hfl:(Q6s (xs.take k)).flatten.length=(Q6s (xs.take k)).length*6:=fy (fQ _)
   have hn1:(Q6s (xs.take k)).length≤k:=by rw[TV,List.length_take];omega
   have hfs:=TW hxk
   repeat (first|(refine cM ?_;intro _)|refine y_5 ?_|(refine ky (xs:=(fbs (xs.drop k)).map (N .u8)) (lo:=0) (hi:=48) (by rfl) (by rfl) (by rfl) (RdW.own fd) (by rfl) (by rfl) (by decide) (by rw[List.length_map];omega) (by rfl) ?_)|(refine af (by rfl) (by rfl) (by rfl) (Se _ x) (fun w hw=>by have h:=RdW.subN (lo:=0) (hi:=48) (ys:=fbs (xs.drop k)) (k:=.u8) (RdW.own fd) (by omega) (by omega) w hw;rw[htk]at h;exact h) (by rfl) ?_)|refine av (m:=6) (kk:=.u64) (vss:=[Q6 x]) (by rfl) (by rfl) (by rfl) (by rfl) (by rfl) (by rfl) (by rfl) hE (by rfl) (by rfl) fun _=>?_|(refine kx (m:=6) (kk:=.u64) (xss:=Q6s (xs.take k)) (yss:=[Q6 x]) (by rfl) (by rfl) fd (RdW.slv fd hE1) (by rfl) (by rfl) (by rfl) (by rfl) (by decide) hfl hE1 (by simp) (by simp;omega) (by simp;omega) (by rfl) fun _=>?_;rw[hfs])|refine jR ?_|refine Z82 fun _=>?_|refine Z84 fun _=>?_|refine Z85 fun _=>?_)
   rename_i p1 p2 u2
   refine nH (s:=v1) 48 ((fbs (xs.drop k)).map (N .u8)).length fd (by rw[List.length_map];omega) (Nat.le_refl _) ?_
   rw[show(((fbs (xs.drop k)).map (N .u8)).take ((fbs (xs.drop k)).map (N .u8)).length).drop 48=(fbs (xs.drop (k+1))).map (N .u8) by rw[List.take_length,← List.map_drop,hdr,List.drop_left' (aD _ _)]]
   exact ao (k+1,sub v1 48 ((fbs (xs.drop k)).map (N .u8)).length,u2) (by simp only;omega) (by simp only;omega) sbq sw
  ·have hk':k=hf:=by omega
   subst hk'
   rw[List.take_of_length_le (by omega)]
   repeat (first|refine jR ?_|refine Z82 fun _=>?_|refine Z84 fun _=>?_|refine Z85 fun _=>?_)
   exact Ze3 fun _ hw=>aa hw (Wout:=[.sl (wide 6 u1) ((Q6s xs).flatten.map (N .u64)) 32]) (by exact sw) ⟨_,rfl,rfl⟩
end
section
attribute [local irreducible] Code.wp wpList Af bodyPost L.Go
open Num
theorem AN{y:Fq}(h:y≠0):(-y).val≠y.val:=by
 intro e
 have e1:-y=y:=Fin.ext e
 have hz:em y≠Kf.K2.zero:=fun e=>h (congrArg Kf.K2.re e)
 apply Kf.K2.gj p_3 hz
 have h2:y+y=0:=by
  have h3:y + -y=0:=by grind
  rwa [e1]at h3
 unfold em Kf.K2.add Kf.K2.zero
 exact Kf.K2.ext' h2 (by grind)
theorem RY(y:Fq):- -y=y:=by grind
theorem ql{y:Fq}(h:y≠0):jS (-y) = !jS y:=by
 have h1:=AN h
 unfold jS
 rw[RY]
 by_cases hc:(-y).val<y.val
 ·rw[decide_eq_true hc,decide_eq_false (by omega)];rfl
 ·rw[decide_eq_false hc,decide_eq_true (by omega)];rfl
theorem Gi{y:F2}(h:y≠Kf.K2.zero):ir (Kf.K2.neg y) = !ir y:=by
 have h0:(-(0:Fq))=0:=by grind
 unfold ir
 by_cases hi:y.im=0
 ·have hr:y.re≠0:=fun e=>h (Kf.K2.ext' e hi)
  rw[if_pos hi,if_pos (show(Kf.K2.neg y).im=0 from(show -y.im=0 by rw[hi,h0]))]
  exact ql hr
 ·rw[if_neg hi,if_neg (show ¬(Kf.K2.neg y).im=0 from fun e=>hi (by rw[← RY y.im,show -y.im=0 from e,h0]))]
  exact ql hi
theorem UE{t y:Fq}(h:t*t=y*y):(if jS t=jS y then t else -t)=y:=by
 rcases Kf.Jp p_3.1 h with rfl | rfl
 ·rw[if_pos rfl]
 ·by_cases hy:y=0
  ·subst hy
   have h0:(-(0:Fq))=0:=by grind
   rw[h0,if_pos rfl]
  ·rw[ql hy,if_neg (by cases jS y <;> decide),RY]
theorem WY{t y:F2}(h:Kf.K2.mul t t=Kf.K2.mul y y):(if ir t=ir y then t else Kf.K2.neg t)=y:=by
 rcases Kf.K2.Jq p_3 h with rfl | rfl
 ·rw[if_pos rfl]
 ·by_cases hy:y=Kf.K2.zero
  ·subst hy
   rw[Kf.K2.bj,if_pos rfl]
  ·rw[Gi hy,if_neg (by cases ir y <;> decide),Kf.K2.bv]
theorem LG{a y:Fq}(h:y*y=a):(if jS (Kf.K2.fsq a).1=jS y then(Kf.K2.fsq a).1 else -(Kf.K2.fsq a).1)=y:=
 UE ((Kf.K2.pL p_3 h).2.trans h.symm)
theorem M3{a y:F2}(h:Kf.K2.mul y y=a):(if ir (Kf.K2.cN a).1=ir y then(Kf.K2.cN a).1 else Kf.K2.neg (Kf.K2.cN a).1)=y:=by
 apply WY
 have hr:=Kf.K2.jD p_3 a
 rcases hr with⟨_,h2,_⟩ | ⟨_,_,h2⟩
 ·rw[h2,h]
 ·exact absurd h (h2 y)
end
section
attribute [local irreducible] Code.wp wpList Af bodyPost L.Go ab
open Num
attribute [local simp] ae aD
theorem R4:bq (0:Fq).val 48=List.replicate (48*1) 0:=by rw[Dm];decide +kernel
theorem pJ(u v:Fq)(j:Bool):∃y r,lp u v j=hdf j (lH v && !j) y::r∧y<32∧y::r=bq u.val 48:=by
 obtain⟨y,r,h1,h2⟩:=tB u
 exact⟨y,r,by rw[lp,h1,B3],h2,h1.symm⟩
set_option maxHeartbeats 4000000 in
theorem uM(s:Value):Spec Tryz.prog 24 [s,.bool true] (fun w=>Rd w s ((ec none).map (N .u8))) [] (IsV (.tuple #[HV none,N .i64 0])):=by
 refine ad Tryz.func24 rfl rfl rfl fun w hr=>?_
 have h1:=RdC.mk0 hr
 obtain⟨y,r,e1,e2,e3⟩:=pJ 0 0 true
 rw[Bool.not_true,Bool.and_false]at e1
 rw[R4]at e3
 have hl:r.length+1=48*1:=by
  have h:=congrArg List.length e3
  rw[List.length_replicate]at h
  exact h
 have a1:=yh s e2 hl (by decide) e3
 have e:ec none=hdf true false y::r:=e1
 rw[e]at h1
 repeat (first|(refine dV ?_;intro _)|refine af (by rfl) (by rfl) (by rfl) (a1) (RdW.old h1) (by rfl) ?_|refine iC (ys:=[]) (kk:=.u64) (by rfl) (by rfl) RdW.nil (by rfl) ?_|rw[List.length_nil]|refine Kh ?_|refine io ?_|refine Z01 ?_|refine Z02 ?_|refine Z03 ?_|refine Z04 ?_|refine Z05 ?_|refine Z06 ?_|refine Z07 ?_|refine Z08 ?_|refine Z09 ?_|refine Z10 ?_|refine Z11 ?_|refine Z12 ?_|refine Z13 ?_|refine Z14 ?_|refine Z17 ?_|refine Z18 ?_|refine Z19 ?_|refine Z20 ?_|refine Z21 ?_|refine Z22 ?_|refine Z23 ?_|refine Z24 ?_|refine Z26 ?_|refine Z27 ?_|refine Z29 ?_|refine Z30 ?_|refine Z31 ?_|refine Z32 ?_|refine Z54 ?_|refine Z67 ?_|refine Z68 ?_|refine Z69 ?_|refine Z82 fun _=>?_)
 rw[jh]
 refine bF (m:=12) (by rfl) (by rfl) (by rfl) fd (by rfl) (by rfl) (by first|with_reducible assumption|simp) fun _ hw=>aa hw SubW.nil ⟨?_,rfl⟩
 rfl
theorem nT{x y:Fq}(h:Kf.K2.Onc c4 (some (em x,em y))):y*y=cW (al (al x x) x) (kp 4):=by
 have h2:Kf.K2.mul (em y) (em y)=Kf.K2.add (Kf.K2.mul (Kf.K2.mul (em x) (em x)) (em x)) (em (kp 4)):=h
 rw[← bY,← bY,← bY,← jZ]at h2
 exact congrArg Kf.K2.re h2
theorem ut{a b:Prop}(k:b)(h:Rm b→a:=by intro k;(first|refine Z01 ?_|refine Z02 ?_|refine Z03 ?_|refine Z04 ?_|refine Z05 ?_|refine Z06 ?_|refine Z07 ?_|refine Z08 ?_|refine Z09 ?_|refine Z10 ?_|refine Z11 ?_|refine Z12 ?_|refine Z13 ?_|refine Z14 ?_|refine Z17 ?_|refine Z18 ?_|refine Z19 ?_|refine Z20 ?_|refine Z21 ?_|refine Z22 ?_|refine Z23 ?_|refine Z24 ?_|refine Z26 ?_|refine Z27 ?_|refine Z29 ?_|refine Z30 ?_|refine Z31 ?_|refine Z32 ?_|refine Z54 ?_|refine Z67 ?_|refine Z68 ?_|refine Z69 ?_);exact k.h):a:=h ⟨k⟩
theorem DQ{a b:Prop}(k:b)(h:Rm b→a:=by intro k;refine R.Zpp (by rfl) (by intro _ _ _;(first|refine VS ?_);exact Zq) ?_;exact k.h):a:=h ⟨k⟩
set_option maxHeartbeats 8000000 in
theorem uN(s:Value){x y:Fq}(h:Ok1 (some (em x,em y))):Spec Tryz.prog 24 [s,.bool true] (fun w=>Rd w s ((ec (some (em x,em y))).map (N .u8))) [] (IsV (.tuple #[HV (some (em x,em y)),N .i64 0])):=by
 refine ad Tryz.func24 rfl rfl rfl fun w hr=>?_
 have h1:=RdC.mk0 hr
 have hl0:=fun x=>ae 6 x
 obtain⟨ho,hR,ht⟩:=h
 have b1:=mM ho hR
 have b2:=RD ho hR ht
 obtain⟨t,r,e1,e2,e3⟩:=pJ x y false
 rw[Bool.not_false,Bool.and_true]at e1
 have a1:=yj s (lH y) (xs:=[x]) (hf:=1) e2 rfl (by decide) (by rw[e3];unfold fbs;simp)
 have e:ec (some (em x,em y))=hdf false (lH y) t::r:=e1
 rw[e]at h1
 have c1:=bU x x
 have c2:=bU (al x x) x
 have c3:=lv (al (al x x) x) (kp 4)
 have c4':=u7 (cW (al (al x x) x) (kp 4))
 have hy:y*y=cW (al (al x x) x) (kp 4):=by
  have:=nT ho
  exact this
 generalize cW (al (al x x) x) (kp 4)=z at *
 have hfix:=LG hy
 generalize (Kf.K2.fsq z).1=rt at *
 generalize (Kf.K2.fsq z).2=rb at *
 have hQ1:(Q6s [x]).flatten.length=1*6:=by rw[wJ];rfl
 have hz0:(Q6s [x])[0]?=some (Q6 x):=by unfold Q6s;rfl
 repeat (first|(refine dV ?_;intro _)|(refine ax (by rfl) (by rfl) (by rfl) (a1) .nil (RdW.old h1) (by rfl) ?_;rintro _ _ ⟨u,rfl,rfl⟩)|(refine ie (m:=6) (k:=1) (by rfl) (by rfl) (RdW.own fd) (by decide) (by rw[List.length_map];exact hQ1) (by rfl) ?_)|(refine fh (m:=6) (s:=u) (i:=0) (k:=1) (by rfl) (by rfl) (by rfl) (by rfl) (RdW.own fd) (by decide) (by rw[List.length_map];exact hQ1) (by decide) (by rfl) ?_)|refine eI (m:=6) (s:=wide 6 u) (i:=0) (by rfl) (by rfl) (by rfl) (RdW.own fd) (fQ _) hz0 (by decide) (by rfl) ?_|refine wk (pre:=[]) (zs:=Q6 0) (post:=Q6 0) (by rfl) (by rfl) fd (by rfl) (by rfl) (ae 6 _) (ae 6 _) ?_|rw[K8]|refine zp ?_|refine zq ?_|refine bI ?_|refine eP ?_|refine fM ?_|refine ft ?_|refine Z01 ?_|refine Z02 ?_|refine Z03 ?_|refine Z04 ?_|refine Z05 ?_|refine Z06 ?_|refine Z07 ?_|refine Z08 ?_|refine Z09 ?_|refine Z10 ?_|refine Z11 ?_|refine Z12 ?_|refine Z13 ?_|refine Z14 ?_|refine Z17 ?_|refine Z18 ?_|refine Z19 ?_|refine Z20 ?_|refine Z21 ?_|refine Z22 ?_|refine Z23 ?_|refine Z24 ?_|refine Z26 ?_|refine Z27 ?_|refine Z29 ?_|refine Z30 ?_|refine Z31 ?_|refine Z32 ?_|refine Z54 ?_|refine Z67 ?_|refine Z68 ?_|refine Z69 ?_|refine Z82 fun _=>?_)
 rw[List.nil_append]
 refine R.ag [0,1,2,3,4,5,6,7,8,9,10,11,12,13,14,15] (by rfl) ?_
 repeat (first|(refine R.Zpf (by rfl) (by intro _ _ _;(first|refine Ke ?_|refine bI ?_|refine fM ?_|refine ft ?_|refine Z01 ?_|refine Z02 ?_|refine Z17 ?_|refine Z18 ?_|refine Z19 ?_|refine Z20 ?_|refine Z21 ?_|refine Z22 ?_|refine Z23 ?_|refine Z54 ?_|refine Z68 ?_|refine Z69 ?_);exact Zq) ?_)|refine DQ ?_|refine sj ?_|refine sn ?_|refine cB ?_|refine ah c1 ?_|refine ah c2 ?_|refine ah c3 ?_|refine ah c4' ?_|refine aA ?_|(refine R.Zps (by rfl) (by intro _ _ _;(refine nI (pre:=Q6 x) (zs:=Q6 0) (by rfl) (by rfl) fd (by rfl) (ae 6 _) (ae 6 _) (ae 6 _) ?_);exact Zqq) ?_)|(refine Bw ?_;intro _))
 refine R.Zp0 ?_
 have b3:=Uc rt
 have b4:=CQ rt
 have e5:HV (some (em x,em y))=HE x y false:=gu _ _
 rw[e5]at b1 b2 ⊢
 repeat (first|refine zp ?_|refine zq ?_|refine bI ?_|refine eP ?_|refine fM ?_|refine ft ?_|refine y_4 b3 ?_|refine ut ?_|refine Z82 fun _=>?_)
 refine an (by rfl) (fun hc=>?_) (fun hc=>?_)
 ·have hy2:g6 rt=y:=by
   rw[if_neg (show ¬jS rt=jS y from hc)]at hfix
   unfold g6;exact hfix
  rw[hy2]at b4
  repeat (first|refine jf ?_|refine io ?_|refine zp ?_|refine zq ?_|refine y_4 b1 ?_|refine y_4 b2 ?_|refine y_4 b4 ?_|refine bI ?_|refine eP ?_|refine fM ?_|refine ft ?_|refine nI (pre:=Q6 x) (zs:=Q6 rt) (by rfl) (by rfl) fd (by rfl) (ae 6 _) (ae 6 _) (ae 6 _) ?_|refine ut ?_|refine Z82 fun _=>?_)
  refine bF (m:=12) (by rfl) (by rfl) (by rfl) fd (by rfl) (by rfl) (by first|with_reducible assumption|simp) fun _ hw=>aa hw SubW.nil ⟨?_,rfl⟩
  rfl
 ·have hy2:rt=y:=by
   rw[if_pos (show jS rt=jS y from Decidable.not_not.1 hc)]at hfix
   exact hfix
  subst hy2
  repeat (first|refine jf ?_|refine io ?_|refine y_4 b1 ?_|refine y_4 b2 ?_|refine bI ?_|refine eP ?_|refine fM ?_|refine ft ?_|refine Z01 ?_|refine Z02 ?_|refine Z03 ?_|refine Z04 ?_|refine Z05 ?_|refine Z06 ?_|refine Z07 ?_|refine Z08 ?_|refine Z09 ?_|refine Z10 ?_|refine Z11 ?_|refine Z12 ?_|refine Z13 ?_|refine Z14 ?_|refine Z17 ?_|refine Z18 ?_|refine Z19 ?_|refine Z20 ?_|refine Z21 ?_|refine Z22 ?_|refine Z23 ?_|refine Z24 ?_|refine Z26 ?_|refine Z27 ?_|refine Z29 ?_|refine Z30 ?_|refine Z31 ?_|refine Z32 ?_|refine Z54 ?_|refine Z67 ?_|refine Z68 ?_|refine Z69 ?_|refine Z82 fun _=>?_)
  refine bF (m:=12) (by rfl) (by rfl) (by rfl) fd (by rfl) (by rfl) (by first|with_reducible assumption|simp) fun _ hw=>aa hw SubW.nil ⟨?_,rfl⟩
  rfl
theorem Mp:bq (0:Fq).val 48++bq (0:Fq).val 48=List.replicate (48*2) 0:=by rw[Dm];decide +kernel
theorem BT(x y:F2)(j:Bool):∃t r,qz x y j=hdf j (ir y && !j) t::r∧t<32∧t::r=bq x.im.val 48++bq x.re.val 48:=by
 obtain⟨t,r,h1,h2⟩:=tB x.im
 exact⟨t,r++bq x.re.val 48,by rw[qz,h1,List.cons_append,B3],h2,by rw[h1];rfl⟩
set_option maxHeartbeats 4000000 in
theorem uO(s:Value):Spec Tryz.prog 25 [s,.bool true] (fun w=>Rd w s ((f5 none).map (N .u8))) [] (IsV (.tuple #[GV none,N .i64 0])):=by
 refine ad Tryz.func25 rfl rfl rfl fun w hr=>?_
 have h1:=RdC.mk0 hr
 obtain⟨y,r,e1,e2,e3⟩:=BT Kf.K2.zero Kf.K2.zero true
 rw[Bool.not_true,Bool.and_false]at e1
 rw[show(Kf.K2.zero:F2).im=0 from rfl,show(Kf.K2.zero:F2).re=0 from rfl,Mp]at e3
 have hl:r.length+1=48*2:=by
  have h:=congrArg List.length e3
  rw[List.length_replicate]at h
  exact h
 have a1:=yh s e2 hl (by decide) e3
 have e:f5 none=hdf true false y::r:=e1
 rw[e]at h1
 repeat (first|(refine ct ?_;intro _)|refine af (by rfl) (by rfl) (by rfl) (a1) (RdW.old h1) (by rfl) ?_|refine iC (ys:=[]) (kk:=.u64) (by rfl) (by rfl) RdW.nil (by rfl) ?_|rw[List.length_nil]|refine se ?_|refine dG ?_|refine Z01 ?_|refine Z02 ?_|refine Z03 ?_|refine Z04 ?_|refine Z05 ?_|refine Z06 ?_|refine Z07 ?_|refine Z08 ?_|refine Z09 ?_|refine Z10 ?_|refine Z11 ?_|refine Z12 ?_|refine Z13 ?_|refine Z14 ?_|refine Z17 ?_|refine Z18 ?_|refine Z19 ?_|refine Z20 ?_|refine Z21 ?_|refine Z22 ?_|refine Z23 ?_|refine Z24 ?_|refine Z26 ?_|refine Z27 ?_|refine Z29 ?_|refine Z30 ?_|refine Z31 ?_|refine Z32 ?_|refine Z54 ?_|refine Z67 ?_|refine Z68 ?_|refine Z69 ?_|refine Z82 fun _=>?_)
 refine bF (m:=24) (by rfl) (by rfl) (by rfl) fd (by rfl) (by rfl) (by first|with_reducible assumption|simp) fun _ hw=>aa hw SubW.nil ⟨?_,rfl⟩
 rfl
theorem P6{a b:Prop}(k:b)(h:Rm b→a:=by intro k;(first|refine bI ?_|refine eO ?_|refine fM ?_|refine ft ?_|refine Z01 ?_|refine Z02 ?_|refine Z17 ?_|refine Z18 ?_|refine Z19 ?_|refine Z20 ?_|refine Z21 ?_|refine Z22 ?_|refine Z23 ?_|refine Z54 ?_|refine Z68 ?_|refine Z69 ?_);exact k.h):a:=h ⟨k⟩
set_option maxHeartbeats 8000000 in
theorem uP(s:Value){x y:F2}(h:Ok2 (some (x,y))):Spec Tryz.prog 25 [s,.bool true] (fun w=>Rd w s ((f5 (some (x,y))).map (N .u8))) [] (IsV (.tuple #[GV (some (x,y)),N .i64 0])):=by
 refine ad Tryz.func25 rfl rfl rfl fun w hr=>?_
 have h1:=RdC.mk0 hr
 have hl0:=fun x=>ae 6 x
 have hle:=fun x:F2=>ak x
 obtain⟨ho,ht⟩:=h
 have b1:=LM ho
 have b2:=RE ho ht
 obtain⟨t,r,e1,e2,e3⟩:=BT x y false
 rw[Bool.not_false,Bool.and_true]at e1
 have a1:=yj s (ir y) (xs:=[x.im,x.re]) (hf:=2) e2 rfl (by decide) (by rw[e3];unfold fbs;simp)
 have e:f5 (some (x,y))=hdf false (ir y) t::r:=e1
 rw[e]at h1
 have c1:=aF x x
 have c2:=aF (Kf.K2.mul x x) x
 have c3:=cX (Kf.K2.mul (Kf.K2.mul x x) x) b2c
 have c4':=OT (Kf.K2.add (Kf.K2.mul (Kf.K2.mul x x) x) b2c)
 have hy:Kf.K2.mul y y=Kf.K2.add (Kf.K2.mul (Kf.K2.mul x x) x) b2c:=ho
 generalize Kf.K2.add (Kf.K2.mul (Kf.K2.mul x x) x) b2c=z at *
 have hfix:=M3 hy
 generalize (Kf.K2.cN z).1=rt at *
 generalize (Kf.K2.cN z).2=rb at *
 have hQ2:(Q6s [x.im,x.re]).flatten.length=2*6:=by rw[wJ];rfl
 have hz0:(Q6s [x.im,x.re])[0]?=some (Q6 x.im):=by unfold Q6s;rfl
 have hz1:(Q6s [x.im,x.re])[1]?=some (Q6 x.re):=by unfold Q6s;rfl
 have e24:(List.replicate 24 0:List Nat)=E2 Kf.K2.zero++E2 Kf.K2.zero:=by decide +kernel
 repeat (first|(refine ct ?_;intro _)|(refine ax (by rfl) (by rfl) (by rfl) (a1) .nil (RdW.old h1) (by rfl) ?_;rintro _ _ ⟨u,rfl,rfl⟩)|(refine ie (m:=6) (k:=2) (by rfl) (by rfl) (RdW.own fd) (by decide) (by rw[List.length_map];exact hQ2) (by rfl) ?_)|rw[e24]|refine ut ?_|refine Z82 fun _=>?_)
 have ex:Q6 x.re++Q6 x.im=E2 x:=rfl
 have eb:Q6 (kp 4)++Q6 (kp 4)=E2 b2c:=rfl
 refine R.ag [0,1,2,3,4,5,6,7,8] (by rfl) ?_
 repeat (first|(refine R.Zpf (by rfl) (by intro _ _ _;(first|(refine cC (by rfl) (by rfl) (by rfl) (by rfl) (by simp;done) (by simp;done) (by rfl) ?_;rw[ex])|refine P6 ?_);exact Zq) ?_)|refine DQ ?_|(refine R.Zpp (by rfl) (by intro _ _ _;(refine fh (m:=6) (s:=u) (i:=1) (k:=2) (by rfl) (by rfl) (by rfl) (by rfl) (RdW.own fd) (by decide) (by rw[List.length_map];exact hQ2) (by decide) (by rfl) ?_);exact Zq) ?_)|(refine R.Zpp (by rfl) (by intro _ _ _;(refine fh (m:=6) (s:=u) (i:=0) (k:=2) (by rfl) (by rfl) (by rfl) (by rfl) (RdW.own fd) (by decide) (by rw[List.length_map];exact hQ2) (by decide) (by rfl) ?_);exact Zq) ?_)|(refine R.Zpp (by rfl) (by intro _ _ _;(refine eI (m:=6) (s:=wide 6 u) (i:=1) (by rfl) (by rfl) (by rfl) (RdW.own fd) (fQ _) hz1 (by decide) (by rfl) ?_);exact Zq) ?_)|(refine R.Zpp (by rfl) (by intro _ _ _;(refine eI (m:=6) (s:=wide 6 u) (i:=0) (by rfl) (by rfl) (by rfl) (RdW.own fd) (fQ _) hz0 (by decide) (by rfl) ?_);exact Zq) ?_)|refine cB ?_|refine aA ?_|(refine R.Zps (by rfl) (by intro _ _ _;(refine wk (pre:=[]) (zs:=E2 Kf.K2.zero) (post:=E2 Kf.K2.zero) (by rfl) (by rfl) fd (by rfl) (by rfl) (ak _) (ak _) ?_);exact Zqq) ?_)|(refine Bw ?_;intro _))
 refine R.Zp0 ?_
 rw[List.nil_append]
 repeat (first|refine ut ?_|refine Z82 fun _=>?_)
 refine R.ag [0,1,2,3,4,5,6,7,8,9,10,11,12,13,14,15,16,17] (by rfl) ?_
 repeat (first|(refine R.Zpf (by rfl) (by intro _ _ _;(first|refine Ke ?_|(refine cC (by rfl) (by rfl) (by rfl) (by rfl) (by simp;done) (by simp;done) (by rfl) ?_;rw[eb])|refine P6 ?_);exact Zq) ?_)|refine DQ ?_|refine lC ?_|refine cB ?_|refine ah c1 ?_|refine ah c2 ?_|refine ah c3 ?_|refine ah c4' ?_|refine aA ?_|(refine R.Zps (by rfl) (by intro _ _ _;(refine nI (pre:=E2 x) (zs:=E2 Kf.K2.zero) (by rfl) (by rfl) fd (by rfl) (ak _) (ak _) (ak _) ?_);exact Zqq) ?_)|(refine Bw ?_;intro _))
 refine R.Zp0 ?_
 have b3:=Ub rt
 have b4:=o8 rt
 have e5:GV (some (x,y))=GE x y false:=rfl
 rw[e5]at b1 b2 ⊢
 repeat (first|refine po ?_|refine bI ?_|refine eP ?_|refine eO ?_|refine fM ?_|refine ft ?_|refine y_4 b3 ?_|refine ut ?_|refine Z82 fun _=>?_)
 refine an (by rfl) (fun hc=>?_) (fun hc=>?_)
 ·have hy2:Kf.K2.neg rt=y:=by
   rw[if_neg (show ¬ir rt=ir y from hc)]at hfix
   exact hfix
  rw[hy2]at b4
  repeat (first|refine dM ?_|refine dG ?_|refine po ?_|refine y_4 b1 ?_|refine y_4 b2 ?_|refine y_4 b4 ?_|refine bI ?_|refine eP ?_|refine eO ?_|refine fM ?_|refine ft ?_|refine nI (pre:=E2 x) (zs:=E2 rt) (by rfl) (by rfl) fd (by rfl) (ak _) (ak _) (ak _) ?_|refine ut ?_|refine Z82 fun _=>?_)
  refine bF (m:=24) (by rfl) (by rfl) (by rfl) fd (by rfl) (by rfl) (by first|with_reducible assumption|simp) fun _ hw=>aa hw SubW.nil ⟨?_,rfl⟩
  rfl
 ·have hy2:rt=y:=by
   rw[if_pos (show ir rt=ir y from Decidable.not_not.1 hc)]at hfix
   exact hfix
  subst hy2
  repeat (first|refine dM ?_|refine dG ?_|refine y_4 b1 ?_|refine y_4 b2 ?_|refine bI ?_|refine eP ?_|refine eO ?_|refine fM ?_|refine ft ?_|refine Z01 ?_|refine Z02 ?_|refine Z03 ?_|refine Z04 ?_|refine Z05 ?_|refine Z06 ?_|refine Z07 ?_|refine Z08 ?_|refine Z09 ?_|refine Z10 ?_|refine Z11 ?_|refine Z12 ?_|refine Z13 ?_|refine Z14 ?_|refine Z17 ?_|refine Z18 ?_|refine Z19 ?_|refine Z20 ?_|refine Z21 ?_|refine Z22 ?_|refine Z23 ?_|refine Z24 ?_|refine Z26 ?_|refine Z27 ?_|refine Z29 ?_|refine Z30 ?_|refine Z31 ?_|refine Z32 ?_|refine Z54 ?_|refine Z67 ?_|refine Z68 ?_|refine Z69 ?_|refine Z82 fun _=>?_)
  refine bF (m:=24) (by rfl) (by rfl) (by rfl) fd (by rfl) (by rfl) (by first|with_reducible assumption|simp) fun _ hw=>aa hw SubW.nil ⟨?_,rfl⟩
  rfl
end
section
attribute [local irreducible] Code.wp wpList Af bodyPost L.Go ab
open Num
attribute [local simp] ae
attribute [local irreducible] Kf.T12.mul Kf.T12.one Kf.T12.conj Kf.T12.inv CR.pw frI
attribute [local irreducible] bi gm
theorem H6{ps qs:List (Kf.K2.Pt p)}(h:qs.length=ps.length)(f:F12):ee (ps.take ps.length) (qs.take ps.length) f=ee ps qs f:=by
 rw[List.take_length,← h,List.take_length]
theorem PA{a b:Prop}(k:b)(h:Rm b→a:=by intro k;(first|refine Z01 ?_|refine Z02 ?_|refine Z03 ?_|refine Z04 ?_|refine Z05 ?_|refine Z06 ?_|refine Z07 ?_|refine Z08 ?_|refine Z09 ?_|refine Z10 ?_|refine Z11 ?_|refine Z12 ?_|refine Z13 ?_|refine Z14 ?_|refine Z15 ?_|refine Z17 ?_|refine Z18 ?_|refine Z19 ?_|refine Z20 ?_|refine Z21 ?_|refine Z22 ?_|refine Z23 ?_|refine Z24 ?_|refine Z26 ?_|refine Z27 ?_|refine Z29 ?_|refine Z30 ?_|refine Z31 ?_|refine Z32 ?_|refine Z49 ?_|refine Z50 ?_|refine Z51 ?_|refine Z52 ?_|refine Z54 ?_|refine Z67 ?_);exact k.h):a:=h ⟨k⟩
theorem P7{a b:Prop}(k:b)(h:Rm b→a:=by intro k;(first|refine jQ ?_|refine Z01 ?_|refine Z02 ?_|refine Z03 ?_|refine Z04 ?_|refine Z05 ?_|refine Z06 ?_|refine Z07 ?_|refine Z08 ?_|refine Z09 ?_|refine Z10 ?_|refine Z11 ?_|refine Z12 ?_|refine Z13 ?_|refine Z14 ?_|refine Z15 ?_|refine Z17 ?_|refine Z18 ?_|refine Z19 ?_|refine Z20 ?_|refine Z21 ?_|refine Z22 ?_|refine Z23 ?_|refine Z24 ?_|refine Z26 ?_|refine Z27 ?_|refine Z29 ?_|refine Z30 ?_|refine Z31 ?_|refine Z32 ?_|refine Z49 ?_|refine Z50 ?_|refine Z51 ?_|refine Z52 ?_|refine Z54 ?_|refine Z67 ?_);exact k.h):a:=h ⟨k⟩
set_option maxHeartbeats 8000000 in
theorem vP(s1 s2:Value)(ps qs:List (Kf.K2.Pt p))(hl:qs.length=ps.length)(hs:ps.length<1000)(hP:∀P∈ps,Ok1 P)(hQ:∀Q∈qs,Ok2 Q):
  Spec Tryz.prog 91 [s1,s2] (fun w=>Rd w (wide 13 s1) (hWs ps).flatten∧Rd w (wide 25 s2) (gWs qs).flatten) [] (IsV (.tuple [bM (gm (ee ps qs (bi []))),N .i64 0].toArray)):=by
 refine ad Tryz.func91 rfl rfl rfl fun w hr=>?_
 have h1:=RdC.mk0 hr.1
 have h2:=RdC.mk0 hr.2
 have hl0:=fun x=>ae 6 x
 have hle:=fun x:F2=>ak x
 have hx1:(hWs ps).flatten.length=ps.length*13:=xD ps
 have hx2:(gWs qs).flatten.length=ps.length*25:=by rw[Hv,hl]
 have e0:=fF (.slice none 0 0) [] (by decide)
 have hn0:((gt []).flatten.map (N .u64))=[]:=by unfold gt;rfl
 have w0:wide 72 (.slice none 0 0) = .slice none 0 0:=zi 72
 rw[hn0,w0]at e0
 have em0:bi []=ee (ps.take 0) (qs.take 0) (bi []):=rfl
 repeat (first|(refine cO ?_;intro _)|refine ie (m:=13) (k:=ps.length) (s:=s1) (by rfl) (by rfl) (RdW.old h1) (by decide) hx1 (by rfl) ?_|refine ie (m:=25) (k:=ps.length) (s:=s2) (by rfl) (by rfl) (RdW.old h2) (by decide) hx2 (by rfl) ?_|refine y_5 ?_|refine af (by rfl) (by rfl) (by rfl) (e0) (RdW.nil) (by rfl) ?_|refine P7 ?_|refine Z82 fun _=>?_|refine Z85 fun _=>?_)
 rename_i p4 p6
 refine az (ι:=Nat) (fun i=>i≤ps.length) (fun i=>[(1,s2),(4,pt p4 0),(6,pt p6 0),(18,s1),(19,N .i64 ps.length),(20,N .i64 i)]) (fun i=>[.blk p6 (bM (ee (ps.take i) (qs.take i) (bi []))) 138,.blk p4 (LV .u64 (List.replicate 72 0)) 138]) (fun i=>ps.length-i) 0 (by omega) sbq (by rw[← em0];exact sw) ?_
 intro i hi
 repeat (first|refine PA ?_|refine Z82 fun _=>?_|refine Z85 fun _=>?_)
 refine an (by rfl) (fun h=>?_) (fun h=>?_)
 ·obtain⟨P,hxP⟩:∃x,ps[i]?=some x:=⟨_,List.getElem?_eq_getElem h⟩
  obtain⟨Q,hxQ⟩:∃x,qs[i]?=some x:=⟨_,List.getElem?_eq_getElem (by rw[hl];exact h)⟩
  have z1:=LN hxP
  have z2:=LH hxQ
  obtain⟨oP,rP,tP⟩:=hP P (List.mem_of_getElem? hxP)
  obtain⟨oQ,tQ⟩:=hQ Q (List.mem_of_getElem? hxQ)
  have i1:=RD oP rP tP
  have i2:=RE oQ tQ
  have lo:=AH oP rP oQ
  have hm:=H7 (bi []) hxP hxQ
  generalize ee (ps.take i) (qs.take i) (bi [])=f at hm ⊢
  have pr:=fun s=>fF s [f,Kf.T12.conj (Kf.T12.mil P Q xB).1] (by simp)
  rw[← hm]at pr
  generalize hq:ee (ps.take (i+1)) (qs.take (i+1)) (bi [])=f' at hm pr
  generalize Kf.T12.conj (Kf.T12.mil P Q xB).1=g at *
  obtain⟨u,v,j,q1⟩:∃u v j,HV P=HE u v j:=⟨_,_,_,rfl⟩
  obtain⟨x,y,j',q2⟩:∃u v j,GV Q=GE u v j:=⟨_,_,_,rfl⟩
  rw[q1]at i1 lo
  rw[q2]at i2 lo
  rw[TU]at q1
  rw[TS]at q2
  repeat (first|(refine dV ?_;intro _)|refine fh (m:=13) (s:=s1) (i:=i) (k:=ps.length) (by rfl) (by rfl) (by rfl) (by rfl) (RdW.old h1) (by decide) hx1 h (by rfl) ?_|(refine md (m:=13) (s:=wide 13 s1) (i:=i) (by rfl) (by rfl) (by rfl) (RdW.old h1) (pN _) z1 (by decide) (by rfl) ?_;rw[q1])|refine fh (m:=25) (s:=s2) (i:=i) (k:=ps.length) (by rfl) (by rfl) (by rfl) (by rfl) (RdW.old h2) (by decide) hx2 h (by rfl) ?_|(refine md (m:=25) (s:=wide 25 s2) (i:=i) (by rfl) (by rfl) (by rfl) (RdW.old h2) (pM _) z2 (by decide) (by rfl) ?_;rw[q2])|refine io ?_|refine jf ?_|refine y_4 i1 ?_|refine y_4 i2 ?_|refine PA ?_|refine Z82 fun _=>?_|refine Z85 fun _=>?_)
  refine R.ag [0,1,2,3,4,5,6,7,8,11,9,10] (by rfl) ?_
  repeat (first|(refine R.Zpf (by rfl) (by intro _ _ _;(first|refine Z01 ?_|refine Z02 ?_|refine Z15 ?_|refine Z17 ?_|refine Z18 ?_|refine Z19 ?_|refine Z20 ?_|refine Z21 ?_|refine Z22 ?_|refine Z23 ?_|refine Z49 ?_|refine Z50 ?_|refine Z54 ?_);exact Zq) ?_)|refine DQ ?_|refine Kr ?_|(refine R.Zpp (by rfl) (by intro _ _ _;(refine fh (m:=25) (s:=s2) (i:=i) (k:=ps.length) (by rfl) (by rfl) (by rfl) (by rfl) (RdW.old (h2.shift (by assumption))) (by decide) hx2 h (by rfl) ?_);exact Zq) ?_)|(refine R.Zpp (by rfl) (by intro _ _ _;(refine md (m:=25) (s:=wide 25 s2) (i:=i) (by rfl) (by rfl) (by rfl) (RdW.old (h2.shift (by assumption))) (pM _) z2 (by decide) (by rfl) ?_;rw[q2]);exact Zq) ?_)|refine ah lo ?_|refine nP ?_|(refine ur ?_;intro _)|(refine R.Zpn (by rfl) (by intro _ _ _;(first|refine Z82 fun _=>?_|refine Z85 fun _=>?_);exact R.Zpx) fun _=>?_))
  refine R.Zp0 ?_
  repeat (first|refine gd ?_|refine av (m:=72) (k:=2) (kk:=.u64) (vss:=gt [f,g]) (by rfl) (by rfl) (by rfl) (by rfl) (by rfl) (by rfl) (by rfl) (dc _) (by rfl) (by rfl) fun _=>?_|refine af (by rfl) (by rfl) (by rfl) (pr _) (Sx fd rfl) (by rfl) ?_|refine su ?_|refine Z01 ?_|refine Z02 ?_|refine Z03 ?_|refine Z04 ?_|refine Z05 ?_|refine Z06 ?_|refine Z07 ?_|refine Z08 ?_|refine Z09 ?_|refine Z10 ?_|refine Z11 ?_|refine Z12 ?_|refine Z13 ?_|refine Z14 ?_|refine Z15 ?_|refine Z17 ?_|refine Z18 ?_|refine Z19 ?_|refine Z20 ?_|refine Z21 ?_|refine Z22 ?_|refine Z23 ?_|refine Z24 ?_|refine Z26 ?_|refine Z27 ?_|refine Z29 ?_|refine Z30 ?_|refine Z31 ?_|refine Z32 ?_|refine Z49 ?_|refine Z50 ?_|refine Z51 ?_|refine Z52 ?_|refine Z54 ?_|refine Z67 ?_|refine Z82 fun _=>?_|refine Z85 fun _=>?_)
  exact ao (i+1) (by omega) (by omega) sbq (by rw[hq];exact sw)
 ·have hi':i=ps.length:=by omega
  subst hi'
  rw[H6 hl]
  have fs:=An (ee ps qs (bi []))
  have hE:=be (gm (ee ps qs (bi [])))
  repeat (first|refine gd ?_|refine y_4 fs ?_|refine P7 ?_|refine Z82 fun _=>?_|refine Z85 fun _=>?_)
  refine aJ (by rfl) (by rfl) (by rfl) fd (by rfl) (by rfl) (by first | with_reducible assumption | (simp[*];done)) fun _ hw=>aa hw SubW.nil ⟨?_,rfl⟩
  rfl
end
section
variable {P:Program}
structure EqT (P:Program) (D:Nat) (T:TypeId) (m:Nat):Prop where
 agg:cD P T=true
 sz:ay P T=some m
 run:∀(w:World)(xs ys:List Nat),xs.length=m→ys.length=m→(Op.equalIn D T (LV .u64 xs) (LV .u64 ys)).run P w = .ok (decide (xs=ys)) w
theorem Lz(d:Nat){t E:TypeId}{m:Nat}(ht:P.underlying t=some (.array m E))(hs:ay P t=some m)(hE:P.underlying E=some (.int .u64))(hz:ay P E=some 1):EqT P (d+2) t m:=
 ⟨by unfold cD;rw[ht],hs,fun w xs ys hx hy=>ew (w:=w) d ht hE hz xs ys hx hy⟩
theorem fU{D:Nat}{T:TypeId}{m off:Nat}{f:Field}(hk:f.type=T)(ho:f.offset=off)(h:EqT P D T m){xs zs:List Nat}(hp:ab xs off m zs)(w:World):
  (part f.type (xs.map (N .u64)).toArray f.offset).run P w = .ok (LV .u64 zs) w:=by
 have he:=(hp.map (N .u64)).ext
 simp only[part,Sem.run_bind,hk,bV h.agg,Result.andThen_ok,if_true,aq h.sz,ho,he,Sem.run_pure,LV]
theorem zY{a b c d:List Nat}(h:a.length=c.length):decide (a++b=c++d)=(decide (a=c)&&decide (b=d)):=by
 rw[← Bool.decide_and]
 exact decide_eq_decide.mpr ⟨fun e=>List.append_inj e h,fun⟨e1,e2⟩=>by rw[e1,e2]⟩
theorem Om{D:Nat}{t A B:TypeId}{f0 f1:Field}{m m':Nat}(ht:P.underlying t=some (.struct #[f0,f1]))(hst:P.stoodInHeld t=false)(hn0:(f0.name != "_")=true)(hn1:(f1.name != "_")=true)
  (k0:f0.type=A) (k1:f1.type=B) (ho0:f0.offset=0) (ho1:f1.offset=m) (hs:ay P t=some (m+m')) (h0:EqT P D A m) (h1:EqT P D B m'):EqT P (D+1) t (m+m'):=by
 refine⟨by unfold cD;rw[ht],hs,fun w xs ys hx hy=>?_⟩
 obtain⟨a,b,rfl,la⟩:∃a b,xs=a++b∧a.length=m:=⟨xs.take m,xs.drop m,(List.take_append_drop ..).symm,by simp;omega⟩
 obtain⟨a',b',rfl,la'⟩:∃a b,ys=a++b∧a.length=m:=⟨ys.take m,ys.drop m,(List.take_append_drop ..).symm,by simp;omega⟩
 have lb:b.length=m':=by simp at hx;omega
 have lb':b'.length=m':=by simp at hy;omega
 have hf:P.fieldsOf t = #[f0,f1]:=by unfold Program.fieldsOf;rw[ht]
 have q:=run_equalIn_struct (P:=P) w D t ((a++b).map (N .u64)).toArray ((a'++b').map (N .u64)).toArray (by rw[hf];exact ht) hst
 rw[hf]at q
 simp only[LV]
 rw[q]
 have r0:=h0.run w a a' la la'
 have r1:=h1.run w b b' lb lb'
 rw[← k0]at r0
 rw[← k1]at r1
 have n0:f0.name ≠ "_":=by simpa using hn0
 have n1:f1.name ≠ "_":=by simpa using hn1
 rw[zY (la.trans la'.symm)]
 simp only[Op.eqFields,if_pos n0,if_pos n1,Sem.run_bind,fU k0 ho0 h0 (ab.l la),fU k0 ho0 h0 (ab.l la'),fU k1 ho1 h1 (ab.r la lb),fU k1 ho1 h1 (ab.r la' lb'),Result.andThen_ok,r0,r1,Sem.run_ite,Sem.run_pure]
 cases decide (a=a') <;> cases decide (b=b') <;> rfl
theorem Uz{D:Nat}{t A B C:TypeId}{f0 f1 f2:Field}{m m' m2:Nat}(ht:P.underlying t=some (.struct #[f0,f1,f2]))(hst:P.stoodInHeld t=false)(hn0:(f0.name != "_")=true)(hn1:(f1.name != "_")=true)(hn2:(f2.name != "_")=true)
  (k0:f0.type=A) (k1:f1.type=B) (k2:f2.type=C) (ho0:f0.offset=0) (ho1:f1.offset=m) (ho2:f2.offset=m+m') (hs:ay P t=some (m+m'+m2)) (h0:EqT P D A m) (h1:EqT P D B m') (h2:EqT P D C m2):EqT P (D+1) t (m+m'+m2):=by
 refine⟨by unfold cD;rw[ht],hs,fun w xs ys hx hy=>?_⟩
 obtain⟨a,e,rfl,la⟩:∃a b,xs=a++b∧a.length=m+m':=⟨xs.take (m+m'),xs.drop (m+m'),(List.take_append_drop ..).symm,by simp;omega⟩
 obtain⟨a',e',rfl,la'⟩:∃a b,ys=a++b∧a.length=m+m':=⟨ys.take (m+m'),ys.drop (m+m'),(List.take_append_drop ..).symm,by simp;omega⟩
 have le:e.length=m2:=by simp at hx;omega
 have le':e'.length=m2:=by simp at hy;omega
 obtain⟨a,b,rfl,lz⟩:∃x y,a=x++y∧x.length=m:=⟨a.take m,a.drop m,(List.take_append_drop ..).symm,by simp;omega⟩
 obtain⟨a',b',rfl,lz'⟩:∃x y,a'=x++y∧x.length=m:=⟨a'.take m,a'.drop m,(List.take_append_drop ..).symm,by simp;omega⟩
 have lb:b.length=m':=by simp at la;omega
 have lb':b'.length=m':=by simp at la';omega
 have hf:P.fieldsOf t = #[f0,f1,f2]:=by unfold Program.fieldsOf;rw[ht]
 have q:=run_equalIn_struct (P:=P) w D t ((a++b++e).map (N .u64)).toArray ((a'++b'++e').map (N .u64)).toArray (by rw[hf];exact ht) hst
 rw[hf]at q
 simp only[LV]
 rw[q]
 have r0:=h0.run w a a' lz lz'
 have r1:=h1.run w b b' lb lb'
 have r2:=h2.run w e e' le le'
 rw[← k0]at r0
 rw[← k1]at r1
 rw[← k2]at r2
 have n0:f0.name ≠ "_":=by simpa using hn0
 have n1:f1.name ≠ "_":=by simpa using hn1
 have n2:f2.name ≠ "_":=by simpa using hn2
 rw[zY (la.trans la'.symm),zY (lz.trans lz'.symm)]
 simp only[Op.eqFields,if_pos n0,if_pos n1,if_pos n2,Sem.run_bind,fU k0 ho0 h0 (ab.l lz).inl,fU k0 ho0 h0 (ab.l lz').inl,fU k1 ho1 h1 (ab.r lz lb).inl,fU k1 ho1 h1 (ab.r lz' lb').inl,
  fU k2 ho2 h2 (ab.r la le),fU k2 ho2 h2 (ab.r la' le'),Result.andThen_ok,r0,r1,r2,Sem.run_ite,Sem.run_pure]
 cases decide (a=a') <;> cases decide (b=b') <;> cases decide (e=e') <;> rfl
variable {c:Cx} {n:Nn} {l:Sl} {W:List Res} {ops:Array Oper} {Q:Exit→Act→World→Prop} {rest:List Oper}
variable {d:Nat} {T:TypeId} {pos:String} {after:Array Edge}
theorem S4{r:Bool}{t yt:TypeId}{m:Nat}{x y:Operand}{xs ys:List Nat}(hr:decide (xs=ys)=r)(he:EqT P 10000 t m)(hx:ev l x=some (LV .u64 xs))(hy:ev l y=some (LV .u64 ys))(hg:P.eqGuardType P.depth t=false)
  (l1:xs.length=m) (l2:ys.length=m) (hn:Nat.blt d n.sz=true)
  (hk:Go c n ((d,.bool r)::l) W (wpList P ops Q rest)):Go c n l W (wpList P ops Q (⟨some d,.binOp .eql t x y yt,T,pos,after,none⟩::rest)):=
 aw rfl rfl hn (fun w0 w ha _=>by
  have q1:=he.run w xs ys l1 l2
  rw[hr]at q1
  have q2:=run_eqGuard_agg (P:=P) w .eql t x y (xs.map (N .u64)).toArray (ys.map (N .u64)).toArray hg
  have q3:=run_eql_struct (P:=P) w t (xs.map (N .u64)).toArray (ys.map (N .u64)).toArray
  simp only[LV]at q1 hx hy
  rw[q1]at q3
  simp only[execOp,ha.ev hx,ha.ev hy,Sem.run_bind,q2,Result.andThen_ok,q3,Sem.run_pure]) hk
end
section
variable {P:Program} {c:Cx} {n:Nn} {l:Sl} {W:List Res} {ops:Array Oper} {Q:Exit→Act→World→Prop} {rest:List Oper}
variable {d:Nat} {T:TypeId} {pos:String} {after:Array Edge}
theorem JH{x:Operand}{s:Value}{m:Nat}{xs:List Value}{t yt E:TypeId}(hx:ev l x=some s)(hr:RdW c W (wide m s) xs)(h0:xs≠[])(ht:P.underlying t=some (.slice E))(hn:Nat.blt d n.sz=true)
  (hk:Go c n ((d,.bool false)::l) W (wpList P ops Q rest)):
  Go c n l W (wpList P ops Q (⟨some d,.binOp .eql t x (.const (.slice none 0 0)) yt,T,pos,after,none⟩::rest)):=
 aw rfl rfl hn (fun a w ha hw=>by
  obtain⟨a0,cap,he,h1,h2,_⟩:=(hr w hw).shape
  have hs:∃a1 k c,s = .slice (some a1) k c:=by
   cases s with
   | slice a1 k c1=>
    simp only[wide,Value.slice.injEq]at he
    obtain⟨rfl,_,_⟩:=he
    cases a1 with
    | none=>exact absurd (h2 rfl).1 h0
    | some a1=>exact⟨a1,k,c1,rfl⟩
   | _=>simp[wide]at he
  obtain⟨a1,k,c1,rfl⟩:=hs
  have q:(Op.equal t (.slice (some a1) k c1) (.slice none 0 0)).run P w = .ok false w:=run_equal_slice_nil w t E (some a1) k c1 ht
  have h0:a.eval (.const (.slice none 0 0)) = .slice none 0 0:=rfl
  simp[execOp,ha.ev hx,h0,eqGuard,binOp,q]) hk
theorem rW(m:Nat){t E:TypeId}(ht:P.underlying t=some (.slice E))(hs:ay P E=some m)(hn:Nat.blt d n.sz=true)
  (hk:∀v,Go c n ((d,v)::l) (.sl (wide m v) [] E::W) (wpList P ops Q rest)):
  Go c n l W (wpList P ops Q (⟨some d,.buildSlice t 0 #[],T,pos,after,none⟩::rest)):=
 fi rfl rfl hn (Φ:=fun u V=>V = .sl (wide m u) [] E::W)
  (fun a w ha hw=>by
   refine⟨.slice (some ⟨w.heap.size,0,none⟩) 0 0,_,_,?_,hw.alloc (o:=.cells #[] E) (r:=.sl (wide m (.slice (some ⟨w.heap.size,0,none⟩) 0 0)) [] E) (by simp[Res.fp,wide]) ?_,rfl⟩
   ·simp only[execOp,Instr.buildSlice,Sem.run_bind,run_underlying ht,aq hs,Result.andThen_ok,Nat.zero_mul]
    have e:(Array.map (fun _=>(default:Value)) (Array.range 0)) = #[]:=Array.ext' (by simp)
    simp[newRow,Instr.fill,e]
   ·exact .inr ⟨w.heap.size,0,0,[],[],(0,0),by simp[wide],by simp,by simp,rfl,by simp,by simp⟩)
  (fun u V hV=>by subst hV;exact hk u)
theorem wh{φ:Act→World→Prop}{s:Value}{m:Nat}{xs:List Value}{U:TypeId}{R:List Res}(hf:Find W (.sl (wide m s) xs U) R)(h:s.oneCell'=true→Go c n l W φ):Go c n l W φ:=fun a w ha hw=>by
 have ho:s.oneCell'=true:=by
  have:∃a k c,wide m s = .slice a k c:=by
   rcases hw.holds _ hf.mem with⟨h,_⟩ | ⟨b,off,cap,pre,post,fz,hs⟩
   ·exact⟨_,_,_,h⟩
   ·exact⟨_,_,_,hs.val⟩
  obtain⟨a1,k,c1,he⟩:=this
  cases s <;> first | rfl | (simp[wide]at he)
 exact h ho a w ha hw
theorem dE{t E:TypeId}{m:Nat}{x:Operand}{zs:List Value}{ys:List Nat}{i:Bool}(ht:P.underlying t=some (.slice E))(hz:cH P E=some (AV zs))(hs:ay P E=some m)(hzl:zs.length=m)
  (hm:Nat.blt 0 (1*m)=true) (hv:ev l x=some (GL ys i)) (hlen:(ys.map (N .u64)++[Value.bool i]).length=m) (hk24:Nat.ble (1*m) 16777216=true) (hn:Nat.blt d n.sz=true)
  (hk:∀b,Go c n ((d,slv b 1)::l) (.blk b (AV [ys.map (N .u64)++[Value.bool i]].flatten) E::W) (wpList P ops Q rest)):
  Go c n l W (wpList P ops Q (⟨some d,.buildSlice t 1 #[(0,x)],T,pos,after,none⟩::rest)):=
 rX (k:=1) (ps:=[(0,x)]) (vss:=[ys.map (N .u64)++[Value.bool i]]) ht hz hs hzl hm rfl rfl (by simp[evs,hv,F5]) (fun v hv=>by rw[List.mem_singleton.1 hv];exact hlen) hk24 hn hk
end
section
attribute [local irreducible] Code.wp wpList Af bodyPost L.Go ab
open Num
attribute [local simp] ae aD
theorem Ac(s:Value){P:Kf.K2.Pt p}(h:Ok1 P):Spec Tryz.prog 24 [s,.bool true] (fun w=>Rd w s ((ec P).map (N .u8))) [] (IsV (.tuple #[HV P,N .i64 0])):=by
 rcases eR h.2.1 with rfl | ⟨x,y,rfl⟩
 ·exact uM s
 ·exact uN s h
theorem Ad(s:Value){P:Kf.K2.Pt p}(h:Ok2 P):Spec Tryz.prog 25 [s,.bool true] (fun w=>Rd w s ((f5 P).map (N .u8))) [] (IsV (.tuple #[GV P,N .i64 0])):=by
 rcases P with _ | ⟨x,y⟩
 ·exact uO s
 ·exact uP s h
theorem I7:Spec Tryz.prog 47 [.slice none 0 0,N .i64 1,.bool true] ai [] (IsV (.tuple #[.slice none 0 0,.bool false,N .i64 200])):=by
 refine ad Tryz.func47 rfl rfl rfl fun w hr=>?_
 repeat (first|refine y_8 ?_|refine y_5 ?_|refine TD ?_|rw[List.length_nil]|refine jR ?_|refine Z82 fun _=>?_|refine Z84 fun _=>?_|refine Z85 fun _=>?_)
 exact Ze3 fun _ hw=>aa hw SubW.nil ⟨rfl,rfl⟩
theorem w4:Spec Tryz.prog 24 [.slice none 0 0,.bool true] ai [] (IsV (.tuple #[HE 0 0 false,N .i64 200])):=by
 refine ad Tryz.func24 rfl rfl rfl fun w hr=>?_
 repeat (first|(refine dV ?_;intro _)|refine af (by rfl) (by rfl) (by rfl) (I7) (fun _ _=>trivial) (by rfl) ?_|refine y_8 ?_|(refine Ba (t:=58) (m:=12) (by rfl) (by rfl) (by kernel_rfl) (by rfl) ?_;rw[K8])|refine io ?_|refine Z01 ?_|refine Z02 ?_|refine Z03 ?_|refine Z04 ?_|refine Z05 ?_|refine Z06 ?_|refine Z07 ?_|refine Z08 ?_|refine Z09 ?_|refine Z10 ?_|refine Z11 ?_|refine Z12 ?_|refine Z13 ?_|refine Z14 ?_|refine Z17 ?_|refine Z18 ?_|refine Z19 ?_|refine Z20 ?_|refine Z21 ?_|refine Z22 ?_|refine Z23 ?_|refine Z24 ?_|refine Z26 ?_|refine Z27 ?_|refine Z29 ?_|refine Z30 ?_|refine Z31 ?_|refine Z32 ?_|refine Z54 ?_|refine Z67 ?_|refine Z68 ?_|refine Z69 ?_|refine Z82 fun _=>?_)
 refine bF (m:=12) (by rfl) (by rfl) (by rfl) fd (by rfl) (by rfl) (by first|with_reducible assumption|simp) fun _ hw=>aa hw SubW.nil ⟨?_,rfl⟩
 rfl
theorem xb(P:Kf.K2.Pt p):(ec P).length=48:=by
 unfold ec lp qK
 rw[gz,gz,gz,aD]
theorem GR(P:Kf.K2.Pt p):(f5 P).length=96:=by
 unfold f5 qz qK
 rw[gz,gz,gz,List.length_append,aD,aD]
end
section
attribute [local irreducible] Code.wp wpList Af bodyPost L.Go
open Num
def kS:List Nat:=[66,76,83,95,83,73,71,95,66,76,83,49,50,51,56,49,71,50,95,88,77,68,58,83,72,65,45,50,53,54,95,83,83,87,85,95,82,79,95,80,79,80,95]
def kO:List Nat:=[66,76,83,95,80,79,80,95,66,76,83,49,50,51,56,49,71,50,95,88,77,68,58,83,72,65,45,50,53,54,95,83,83,87,85,95,82,79,95,80,79,80,95]
theorem Cm:Lt 256 kS:=by unfold Lt kS;decide
theorem OG:Lt 256 kO:=by unfold Lt kO;decide
theorem Ax:STR kS=Value.string { data:=#[66,76,83,95,83,73,71,95,66,76,83,49,50,51,56,49,71,50,95,88,77,68,58,83,72,65,45,50,53,54,95,83,83,87,85,95,82,79,95,80,79,80,95] }:=rfl
theorem RH:STR kO=Value.string { data:=#[66,76,83,95,80,79,80,95,66,76,83,49,50,51,56,49,71,50,95,88,77,68,58,83,72,65,45,50,53,54,95,83,83,87,85,95,82,79,95,80,79,80,95] }:=rfl
end
section
attribute [local irreducible] Code.wp wpList Af bodyPost L.Go ab
open Num
attribute [local simp] ae aD
attribute [local irreducible] ec f5 hu g8
theorem oS:Spec Tryz.prog 29 [.nilIface] ai [] (IsV (N .i64 0)):=by
 refine ad Tryz.func29 rfl rfl rfl fun w _=>?_
 repeat (first|refine JA (by rfl) (by rfl) (by rfl) ?_|refine Z01 ?_|refine Z02 ?_|refine Z03 ?_|refine Z04 ?_|refine Z05 ?_|refine Z06 ?_|refine Z07 ?_|refine Z08 ?_|refine Z09 ?_|refine Z10 ?_|refine Z11 ?_|refine Z12 ?_|refine Z13 ?_|refine Z14 ?_|refine Z19 ?_|refine Z54 ?_|refine Z77 ?_|refine Z78 ?_|refine Z79 ?_)
 refine Ze1 fun _ hw=>aa hw SubW.nil ⟨?_,rfl⟩
 rfl
theorem P8{a b:Prop}(k:b)(h:Rm b→a:=by intro k;(first|refine y_5 ?_|refine Z01 ?_|refine Z02 ?_|refine Z03 ?_|refine Z04 ?_|refine Z05 ?_|refine Z06 ?_|refine Z07 ?_|refine Z08 ?_|refine Z09 ?_|refine Z10 ?_|refine Z11 ?_|refine Z12 ?_|refine Z13 ?_|refine Z14 ?_|refine Z17 ?_|refine Z18 ?_|refine Z29 ?_|refine Z30 ?_|refine Z31 ?_|refine Z32 ?_);exact k.h):a:=h ⟨k⟩
theorem Jn(u v:Nat):BD Tryz.prog 28 [pt u 0,pt v 0]:=by
 refine yg Tryz.func28 rfl rfl rfl rfl rfl oS fun w0=>?_
 repeat (first|refine P8 ?_)
 exact jJ fun _ _ ha hw=>⟨rfl,ha.dfr,hw.ext⟩
theorem Ji(u v:Nat):BD Tryz.prog 36 [pt u 0,pt v 0]:=by
 refine yg Tryz.func36 rfl rfl rfl rfl rfl oS fun w0=>?_
 repeat (first|refine P8 ?_)
 exact jJ fun _ _ ha hw=>⟨rfl,ha.dfr,hw.ext⟩
def pkB(k:Nat):List Nat:=ec (Kf.K2.tim bn k)
theorem T0{k:Nat}(hk:k<r):V (D 4 k)=k:=eU (Nat.lt_trans hk I6)
set_option maxHeartbeats 4000000 in
theorem o6(s:Value){k:Nat}(h0:0<k)(hk:k<r):Spec Tryz.prog 18 [s] (fun w=>Rd w s ((bq k 32).map (N .u8))) [] (fun v Wr=>∃x,v = .tuple [x,N .i64 0].toArray∧Wr=[.sl x ((pkB k).map (N .u8)) 5]):=by
 refine xU Tryz.func18 rfl rfl rfl fun w hr=>?_
 have h1:=RdC.mk0 hr
 have a1:=o5 s h0 hk
 have a2:=qU
 have a3:=fun x=>Cf dR j6 x (D 4 k) (dv 4 k) (by rw[ae];decide)
 rw[T0 hk]at a3
 have a4:=uU (m8 k)
 rw[show ec (Kf.K2.tim bn k)=pkB k from rfl]at a4
 generalize Kf.K2.tim bn k=Q at *
 generalize HV bn=B at *
 generalize pkB k=bs at *
 obtain⟨x1,y1,i1,hq⟩:∃x1 y1 i1,HV Q=HE x1 y1 i1:=⟨_,_,_,rfl⟩
 rw[hq]at a3 a4
 repeat (first|refine yK (by rfl) ?_|refine y_4 a2 ?_|(refine ax (by rfl) (by rfl) (by rfl) (a1) .nil (RdW.old h1) (by rfl) ?_;rintro _ _ rfl)|refine KQ (a3 _) ?_|(refine ax (by rfl) (by rfl) (by rfl) (a4) .nil (fun _ _=>trivial) (by rfl) ?_;rintro _ _ ⟨x,rfl,rfl⟩)|(refine dV ?_;intro _)|refine io ?_|refine jf ?_|refine Z01 ?_|refine Z02 ?_|refine Z03 ?_|refine Z04 ?_|refine Z05 ?_|refine Z06 ?_|refine Z07 ?_|refine Z08 ?_|refine Z09 ?_|refine Z10 ?_|refine Z11 ?_|refine Z12 ?_|refine Z13 ?_|refine Z14 ?_|refine Z19 ?_|refine Z24 ?_|refine Z26 ?_|refine Z27 ?_|refine Z29 ?_|refine Z30 ?_|refine Z31 ?_|refine Z32 ?_|refine Z48 ?_|refine Z67 ?_|refine Z82 fun _=>?_)
 refine JF (s:=x) fd fun hx=>?_
 repeat (first|refine ij (u:=x) (by rfl) (by rfl) fd (by rfl) hx (by rfl) ?_|refine Z01 ?_|refine Z02 ?_|refine Z03 ?_|refine Z04 ?_|refine Z05 ?_|refine Z06 ?_|refine Z07 ?_|refine Z08 ?_|refine Z09 ?_|refine Z10 ?_|refine Z11 ?_|refine Z12 ?_|refine Z13 ?_|refine Z14 ?_|refine Z19 ?_|refine Z24 ?_|refine Z26 ?_|refine Z27 ?_|refine Z29 ?_|refine Z30 ?_|refine Z31 ?_|refine Z32 ?_|refine Z48 ?_|refine Z67 ?_|refine Z82 fun _=>?_)
 refine C5 (f:=28) (caps:=[pt _ 0,pt _ 0]) (by rfl) (by rfl) (by rfl) (by rfl) (by rfl) (by rfl) (Jn _ _) fd fd (gh hx) rfl fun _ hw=>aa hw (Wout:=[.sl x (bs.map (N .u8)) 5]) (by exact sw) ⟨_,rfl,rfl⟩
def hP(m d:List Nat):Kf.K2.Pt p:=g8 (hu m d 0) (hu m d 1)
theorem xF(s1 s2:Value)(m d:List Nat)(hm:Lt 256 m)(hd:Lt 256 d)(hl1:m.length<1073741824)(h1:1≤d.length)(h2:d.length≤255):
  Spec Tryz.prog 9 [s1,s2] (fun w=>Rd w s1 (m.map (N .u8))∧Rd w s2 (d.map (N .u8))) [] (IsV (.tuple [GV (hP m d),N .i64 0].toArray)):=LO s1 s2 m d hm hd hl1 h1 h2
theorem f6(m d:List Nat):Ok2 (hP m d):=⟨M0 _ _,SJ _ _⟩
def sgB(k:Nat)(m d:List Nat):List Nat:=f5 (Kf.K2.tim (hP m d) k)
theorem UN{P:Kf.K2.Pt p}(h:Kf.K2.Onc b2c P)(s:Value)(xs:List Nat)(hx:Lt 18446744073709551616 xs)(hl:xs.length<65536):
  Spec Tryz.prog 37 [s,GV P] (fun w=>Rd w s (xs.map (N .u64))) [] (IsV (.tuple [GV (Kf.K2.tim P (V xs)),N .i64 0].toArray)):=
 u9 h (ap (gx P).re) (ap (gx P).im) (ap (gy P).re) (ap (gy P).im) (gi P) (by rw[br,br,kl]) s xs hx hl
set_option maxHeartbeats 4000000 in
theorem yv(s s2:Value){k:Nat}(h0:0<k)(hk:k<r)(m d:List Nat)(hm:Lt 256 m)(hl:m.length<1073741824)(hd:Lt 256 d)(d1:1≤d.length)(d2:d.length≤255):
  Spec Tryz.prog 20 [s,s2,STR d] (fun w=>Rd w s ((bq k 32).map (N .u8))∧Rd w s2 (m.map (N .u8))) [] (fun v Wr=>∃x,v = .tuple [x,N .i64 0].toArray∧Wr=[.sl x ((sgB k m d).map (N .u8)) 5]):=by
 refine xU Tryz.func20 rfl rfl rfl fun w hr=>?_
 have h1:=RdC.mk0 hr.1
 have h2:=RdC.mk0 hr.2
 have a1:=o5 s h0 hk
 have a2:=fun x=>xF s2 x m d hm hd hl d1 d2
 have a3:=fun x=>UN (f6 m d).1 x (D 4 k) (dv 4 k) (by rw[ae];decide)
 rw[T0 hk]at a3
 have a4:=uV (iz (f6 m d) k)
 rw[show f5 (Kf.K2.tim (hP m d) k)=sgB k m d from rfl]at a4
 generalize Kf.K2.tim (hP m d) k=Q at *
 generalize hP m d=H at *
 generalize sgB k m d=bs at *
 obtain⟨x1,y1,i1,hq⟩:∃x1 y1 i1,GV Q=GE x1 y1 i1:=⟨_,_,_,rfl⟩
 obtain⟨x2,y2,i2,hq2⟩:∃x1 y1 i1,GV H=GE x1 y1 i1:=⟨_,_,_,rfl⟩
 rw[hq]at a3 a4
 rw[hq2]at a2 a3
 repeat (first|refine yK (by rfl) ?_|(refine ax (by rfl) (by rfl) (by rfl) (a1) .nil (RdW.old h1) (by rfl) ?_;rintro _ _ rfl)|refine nJ (tg:=d) (by rfl) (by rfl) (by rfl) (by rfl) hd (by rfl) fun _=>?_|refine af (by rfl) (by rfl) (by rfl) (a2 _) (fun w hw=>⟨RdW.old h2 w hw,RdW.own fd w hw⟩) (by rfl) ?_|refine KQ (a3 _) ?_|(refine ax (by rfl) (by rfl) (by rfl) (a4) .nil (fun _ _=>trivial) (by rfl) ?_;rintro _ _ ⟨x,rfl,rfl⟩)|(refine ct ?_;intro _)|refine dG ?_|refine dM ?_|refine Z01 ?_|refine Z02 ?_|refine Z03 ?_|refine Z04 ?_|refine Z05 ?_|refine Z06 ?_|refine Z07 ?_|refine Z08 ?_|refine Z09 ?_|refine Z10 ?_|refine Z11 ?_|refine Z12 ?_|refine Z13 ?_|refine Z14 ?_|refine Z19 ?_|refine Z24 ?_|refine Z26 ?_|refine Z27 ?_|refine Z29 ?_|refine Z30 ?_|refine Z31 ?_|refine Z32 ?_|refine Z44 ?_|refine Z45 ?_|refine Z48 ?_|refine Z67 ?_|refine Z74 ?_|refine Z82 fun _=>?_)
 refine JF (s:=x) fd fun hx=>?_
 repeat (first|refine ij (u:=x) (by rfl) (by rfl) fd (by rfl) hx (by rfl) ?_|refine Z01 ?_|refine Z02 ?_|refine Z03 ?_|refine Z04 ?_|refine Z05 ?_|refine Z06 ?_|refine Z07 ?_|refine Z08 ?_|refine Z09 ?_|refine Z10 ?_|refine Z11 ?_|refine Z12 ?_|refine Z13 ?_|refine Z14 ?_|refine Z19 ?_|refine Z24 ?_|refine Z26 ?_|refine Z27 ?_|refine Z29 ?_|refine Z30 ?_|refine Z31 ?_|refine Z32 ?_|refine Z44 ?_|refine Z45 ?_|refine Z48 ?_|refine Z67 ?_|refine Z74 ?_|refine Z82 fun _=>?_)
 refine C5 (f:=36) (caps:=[pt _ 0,pt _ 0]) (by rfl) (by rfl) (by rfl) (by rfl) (by rfl) (by rfl) (Ji _ _) fd fd (gh hx) rfl fun _ hw=>aa hw (Wout:=[.sl x (bs.map (N .u8)) 5]) (by exact sw) ⟨_,rfl,rfl⟩
theorem tO(s s2:Value){k:Nat}(h0:0<k)(hk:k<r)(m:List Nat)(hm:Lt 256 m)(hl:m.length<1073741824):
  Spec Tryz.prog 8 [s,s2] (fun w=>Rd w s ((bq k 32).map (N .u8))∧Rd w s2 (m.map (N .u8))) [] (fun v Wr=>∃x,v = .tuple [x,N .i64 0].toArray∧Wr=[.sl x ((sgB k m kS).map (N .u8)) 5]):=by
 refine ad Tryz.func8 rfl rfl rfl fun w hr=>?_
 have h1:=RdC.mk0 hr.1
 have h2:=RdC.mk0 hr.2
 have a1:=yv s s2 h0 hk m kS hm hl Cm (by decide) (by decide)
 rw[Ax]at a1
 generalize sgB k m kS=bs at *
 repeat (first|(refine ax (by rfl) (by rfl) (by rfl) (a1) .nil (fun w hw=>⟨RdW.old h1 w hw,RdW.old h2 w hw⟩) (by rfl) ?_;rintro _ _ ⟨x,rfl,rfl⟩)|refine Z01 ?_|refine Z02 ?_|refine Z03 ?_|refine Z04 ?_|refine Z05 ?_|refine Z06 ?_|refine Z07 ?_|refine Z08 ?_|refine Z09 ?_|refine Z10 ?_|refine Z11 ?_|refine Z12 ?_|refine Z13 ?_|refine Z14 ?_|refine Z19 ?_)
 exact Ze2 fun _ hw=>aa hw (Wout:=[.sl x (bs.map (N .u8)) 5]) (by exact sw) ⟨_,rfl,rfl⟩
end
section
attribute [local irreducible] Code.wp wpList Af bodyPost L.Go ab
open Num
attribute [local simp] ae aD
attribute [local irreducible] ec f5 hu g8 bi gm ee
theorem Uy:EqT Tryz.prog 10000 138 72:=by
 have h1:EqT Tryz.prog 9997 32 6:=Lz 9995 (by rfl) (by rfl) (by rfl) (by rfl)
 have h2:EqT Tryz.prog 9998 34 (6+6):=Om (by rfl) (by kernel_rfl) (by rfl) (by rfl) (by rfl) (by rfl) (by rfl) (by rfl) (by rfl) h1 h1
 have h6:EqT Tryz.prog 9999 136 (6+6+(6+6)+(6+6)):=Uz (by rfl) (by kernel_rfl) (by rfl) (by rfl) (by rfl) (by rfl) (by rfl) (by rfl) (by rfl) (by rfl) (by rfl) (by rfl) h2 h2 h2
 exact Om (by rfl) (by kernel_rfl) (by rfl) (by rfl) (by rfl) (by rfl) (by rfl) (by rfl) (by rfl) h6 h6
theorem VK(x:F12):Spec Tryz.prog 92 [bM x,.slice none 0 0] ai [] (IsV (bM Kf.T12.one)):=by
 have h:=oK x (.slice none 0 0) [] (fun x hx=>by cases hx) (by decide)
 rw[show V []=0 from by decide +kernel]at h
 exact⟨h.call,fun w _ hW=>h.run w (RdW.nil (c:=⟨w,[]⟩) (W:=[]) w ⟨Ext.refl _ _,by simp,by simp[fps],by simp[fps]⟩) hW⟩
def zG1:List Value:=(List.replicate 12 0).map (N .u64)++[Value.bool false]
def zG2:List Value:=(List.replicate 24 0).map (N .u64)++[Value.bool false]
theorem va(l:List (Kf.K2.Pt p)):∀v∈(hWs l).flatten,v.oneCell'=true:=by
 intro v hv
 obtain⟨x,hx,hvx⟩:=List.mem_flatten.1 hv
 obtain⟨y,_,rfl⟩:=List.mem_map.1 hx
 rcases List.mem_append.1 hvx with h | h
 ·obtain⟨z,_,rfl⟩:=List.mem_map.1 h;rfl
 ·rw[List.mem_singleton.1 h];rfl
theorem B6(l:List (Kf.K2.Pt p)):∀v∈(gWs l).flatten,v.oneCell'=true:=by
 intro v hv
 obtain⟨x,hx,hvx⟩:=List.mem_flatten.1 hv
 obtain⟨y,_,rfl⟩:=List.mem_map.1 hx
 rcases List.mem_append.1 hvx with h | h
 ·obtain⟨z,_,rfl⟩:=List.mem_map.1 h;rfl
 ·rw[List.mem_singleton.1 h];rfl
theorem qg{x y:F2}(h:E2 x=E2 y):x=y:=by
 obtain⟨h1,h2⟩:=List.append_inj h (by rw[ae,ae])
 have e1:=BC h1
 have e2:=BC h2
 rw[Nat.mod_eq_of_lt (ap _),Nat.mod_eq_of_lt (ap _)]at e1 e2
 obtain⟨a,b⟩:=x
 obtain⟨a',b'⟩:=y
 exact congr (congrArg _ (Fin.ext e1)) (Fin.ext e2)
theorem F4{x y:F6}(h:E6 x=E6 y):x=y:=by
 obtain⟨h1,h2⟩:=List.append_inj h (by rw[ak,ak])
 obtain⟨h2,h3⟩:=List.append_inj h2 (by rw[ak,ak])
 obtain⟨a,b,c⟩:=x
 obtain⟨a',b',c'⟩:=y
 exact congr (congr (congrArg _ (qg h1)) (qg h2)) (qg h3)
theorem K9{x y:F12}(h:E12 x=E12 y):x=y:=by
 obtain⟨h1,h2⟩:=List.append_inj h (by rw[dj,dj])
 obtain⟨a,b⟩:=x
 obtain⟨a',b'⟩:=y
 exact congr (congrArg _ (F4 h1)) (F4 h2)
theorem Aa(s:Value)(ps:List (Kf.K2.Pt p))(h0:0<ps.length)(h9:ps.length<1000):
  Spec Tryz.prog 89 [s] (fun w=>Rd w (wide 13 s) (hWs ps).flatten) [] (fun v Wr=>Wr=[.sl (wide 13 v) (hWs ps).flatten 58]):=by
 refine ad Tryz.func89 rfl rfl rfl fun w hr=>?_
 have h1:=RdC.mk0 hr
 have hx1:(hWs ps).flatten.length=ps.length*13:=xD ps
 have hne:(hWs ps).flatten≠[]:=fun e=>by rw[e]at hx1;simp at hx1;omega
 repeat (first|refine JH (m:=13) (s:=s) (by rfl) (RdW.old h1) hne (by rfl) (by rfl) ?_|refine rW 13 (by rfl) (by rfl) (by rfl) fun _=>?_|(refine dK (m:=13) (xss:=[]) (yss:=hWs ps) (zs:=zG1) (by rfl) (by rfl) fd (RdW.old h1) (by rfl) (by kernel_rfl) (by rfl) (by rfl) (by rfl) (va _) (by decide) rfl (by rw[hx1];simp[hWs]) (by simpa[hWs]using h0) (by simp[hWs];omega) (by simp[hWs];omega) (by rfl) fun _=>?_)|refine Z01 ?_|refine Z02 ?_|refine Z03 ?_|refine Z04 ?_|refine Z05 ?_|refine Z06 ?_|refine Z07 ?_|refine Z08 ?_|refine Z09 ?_|refine Z10 ?_|refine Z11 ?_|refine Z12 ?_|refine Z13 ?_|refine Z14 ?_|refine Z77 ?_|refine Z78 ?_|refine Z79 ?_|refine Z84 fun _=>?_|refine Z85 fun _=>?_)
 rename_i v0 v
 exact Ze1 fun _ hw=>aa hw (Wout:=[.sl (wide 13 v) (hWs ps).flatten 58]) (by exact sw) rfl
end
def CW:Op→Bool
 | .defer _=>true
 | _=>false
theorem vV{P:Program}{m:Nat}{r:String}{ars:Array Value}{w:World}{R:Value→World→Prop}{F:Fence}(hF:Machine.fenced P F=Machine.fenced P Fence.wide)(h:Rows P r ars w R):RowsIn F m P r ars w R:=
 fun c cs _=>by
  obtain⟨v,w',h1,h2⟩:=h c cs
  refine⟨v,w',h1,?_⟩
  rw[hF]
  exact stepsIn_wide.2 h2
theorem z7{P:Program}{m:Nat}{f:FuncId}{ars:Array Value}{w:World}{R:Ending→World→Prop}{r:Option Nat}(h:Calls P f ars w R):CallsIn { Fence.wide with round:=r } m P f ars w R:=
 (callsIn_wide (n:=m)).2 h
abbrev FA(r:Option Nat):Fence:={ Fence.wide with round:=r }
theorem Cz{P:Program}{o:Oper}{a:Act}{w:World}{K:Act→World→Prop}{Q:Exit→Act→World→Prop}{r:Option Nat}{m:Nat}(hd:CW o.op=false)
  (h:o.wp P a w K Q):o.wpIn (FA r) m P a w K Q:=by
 refine⟨fun _ _=>trivial,?_⟩
 have hs:o.semAt (FA r).round a.eval=execOp a.eval o:=by
  cases r with
  | none=>exact Oper.semAt_none _ _
  | some r=>exact Oper.semAt_some r _ o (fun c hc=>by rw[hc]at hd;cases hd)
 rw[hs]
 unfold Oper.wp at h
 generalize (execOp a.eval o).run P w=res at h ⊢
 cases res with
 | ok x w'=>
  cases x with
  | value v=>exact h
  | skip=>exact h
  | defer d=>exact h
  | enter f ars=>exact⟨by simp[Fence.wide],z7 h⟩
  | row f ars=>exact⟨by simp[Fence.wide],vV rfl h⟩
  | _=>exact h.elim
 | halt x w'=>cases x <;> first | exact h | exact h.elim
theorem pg{P:Program}{F:Fence}{m:Nat}{o:Oper}{a:Act}{K K':Act→World→Prop}{Q Q':Exit→Act→World→Prop}{res:Result Next}(hK:∀a w,K a w→K' a w)
  (hQ:∀e a w,e ≠ .normal→Q e a w→Q' e a w) (h:o.uponIn F m P a K Q res):o.uponIn F m P a K' Q' res:=by
 cases res with
 | ok x w'=>
  cases x with
  | value v=>exact hK _ _ h
  | skip=>exact hK _ _ h
  | defer d=>exact hK _ _ h
  | enter f ars=>exact⟨h.1,h.2.mono fun e w' he=>by
    cases e with
    | returned v=>exact hK _ _ he
    | panicked ch=>exact hQ _ _ _ (by simp) he
    | outgrown=>obtain⟨a0,w0,hq⟩:=he;exact⟨a0,w0,hQ _ _ _ (by simp) hq⟩⟩
  | row f ars=>exact⟨h.1,h.2.mono fun v w' he=>hK _ _ he⟩
  | round r f tm ars bd=>exact⟨h.1,h.2.mono fun e w' he=>by
    cases e with
    | returned v=>exact hK _ _ he
    | panicked ch=>exact hQ _ _ _ (by simp) he
    | outgrown=>obtain⟨a0,w0,hq⟩:=he;exact⟨a0,w0,hQ _ _ _ (by simp) hq⟩⟩
  | _=>exact h.elim
 | halt x w'=>cases x <;> first | exact hQ _ _ _ (by simp) h | exact h.elim
def TZ(Q:Exit→Act→World→Prop):Prop:=∀a w,¬Q .outgrown a w
theorem vn{P:Program}{ops:Array Oper}{Q:Exit→Act→World→Prop}{r:Option Nat}{m:Nat}(hQ:TZ Q):∀{os:List Oper}{a:Act}{w:World}(_:os.all (fun o=>!CW o.op)=true)
  (_:wpList P ops Q os a w),wpListIn (FA r) m P ops Q os a w
 | [],_,_,_,h=>h
 | o::rest,a,w,hd,h=>by
  simp only[List.all_cons,Bool.and_eq_true,Bool.not_eq_true']at hd
  unfold wpList at h
  unfold wpListIn
  split
  ·rename_i hw
   rw[if_pos hw]at h
   rcases h with h | ⟨_,a0,w0,h⟩
   ·have:=Cz (r:=r) (m:=m) hd.1 h
    exact⟨this.1,pg (fun _ _ h=>vn hQ hd.2 h) (fun _ _ _ _ h=>h) this.2⟩
   ·exact absurd h (hQ a0 w0)
  ·rename_i hw
   rw[if_neg hw]at h
   exact⟨fun _ _=>trivial,vn hQ hd.2 h⟩
section rounds
variable {P:Program} {c:Cx} {n:Nn} {l:Sl} {W:List Res} {Q:Exit→Act→World→Prop} {r:Option Nat} {m:Nat}
theorem l9{x y:Code}(h:Go c n l W (x.wpIn (FA r) m P (Exit.then (y.wpIn (FA r) m P Q) Q))):Go c n l W ((Code.seq x y).wpIn (FA r) m P Q):=
 fun a w ha hw=>wpIn_seq (h a w ha hw)
theorem yC{id:Nat}{x:Code}(h:Go c n l W (x.wpIn (FA r) m P (Exit.inBlock id Q))):Go c n l W ((Code.block id x).wpIn (FA r) m P Q):=
 fun a w ha hw=>wpIn_block (h a w ha hw)
theorem iB{K:Act→World→Prop}(h:Go c n l W K):Go c n l W (Exit.then K Q .normal):=h
theorem Ju{K:Act→World→Prop}(h:Go c n l W (Q .ret)):Go c n l W (Exit.then K Q .ret):=h
theorem VF{id:Nat}(h:Go c n l W (Q .normal)):Go c n l W (Exit.inBlock id Q .normal):=h
theorem SQ{id:Nat}(h:Go c n l W (Q .ret)):Go c n l W (Exit.inBlock id Q .ret):=h
theorem M9(h:Go c n l W (Q .normal)):Go c n l W (Code.skip.wpIn (FA r) m P Q):=fun a w ha hw=>wpIn_skip (h a w ha hw)
theorem SR(h:Go c n l W (Q .ret)):Go c n l W (Code.ret.wpIn (FA r) m P Q):=fun a w ha hw=>wpIn_ret (h a w ha hw)
theorem vX{x:Operand}{s t:Code}(hc:ev l x=some (.bool true))(h:Go c n l W (s.wpIn (FA r) m P Q)):Go c n l W ((Code.cond x s t).wpIn (FA r) m P Q):=
 fun a w ha hw=>wpIn_cond_true (ha.ev hc) (h a w ha hw)
theorem sI{x:Operand}{s t:Code}(hc:ev l x=some (.bool false))(h:Go c n l W (t.wpIn (FA r) m P Q)):Go c n l W ((Code.cond x s t).wpIn (FA r) m P Q):=
 fun a w ha hw=>wpIn_cond_false (ha.ev hc) (h a w ha hw)
theorem eE{id:Nat}{os:List Oper}(hQ:TZ Q)(hd:os.all (fun o=>!CW o.op)=true)(h:Go c n l W (wpList P os.toArray Q os)):
  Go c n l W ((Code.region id os.toArray false).wpIn (FA r) m P Q):=
 fun a w ha hw=>wpIn_region_lit (vn hQ hd (h a w ha hw))
theorem rQ{id:Nat}{os:List Oper}(h:Go c n l W (wpListIn (FA none) m P os.toArray Q os)):Go c n l W ((Code.region id os.toArray false).wp P Q):=
 fun a w ha hw=>(wpIn_wide (n:=m)).1 (wpIn_region_lit (h a w ha hw))
theorem Jt{ops:Array Oper}(h:Go c n l W (Q .normal)):Go c n l W (wpListIn (FA r) m P ops Q []):=h
theorem lw{ops:Array Oper}{o:Oper}{rest:List Oper}{d:Nat}{v:Value}(hd:CW o.op=false)(hg:o.guard=none)
  (h:Go c n l W (wpList P ops (fun e a w=>e = .normal∧SatA n ((d,v)::l) a∧SatW c W w) [o]))
  (hk:Go c n ((d,v)::l) W (wpListIn (FA r) m P ops Q rest)):Go c n l W (wpListIn (FA r) m P ops Q (o::rest)):=fun a w ha hw=>by
 have h1:=h a w ha hw
 refine wpListIn_plain hg fun K hK=>?_
 unfold wpList at h1
 rw[if_pos (by simp[Region.wanted,hg])]at h1
 rcases h1 with h1 | ⟨_,a0,w0,h1,_⟩
 ·have h2:=Cz (r:=r) (m:=m) hd h1
  exact⟨h2.1,pg (fun _ _ h=>hK _ _ (hk _ _ h.2.1 h.2.2)) (fun _ _ _ hn h=>absurd h.1 hn) h2.2⟩
 ·exact absurd h1 (by simp)
end rounds
abbrev rcd(fn:FuncId)(tm:Array Value)(ps:Array Tmp)(ars bd:Code)(D:Nat)(st:LoopState)(pe:Option Code):Obj:=
 .loop { state:=st,pending:=pe,fn,tmps:=tm,params:=ps,assign:=ars,body:=bd,defers:=D }
structure RSpec (P:Program) (r:Nat) (vs:List Value) (Win:List Res) (Φ:Value→List Res→Prop):Prop where
 run:∀w,OwnsIn Win w→∃fn tm ars bd,(Instr.yield r vs.toArray).run P w = .ok (.round r fn tm ars bd) w∧RoundIn (FA none) 0 P r fn tm ars bd w (mm Φ Win w)
section yields
variable {P:Program} {c:Cx} {n:Nn} {l:Sl} {W:List Res} {ops:Array Oper} {Q:Exit→Act→World→Prop} {rest:List Oper}
variable {d:Nat} {T:TypeId} {pos:String} {after:Array Edge}
theorem Split.self:∀(A R:List Res),Split (A++R) A R
 | [],_=>.nil
 | _::A,R=>.cons .here (Split.self A R)
theorem SubW.self:∀(A R:List Res),SubW A (A++R)
 | [],_=>.nil
 | _::A,R=>.cons .here (SubW.self A R)
theorem SubW.all(A:List Res):SubW A A:=by have:=SubW.self A [];rwa [List.append_nil]at this
theorem x9(A:List Res)(x y:Res):(x::y::A).Perm (A++[y,x]):=
 (List.Perm.swap y x A).trans (List.perm_append_comm (l₁:=[y,x]) (l₂:=A))
theorem tF(A:List Res)(x y:Res):(A++[y,x]).Perm ((y::A)++[x]):=by
 have:(A++[y]++[x]).Perm ((y::A)++[x]):=(List.perm_append_comm (l₁:=A) (l₂:=[y])).append_right [x]
 rw[List.append_assoc]at this;exact this
theorem nF{φ:Act→World→Prop}{W':List Res}(h:W.Perm W')(hk:Go c n l W' φ):Go c n l W φ:=fun a w ha hw=>hk a w ha (hw.perm h)
theorem yW{r:Nat}{x:Operand}{ars:List Operand}{ats:Array TypeId}{vs:List Value}{Win R:List Res}{Φ:Value→List Res→Prop}
  (hx:ev l x=some (.func (.yield r) #[] #[])) (ha:evs l ars=some vs) (hspec:RSpec P r vs Win Φ) (hS:Split W Win R) (hn:Nat.blt d n.sz=true)
  (hk:∀v Wout,Φ v Wout→Go c n ((d,v)::l) (Wout++R) (wpListIn (FA none) 0 P ops Q rest)):
  Go c n l W (wpListIn (FA none) 0 P ops Q (⟨some d,.call { callee:=.value x,args:=ars.toArray,argTypes:=ats },T,pos,after,none⟩::rest)):=by
 intro a w hA hw
 have hown:OwnsIn Win w:=by
  have h:=hw.perm hS.perm
  refine⟨fun r hr=>h.holds r (List.mem_append.2 (.inl hr)),?_⟩
  have:=h.nd
  simp only[fps,List.flatMap_append]at this
  exact(List.nodup_append.1 this).1
 obtain⟨fn,tm,ars',bd,hy,hR⟩:=hspec.run w hown
 refine wpListIn_plain rfl fun K hK=>⟨fun _ _=>trivial,?_⟩
 have hrun:(Oper.semAt (FA none).round a.eval ⟨some d,.call { callee:=.value x,args:=ars.toArray,argTypes:=ats },T,pos,after,none⟩).run P w = .ok (.round r fn tm ars' bd) w:=by
  rw[Oper.semAt_none]
  simp only[execOp,resolve,hA.ev hx,Deferred.ofValue,List.map_toArray,hA.evs ha,Sem.run_bind,Sem.run_pure,Result.andThen_ok,invoke]
  simpa using hy
 rw[hrun]
 refine⟨by simp[Fence.wide],hR.mono fun e w' hp=>?_⟩
 obtain⟨v,Wout,hΦ,rfl,hw'⟩:=oC hw hS hp
 exact hK _ _ (hk v Wout hΦ _ _ (hA.put hn) hw')
end yields
theorem mJ{l:Sl}:∀{ps:List (Nat×Value)}{tm:Array Value}(_:∀t v,lk l t=some v→tm[t]?=some v)(_:ps.all (fun q=>Nat.blt q.1 tm.size)=true),
  (ps.foldl (fun tm q=>tm.setIfInBounds q.1 q.2) tm).size=tm.size∧∀t v,lk (ps.reverse++l) t=some v→(ps.foldl (fun tm q=>tm.setIfInBounds q.1 q.2) tm)[t]?=some v
 | [],tm,h,_=>⟨rfl,fun t v ht=>h t v (by simpa using ht)⟩
 | q::r,tm,h,hs=>by
  simp only[List.all_cons,Bool.and_eq_true]at hs
  have hq:=AD hs.1
  have ih:=mJ (l:=q::l) (ps:=r) (tm:=tm.setIfInBounds q.1 q.2) (fun t v ht=>by
   obtain⟨q1,q2⟩:=q
   simp only[lk]at ht
   by_cases hc:q1=t
   ·subst hc
    simp at ht;subst ht
    simp[hq]
   ·rw[iJ hc]at ht
    simp only
    rw[Array.getElem?_setIfInBounds_ne hc]
    exact h t v ht) (by simpa using hs.2)
  refine⟨by simpa using ih.1,fun t v ht=>ih.2 t v ?_⟩
  simpa using ht
theorem xT{P:Program}{r fn D:Nat}{tm:Array Value}{ps:Array Tmp}{ars bd:Code}{rec:LoopState→Option Code→Obj}{vs:List Value}{Wr:List Res}{Φ:Value→List Res→Prop}{l:Sl}{k:Nat}
  (hrec:rec=rcd fn tm ps ars bd D) (htm:∀t v,lk l t=some v→tm[t]?=some v) (hsz:tm.size=k) (hl:vs.length=ps.size) (hps:ps.toList.all (fun q=>Nat.blt q k)=true)
  (h:∀w,Go ⟨w,fps (.ob r (rec .ready none)::Wr)⟩ ⟨k,[]⟩ ((ps.toList.zip vs).reverse++l) (.ob r (rec .ready none)::Wr)
   (ars.wpIn (FA (some r)) 0 P (Exit.then (fun a w'=>∃w₂,(Instr.beginRound r).run P w' = .ok () w₂∧bd.wpIn (FA (some r)) 0 P (roundPost P r (mm Φ (.ob r (rec .ready none)::Wr) w)) a w₂) (fun _ _ _=>False)))):
  RSpec P r vs (.ob r (rec .ready none)::Wr) Φ:=by
 subst hrec
 refine⟨fun w hown=>?_⟩
 have hL:w.heap[r]?=some (rcd fn tm ps ars bd D .ready none):=hown.1 _ (List.mem_cons_self ..)
 have hy:=run_yield (P:=P) (args:=vs.toArray) hL (by simpa using hl)
 refine⟨_,_,_,_,hy,roundIn_of_wpIn (F:=FA none) trivial ?_⟩
 have hz:(ps.zip vs.toArray)=(ps.toList.zip vs).toArray:=by
  apply Array.ext'
  simp
 have hf:=mJ (l:=l) (ps:=ps.toList.zip vs) (tm:=tm) htm (by
  rw[List.all_eq_true]
  rintro⟨q1,q2⟩ hq
  have:=List.of_mem_zip hq
  rw[hsz]
  exact(List.all_eq_true.1 hps) q1 this.1)
 refine h w _ w ⟨rfl,?_,?_⟩ (jz hown)
 ·show(Array.foldl _ tm (ps.zip vs.toArray)).size=k
  rw[hz,List.foldl_toArray']
  ·rw[← hsz];exact hf.1
  ·rfl
 ·intro t v ht
  show(Array.foldl _ tm (ps.zip vs.toArray))[t]?=some v
  rw[hz,List.foldl_toArray']
  ·exact hf.2 t v ht
  ·rfl
section begins
variable {P:Program} {c:Cx} {n:Nn} {l:Sl} {W:List Res} {R:Ending→World→Prop}
theorem AY{w:World}{b:Nat}{o:Obj}:Ext [b] w (w.putObj b o):=
 ⟨rfl,rfl,rfl,by simp,fun k _ hk=>World.putObj_heap_other (by simpa using hk)⟩
theorem SatW.put{w:World}{b:Nat}{o o':Obj}(hw:SatW c (.ob b o::W) w):SatW c (.ob b o'::W) (w.putObj b o'):=
 hw.upd (r':=.ob b o') rfl AY (World.putObj_heap_same (by
  have:=hw.holds _ (List.mem_cons_self ..)
  exact(Array.getElem?_eq_some_iff.1 this).1))
theorem yE{r fn D:Nat}{tm:Array Value}{ps:Array Tmp}{ars bd bd':Code}{rec:LoopState→Option Code→Obj}{R0:List Res}{Q:Exit→Act→World→Prop}(hrec:rec=rcd fn tm ps ars bd D)(hf:Find W (.ob r (rec .ready none)) R0)
  (h:Go c n l (.ob r (rec .busy none)::R0) (bd'.wpIn (FA (some r)) 0 P Q)):
  Go c n l W (fun a w'=>∃w₂,(Instr.beginRound r).run P w' = .ok () w₂∧bd'.wpIn (FA (some r)) 0 P Q a w₂):=fun a w ha hw=>by
 subst hrec
 have hw:=hw.perm hf.perm
 have hL:w.heap[r]?=some (rcd fn tm ps ars bd D .ready none):=hw.holds _ (List.mem_cons_self ..)
 exact⟨_,run_beginRound hL rfl,h a _ ha hw.put⟩
theorem Nk{r fn D:Nat}{tm:Array Value}{ps:Array Tmp}{ars bd:Code}{rec:LoopState→Option Code→Obj}{R0:List Res}(hrec:rec=rcd fn tm ps ars bd D)(hf:Find W (.ob r (rec .busy none)) R0)
  (h:∀w,SatW c (.ob r (rec .ready none)::R0) w→R (.returned (.bool true)) w):Go c n l W (roundPost P r R .normal):=fun a w _ hw=>by
 subst hrec
 have hw:=hw.perm hf.perm
 have hL:w.heap[r]?=some (rcd fn tm ps ars bd D .busy none):=hw.holds _ (List.mem_cons_self ..)
 exact⟨_,_,run_endRound none hL,h _ hw.put⟩
theorem Fv{r fn D:Nat}{tm:Array Value}{ps:Array Tmp}{ars bd:Code}{rec:LoopState→Option Code→Obj}{R0:List Res}(hrec:rec=rcd fn tm ps ars bd D)(hf:Find W (.ob r (rec .busy none)) R0)
  (h:∀w,SatW c (.ob r (rec .done (some .ret))::R0) w→R (.returned (.bool false)) w):Go c n l W (roundPost P r R .ret):=fun a w _ hw=>by
 subst hrec
 have hw:=hw.perm hf.perm
 have hL:w.heap[r]?=some (rcd fn tm ps ars bd D .busy none):=hw.holds _ (List.mem_cons_self ..)
 exact⟨_,_,run_endRound (some .ret) hL,h _ hw.put⟩
end begins
section stmt
variable {P:Program} {c:Cx} {n:Nn} {l:Sl} {W:List Res} {Q:Exit→Act→World→Prop}
theorem nG{g:Operand}{ps:Array Tmp}{ars bd:Code}{f:FuncId}{caps:List Value}(hg:ev l g=some (.func (.func f) #[] caps.toArray))
  (hk:∀(r D fn:Nat)(tm:Array Value)(rec:LoopState→Option Code→Obj),rec=rcd fn tm ps ars bd D→tm.size=n.sz→(∀t v,lk l t=some v→tm[t]?=some v) →
   ∃pre Win R Φ,Spec P f (.func (.yield r) #[] #[]::caps) pre Win Φ∧Split (.ob r (rec .ready none) :: .ob D (.deferred (some []))::W) Win R ∧
    (∀w,SatW c (.ob r (rec .ready none) :: .ob D (.deferred (some []))::W) w→pre w) ∧
    ∀v Wout,Φ v Wout →
     (∃st R',st ≠ .busy∧Find (Wout++R) (.ob r (rec st none)) R'∧Go c ⟨n.sz,{ target:=.collected D,args:=#[] }::n.df⟩ l R' (Q .normal)) ∨
     (∃st cd R',st ≠ .busy∧Find (Wout++R) (.ob r (rec st (some cd))) R'∧Go c ⟨n.sz,{ target:=.collected D,args:=#[] }::n.df⟩ l R' (cd.wp P Q))):
  Go c n l W ((Code.rangeFunc g ps ars bd).wp P Q):=by
 intro a w hA hw
 refine(wpIn_wide (n:=1)).1 (wpIn_rangeFunc fun fn _=>?_)
 obtain⟨W1,hW1⟩:∃W1,(w.alloc (.deferred (some []))).alloc (rcd fn a.tmps ps ars bd w.heap.size .ready none)=W1:=⟨_,rfl⟩
 have s1:SatW c (.ob w.heap.size (.deferred (some []))::W) (w.alloc (.deferred (some []))):=hw.alloc (o:=.deferred (some [])) (r:=.ob w.heap.size (.deferred (some []))) rfl (World.alloc_heap_new _ _)
 have s2:SatW c (.ob (w.heap.size+1) (rcd fn a.tmps ps ars bd w.heap.size .ready none) :: .ob w.heap.size (.deferred (some []))::W) W1:=by
  rw[← hW1]
  have e:(w.alloc (.deferred (some []))).heap.size=w.heap.size+1:=World.size_alloc ..
  have:=s1.alloc (o:=rcd fn a.tmps ps ars bd w.heap.size .ready none) (r:=.ob (w.alloc (.deferred (some []))).heap.size (rcd fn a.tmps ps ars bd w.heap.size .ready none)) rfl (World.alloc_heap_new _ _)
  rw[e]at this;exact this
 obtain⟨pre,Win,R,Φ,hspec,hS,hpre,hend⟩:=hk (w.heap.size+1) w.heap.size fn a.tmps _ rfl hA.sz hA.at_
 have eg:=fun ars w=>gw hspec.call ars w
 have hg':=hA.ev hg
 refine⟨w.heap.size+1,[{ target:=.collected w.heap.size,args:=#[] }],W1,{ target:=.fn (.func f) caps.toArray,args:=#[.func (.yield (w.heap.size+1)) #[] #[]] },W1,f,
  #[.func (.yield (w.heap.size+1)) #[] #[]]++caps.toArray,W1,?_,?_,fun _ _=>trivial,?_,fun _=>Nat.le_refl _,?_⟩
 ·rw[← hW1];exact run_enterLoop_outer _ _ _ _ _
 ·simp only[resolve,hg']
  simp[go_sem]
 ·simp[invoke,go_sem,eg]
 ·refine callsIn_wide.2 ?_
  have hown:OwnsIn Win W1:=by
   have h:=s2.perm hS.perm
   refine⟨fun r hr=>h.holds r (List.mem_append.2 (.inl hr)),?_⟩
   have:=h.nd
   simp only[fps,List.flatMap_append]at this
   exact(List.nodup_append.1 this).1
  have hcall:=hspec.run W1 (hpre _ s2) hown
  have e:(.func (.yield (w.heap.size+1)) #[] #[]::caps:List Value).toArray = #[.func (.yield (w.heap.size+1)) #[] #[]]++caps.toArray:=by simp
  rw[e]at hcall
  refine hcall.mono fun e w' hp=>?_
  obtain⟨v,Wout,hΦ,rfl,hw'⟩:=oC s2 hS hp
  have hA2:SatA ⟨n.sz,{ target:=.collected w.heap.size,args:=#[] }::n.df⟩ l { a with defers:=[{ target:=.collected w.heap.size,args:=#[] }]++a.defers }:=
   ⟨by simp[hA.dfr],hA.sz,hA.at_⟩
  rcases hend v Wout hΦ with⟨st,R',hst,hf,hgo⟩ | ⟨st,cd,R',hst,hf,hgo⟩
  ·have hw2:=hw'.perm hf.perm
   have hL:=hw2.holds _ (List.mem_cons_self ..)
   refine⟨none,_,run_endLoop hL hst,hgo _ _ hA2 (SatW.put (o':=rcd fn a.tmps ps ars bd w.heap.size .exhausted none) hw2).drop⟩
  ·have hw2:=hw'.perm hf.perm
   have hL:=hw2.holds _ (List.mem_cons_self ..)
   refine⟨some cd,_,run_endLoop hL hst,(wpIn_wide (n:=1)).2 (hgo _ _ hA2 (SatW.put (o':=rcd fn a.tmps ps ars bd w.heap.size .exhausted (some cd)) hw2).drop)⟩
end stmt
theorem xV{P:Program}{f:FuncId}{vs:List Value}{pre:World→Prop}{Win:List Res}{Φ:Value→List Res→Prop}{fn:Func}{x:Code}
  (hf:P.funcs[f]?=some fn) (hb:fn.body=some x) (hnm:(fn.name == "runtime.NumGoroutine")=false) (hn:Nat.ble vs.length fn.ntmps=true)
  (h:∀w,pre w→Go ⟨w,fps Win⟩ ⟨fn.ntmps,[]⟩ (oR 0 vs) Win (x.wp P (Af P (bodyPostM Fence.wide 0 P fn (mm Φ Win w)) []))):Spec P f vs pre Win Φ:=by
 refine⟨⟨fn,hf,hnm,by rw[hb];rfl⟩,fun w hp hW=>(callsIn_wide (n:=0)).1 (callsIn_of_wp_marks hf hb trivial ((wpIn_wide (n:=0)).2 ?_))⟩
 refine h w hp _ _ ⟨rfl,?_,?_⟩ (jz hW)
 ·have:vs.length≤fn.ntmps:=by simpa using Nat.le_of_ble_eq_true hn
  simp;omega
 ·intro t v ht
  obtain⟨_,h2⟩:=mx vs 0 t v ht
  simp only[Nat.sub_zero]at h2
  have hlt:t<vs.length:=by
   rcases Nat.lt_or_ge t vs.length with h | h
   ·exact h
   ·rw[List.getElem?_eq_none h]at h2;simp at h2
  show(vs.toArray++_)[t]?=some v
  rw[Array.getElem?_append_left (by simpa using hlt)]
  simpa using h2
theorem C6{P:Program}{c:Cx}{n:Nn}{l:Sl}{W:List Res}{fn:Func}{R:Ending→World→Prop}{t:Tmp}{b D:Nat}{T U:TypeId}{v:Bool}{R0 R1:List Res}
  (hres:fn.results = #[.cell t T]) (hv:lk l t=some (pt b 0)) (hs:kv P T=true) (hD:n.df=[{ target:=.collected D,args:=#[] }]) (hf:Find W (.ob D (.deferred (some []))) R0) (hf':Find R0 (.blk b (.bool v) U) R1)
  (hR:∀w,SatW c R0 w→R (.returned (.bool v)) w):Go c n l W (bodyPostM Fence.wide 0 P fn R .ret):=fun a w ha hw=>by
 have hw:=hw.perm hf.perm
 have hL:w.heap[D]?=some (.deferred (some [])):=hw.holds _ (List.mem_cons_self ..)
 have hw2:=(SatW.put (o':=.deferred none) hw).drop
 show LeavesInM _ _ _ _ _ _ _ _ _
 rw[ha.dfr,hD]
 refine⟨by simp,.inl ⟨D,_,rfl,run_takeDeferred hL,?_⟩⟩
 have hh:(w.putObj D (.deferred none)).heap[b]?=some (.cells #[.bool v] U (0,0)):=hw2.holds _ hf'.mem
 have hc:(w.putObj D (.deferred none)).cell? ⟨b,0,none⟩=some (.bool v):=by
  rw[cell_of_row _ b 0 _ U _ hh];simp
 have h1:=ha.at_ t _ hv
 refine⟨.bool v,?_,hR _ hw2⟩
 have hp':a.tmps[t]?.getD undef=pt b 0:=by rw[h1];rfl
 simp[results,hres,hp',asAddr,cL hs hc]
section
attribute [local irreducible] Code.wp wpList Af bodyPost L.Go ab
open Num
attribute [local simp] ae aD
attribute [local irreducible] ec f5 hu g8 bi gm ee hP Kf.T12.one
theorem Cb(l:List (Kf.K2.Pt p))(Q:Kf.K2.Pt p):hWs l++[hW Q]=hWs (l++[Q]):=by simp[hWs]
theorem B5(l:List (Kf.K2.Pt p))(Q:Kf.K2.Pt p):gWs l++[gW Q]=gWs (l++[Q]):=by simp[gWs]
def Kn(d:List Nat)(es:Array MapEntry):Prop:=wK es.toList∧∀e∈es.toList,∀m,Lt 256 m→e.key=STR m→e.val=GV (hP m d)
def hPs(d:List Nat)(ms:List (Value×List Nat)):List (Kf.K2.Pt p):=ms.map fun q=>hP q.2 d
theorem UQ{d:List Nat}{ms:List (Value×List Nat)}{i:Nat}{q:Value×List Nat}(h:ms[i]?=some q):hPs d (ms.take i)++[hP q.2 d]=hPs d (ms.take (i+1)):=by
 unfold hPs
 rw[List.take_add_one,h];simp
theorem Mq:Ok1 (Kf.K2.pn bn):=⟨Kf.K2.cI dR,Kf.K2.F7 j6,by rw[Kf.K2.Ti p_3 dR];exact Eq.trans (congrArg Kf.K2.pn Cd) rfl⟩
theorem uu{a b:Prop}(k:b)(h:Rm b→a:=by intro k;(first|refine Z01 ?_|refine Z02 ?_|refine Z03 ?_|refine Z04 ?_|refine Z05 ?_|refine Z06 ?_|refine Z07 ?_|refine Z08 ?_|refine Z09 ?_|refine Z10 ?_|refine Z11 ?_|refine Z12 ?_|refine Z13 ?_|refine Z14 ?_|refine Z15 ?_|refine Z17 ?_|refine Z18 ?_|refine Z19 ?_|refine Z20 ?_|refine Z21 ?_|refine Z22 ?_|refine Z23 ?_|refine Z24 ?_|refine Z26 ?_|refine Z27 ?_|refine Z29 ?_|refine Z30 ?_|refine Z31 ?_|refine Z32 ?_|refine Z44 ?_|refine Z45 ?_|refine Z49 ?_|refine Z50 ?_|refine Z51 ?_|refine Z52 ?_|refine Z54 ?_|refine Z67 ?_|refine Z74 ?_|refine Z77 ?_|refine Z78 ?_|refine Z79 ?_);exact k.h):a:=h ⟨k⟩
set_option maxHeartbeats 8000000 in
theorem sN(s1 s2 s3:Value)(ps:List (Kf.K2.Pt p))(ms:List (Value×List Nat))(S:Kf.K2.Pt p)(d:List Nat)(r:Bool)(h0:0<ps.length)(h9:ps.length<900)(hl:ms.length=ps.length)
  (hP1:∀P∈ps,Ok1 P) (hm:∀q∈ms,Lt 256 q.2∧q.2.length<1073741824) (hS:Ok2 S) (hd:Lt 256 d) (d1:1≤d.length) (d2:d.length≤255)
  (hr:decide (gm (ee (ps++[Kf.K2.pn bn]) (hPs d ms++[S]) (bi []))=Kf.T12.one)=r):
  Spec Tryz.prog 46 [s1,s2,s3,STR d] (fun w=>Rd w (wide 13 s1) (hWs ps).flatten∧Rd w s2 (ms.map (·.1))∧(∀q∈ms,Rd w q.1 (q.2.map (N .u8)))∧Rd w s3 ((f5 S).map (N .u8))) [] (IsV (.bool r)):=by
 refine ad Tryz.func46 rfl rfl rfl fun w hr0=>?_
 have h1:=RdC.mk0 hr0.1
 have h2:=RdC.mk0 hr0.2.1
 have h3:∀q∈ms,RdC ⟨w,fps []⟩ q.1 (q.2.map (N .u8)):=fun q hq=>RdC.mk0 (hr0.2.2.1 q hq)
 have h4:=RdC.mk0 hr0.2.2.2
 have hl0:=fun x=>ae 6 x
 have hle:=fun x:F2=>ak x
 have a1:=Ad s3 hS
 have hcl:=Aa s1 ps h0 (by omega)
 obtain⟨xS,yS,iS,qS,wS⟩:∃x y i,GV S=GE x y i∧gW S=(E2 x++E2 y).map (N .u64)++[Value.bool i]:=⟨gx S,gy S,gi S,rfl,rfl⟩
 rw[qS]at a1
 repeat (first|refine af (by rfl) (by rfl) (by rfl) (a1) (RdW.old h4) (by rfl) ?_|(refine ct ?_;intro _)|refine dG ?_|refine y_5 ?_|refine Bi (by rfl) fun _=>?_|refine uu ?_|refine Z82 fun _=>?_|refine Z84 fun _=>?_|refine Z85 fun _=>?_)
 rename_i p9 mb
 refine iD 25 36 ?_
 refine az (ι:=Nat×Value×Array MapEntry×Nat) (fun q=>q.1≤ms.length∧Kn d q.2.2.1) (fun q=>[(0,s1),(3,STR d),(9,pt p9 0),(11,q.2.1),(12,.map (some mb)),(26,s2),(27,N .i64 (ms.map (·.1)).length),(28,N .i64 q.1)])
  (fun q=>[.sl (wide 25 q.2.1) (gWs (hPs d (ms.take q.1))).flatten 36,.ob mb (.map q.2.2.1 q.2.2.2),.blk p9 (GL (E2 xS++E2 yS) iS) 36]) (fun q=>ms.length-q.1) (0,.slice none 0 0,#[],0) ⟨by simp,by unfold Kn wK;simp⟩ sbq (by simp[hPs,gWs];exact sw) ?_
 rintro⟨i,v,es,ck⟩ ⟨hi,hK⟩
 simp only at hi hK ⊢
 have hfl:(gWs (hPs d (ms.take i))).flatten.length=(gWs (hPs d (ms.take i))).length*25:=iW (pM _)
 have hn1:(gWs (hPs d (ms.take i))).length≤i:=by simp[gWs,hPs];omega
 repeat (first|refine uu ?_|refine Z82 fun _=>?_|refine Z84 fun _=>?_|refine Z85 fun _=>?_)
 refine an (by rfl) (fun h=>?_) (fun h=>?_)
 ·rw[List.length_map]at h
  obtain⟨⟨u,m⟩,hq⟩:∃q,ms[i]?=some q:=⟨ms[i],by simp[h]⟩
  have hmem:=List.mem_of_getElem? hq
  have hu1:=h3 (u,m) hmem
  obtain⟨hm1,hm2⟩:=hm (u,m) hmem
  simp only at hu1 hm1 hm2
  have hs:=UQ (d:=d) hq
  simp only at hs
  have hh:=fun x=>xF u x m d hm1 hd hm2 d1 d2
  obtain⟨x,y,j,qH,wH⟩:∃x y i,GV (hP m d)=GE x y i∧gW (hP m d)=(E2 x++E2 y).map (N .u64)++[Value.bool i]:=⟨gx _,gy _,gi _,rfl,rfl⟩
  rw[qH]at hh
  have happ:(gWs (hPs d (ms.take i))++[(E2 x++E2 y).map (N .u64)++[Value.bool j]]).flatten=(gWs (hPs d (ms.take (i+1)))).flatten:=by rw[← wH,B5,hs]
  have hlen1:((E2 x++E2 y).map (N .u64)++[Value.bool j]).length=25:=by simp
  have hfl1:[(E2 x++E2 y).map (N .u64)++[Value.bool j]].flatten.length=1*25:=by simp
  have hone:∀v∈[(E2 x++E2 y).map (N .u64)++[Value.bool j]].flatten,v.oneCell'=true:=by
   have:=B6 [hP m d]
   unfold gWs at this
   rw[List.map_cons,List.map_nil,wH]at this
   exact this
  repeat (first|refine fH (v:=u) (by rfl) (RdW.old h2) (by simp[hq]) (by rfl) (by rfl) ?_|refine o9 (xs:=m) (by rfl) (by rfl) (by rfl) (by rfl) (RdW.old hu1) (by rfl) ?_|refine uu ?_|refine Z82 fun _=>?_|refine Z84 fun _=>?_|refine Z85 fun _=>?_)
  refine Fw (b:=mb) (k:=ck) (es:=es) (m:=m) (z:=GL (List.replicate 24 0) false) (by rfl) (by rfl) (by rfl) (by rfl) (by kernel_rfl) fd hm1 hK.1 (by rfl) (fun e he hk=>?_) (fun hno=>?_)
  ·have hv:e.val=GE x y j:=(hK.2 e he m hm1 hk).trans qH
   rw[hv]
   clear hv hk he
   repeat (first|(refine ct ?_;intro _)|refine dG ?_|refine dM ?_|refine dE (m:=25) (zs:=zG2) (by rfl) (by kernel_rfl) (by rfl) (by rfl) (by rfl) (by rfl) hlen1 (by rfl) (by rfl) fun _=>?_|(refine dK (m:=25) (xss:=gWs (hPs d (ms.take i))) (yss:=[(E2 x++E2 y).map (N .u64)++[Value.bool j]]) (zs:=zG2) (by rfl) (by rfl) fd (RdW.slvV fd hfl1) (by rfl) (by kernel_rfl) (by rfl) (by rfl) (by rfl) hone (by decide) hfl hfl1 (by simp) (by simp;omega) (by simp;omega) (by rfl) fun _=>?_;rw[happ])|refine uu ?_|refine Z82 fun _=>?_|refine Z84 fun _=>?_|refine Z85 fun _=>?_)
   rename_i v2
   exact ao (i+1,v2,es,ck) ⟨by simp only;omega,hK⟩ (by simp only;omega) sbq sw
  ·have hK2:Kn d (es.push { key:=STR m,val:=GE x y j,born:=ck }):=by
    refine⟨fun e he=>?_,fun e he m' hm' hk'=>?_⟩
    ·rw[Array.toList_push]at he
     rcases List.mem_append.1 he with he | he
     ·exact hK.1 e he
     ·rw[List.mem_singleton.1 he];exact⟨m,rfl,hm1⟩
    ·rw[Array.toList_push]at he
     rcases List.mem_append.1 he with he | he
     ·exact hK.2 e he m' hm' hk'
     ·rw[List.mem_singleton.1 he]at hk' ⊢
      rw[← Le hm1 hm' hk'];exact qH.symm
   repeat (first|(refine ct ?_;intro _)|refine dG ?_|refine dM ?_|refine nJ (tg:=d) (by rfl) (by rfl) (by rfl) (by rfl) hd (by rfl) fun _=>?_|refine o9 (xs:=m) (by rfl) (by rfl) (by rfl) (by rfl) (RdW.old hu1) (by rfl) ?_|refine af (by rfl) (by rfl) (by rfl) (hh _) (fun w hw=>⟨RdW.old hu1 w hw,RdW.own fd w hw⟩) (by rfl) ?_|refine we (b:=mb) (k:=ck) (es:=es) (m:=m) (v:=GE x y j) (by rfl) (by rfl) (by rfl) (by rfl) (by rfl) fd hm1 hK.1 hno ?_|refine dE (m:=25) (zs:=zG2) (by rfl) (by kernel_rfl) (by rfl) (by rfl) (by rfl) (by rfl) hlen1 (by rfl) (by rfl) fun _=>?_|(refine dK (m:=25) (xss:=gWs (hPs d (ms.take i))) (yss:=[(E2 x++E2 y).map (N .u64)++[Value.bool j]]) (zs:=zG2) (by rfl) (by rfl) fd (RdW.slvV fd hfl1) (by rfl) (by kernel_rfl) (by rfl) (by rfl) (by rfl) hone (by decide) hfl hfl1 (by simp) (by simp;omega) (by simp;omega) (by rfl) fun _=>?_;rw[happ])|refine uu ?_|refine Z82 fun _=>?_|refine Z84 fun _=>?_|refine Z85 fun _=>?_)
   rename_i v2
   exact ao (i+1,v2,es.push { key:=STR m,val:=GE x y j,born:=ck },ck+1) ⟨by simp only;omega,hK2⟩ (by simp only;omega) sbq sw
 ·have hil:i=ms.length:=by rw[List.length_map]at h;omega
  subst hil
  rw[List.take_length]at hfl hn1 ⊢
  have hb0:=qU
  have hbn:=Et j6
  obtain⟨xB,yB,jB,qB,wB⟩:∃x y i,HV (Kf.K2.pn bn)=HE x y i∧hW (Kf.K2.pn bn)=(Q6 x++Q6 y).map (N .u64)++[Value.bool i]:=⟨_,_,_,rfl,rfl⟩
  have hx1:(hWs ps).flatten.length=(hWs ps).length*13:=iW (pN _)
  have hx2:(hWs ps).length=ps.length:=by simp[hWs]
  have happ1:(hWs ps++[(Q6 xB++Q6 yB).map (N .u64)++[Value.bool jB]]).flatten=(hWs (ps++[Kf.K2.pn bn])).flatten:=by rw[← wB,Cb]
  have hone1:∀v∈[(Q6 xB++Q6 yB).map (N .u64)++[Value.bool jB]].flatten,v.oneCell'=true:=by
   have:=va [Kf.K2.pn bn]
   unfold hWs at this
   rw[List.map_cons,List.map_nil,wB]at this
   exact this
  have hone2:∀v∈[(E2 xS++E2 yS).map (N .u64)++[Value.bool iS]].flatten,v.oneCell'=true:=by
   have:=B6 [S]
   unfold gWs at this
   rw[List.map_cons,List.map_nil,wS]at this
   exact this
  have happ2:(gWs (hPs d ms)++[(E2 xS++E2 yS).map (N .u64)++[Value.bool iS]]).flatten=(gWs (hPs d ms++[S])).flatten:=by rw[← wS,B5]
  have hn2:(gWs (hPs d ms)).length=ms.length:=by simp[gWs,hPs]
  have hpr:=fun x y=>vP x y (ps++[Kf.K2.pn bn]) (hPs d ms++[S]) (by simp[hPs,hl]) (by simp;omega)
   (fun P hP=>by
    rcases List.mem_append.1 hP with hP | hP
    ·exact hP1 P hP
    ·rw[List.mem_singleton.1 hP];exact Mq)
   (fun Q hQ=>by
    rcases List.mem_append.1 hQ with hQ | hQ
    ·unfold hPs at hQ
     obtain⟨q,_,rfl⟩:=List.mem_map.1 hQ
     exact f6 _ _
    ·rw[List.mem_singleton.1 hQ];exact hS)
  rw[qB]at hbn
  generalize gm (ee (ps++[Kf.K2.pn bn]) (hPs d ms++[S]) (bi []))=F at hr hpr
  generalize HV bn=B at *
  clear qB wB hx2
  have hlen2:((Q6 xB++Q6 yB).map (N .u64)++[Value.bool jB]).length=13:=by simp
  have hlen3:((E2 xS++E2 yS).map (N .u64)++[Value.bool iS]).length=25:=by simp
  have hfl2:[(Q6 xB++Q6 yB).map (N .u64)++[Value.bool jB]].flatten.length=1*13:=by simp
  have hfl3:[(E2 xS++E2 yS).map (N .u64)++[Value.bool iS]].flatten.length=1*25:=by simp
  have hn3:(hWs ps).length≤1000:=by simp[hWs];omega
  have hw0:=VK F
  have heq:decide (E12 F=E12 Kf.T12.one)=r:=by rw[← hr];exact decide_eq_decide.mpr ⟨K9,fun h=>by rw[h]⟩
  repeat (first|(refine ax (by rfl) (by rfl) (by rfl) (hcl) .nil (RdW.old h1) (by rfl) ?_;rintro _ _ rfl)|refine y_4 hb0 ?_|refine y_4 hbn ?_|refine dE (m:=13) (zs:=zG1) (by rfl) (by kernel_rfl) (by rfl) (by rfl) (by rfl) (by rfl) hlen2 (by rfl) (by rfl) fun _=>?_|(refine dK (m:=13) (xss:=hWs ps) (yss:=[(Q6 xB++Q6 yB).map (N .u64)++[Value.bool jB]]) (zs:=zG1) (by rfl) (by rfl) fd (RdW.slvV fd hfl2) (by rfl) (by kernel_rfl) (by rfl) (by rfl) (by rfl) hone1 (by decide) hx1 hfl2 (by simp) (by simp;omega) (by simp;omega) (by rfl) fun _=>?_;rw[happ1])|refine dM ?_|refine dE (m:=25) (zs:=zG2) (by rfl) (by kernel_rfl) (by rfl) (by rfl) (by rfl) (by rfl) hlen3 (by rfl) (by rfl) fun _=>?_|(refine dK (m:=25) (xss:=gWs (hPs d ms)) (yss:=[(E2 xS++E2 yS).map (N .u64)++[Value.bool iS]]) (zs:=zG2) (by rfl) (by rfl) fd (RdW.slvV fd hfl3) (by rfl) (by kernel_rfl) (by rfl) (by rfl) (by rfl) hone2 (by decide) hfl hfl3 (by simp) (by simp;omega) (by simp;omega) (by rfl) fun _=>?_;rw[happ2])|refine af (by rfl) (by rfl) (by rfl) (hpr _ _) (fun w hw=>⟨RdW.own fd w hw,RdW.own fd w hw⟩) (by rfl) ?_|(refine cO ?_;intro _)|refine jQ ?_|refine Z01 ?_|refine Z02 ?_|refine Z03 ?_|refine Z04 ?_|refine Z05 ?_|refine Z06 ?_|refine Z07 ?_|refine Z08 ?_|refine Z09 ?_|refine Z10 ?_|refine Z11 ?_|refine Z12 ?_|refine Z13 ?_|refine Z14 ?_|refine Z15 ?_|refine Z17 ?_|refine Z18 ?_|refine Z19 ?_|refine Z20 ?_|refine Z21 ?_|refine Z22 ?_|refine Z23 ?_|refine Z24 ?_|refine Z26 ?_|refine Z27 ?_|refine Z29 ?_|refine Z30 ?_|refine Z31 ?_|refine Z32 ?_|refine Z44 ?_|refine Z45 ?_|refine Z49 ?_|refine Z50 ?_|refine Z51 ?_|refine Z52 ?_|refine Z54 ?_|refine Z67 ?_|refine Z74 ?_|refine Z77 ?_|refine Z78 ?_|refine Z79 ?_|refine Z82 fun _=>?_|refine Z84 fun _=>?_|refine Z85 fun _=>?_)
  refine au (by rfl) ?_
  repeat (first|(refine Zqf (by intro _ _ _;(first|refine y_4 hw0 ?_|refine S4 heq Uy (by rfl) (by rfl) (by kernel_rfl) (be _) (be _) (by rfl) ?_|refine Z01 ?_|refine Z02 ?_|refine Z15 ?_|refine Z17 ?_|refine Z18 ?_|refine Z19 ?_|refine Z20 ?_|refine Z21 ?_|refine Z22 ?_|refine Z23 ?_|refine Z44 ?_|refine Z45 ?_|refine Z49 ?_|refine Z50 ?_|refine Z54 ?_|refine Z74 ?_|refine Z77 ?_|refine Z78 ?_|refine Z79 ?_);exact Zq) ?_)|(refine Zqp (by intro _ _ _;(refine bH (by rfl) fd (by rfl) (by rfl) (ab.whole _) (by rfl) ?_);exact Zq) ?_)|refine zJ ?_|refine fq ?_|refine Zqn ?_)
  refine Zq0 ?_ (by kernel_rfl)
  repeat (first|refine uu ?_|refine Z82 fun _=>?_|refine Z84 fun _=>?_|refine Z85 fun _=>?_)
  refine Ze1 fun _ hw=>aa hw SubW.nil ⟨?_,rfl⟩
  rfl
theorem tj(s:Value)(_:s.oneCell'=true):Spec Tryz.prog 45 [s] ai [] (fun v Wr=>∃b,v = .func (.func 88) #[] #[pt b 0]∧Wr=[.blk b s 46]):=by
 refine ad Tryz.func45 rfl rfl rfl fun w _=>?_
 repeat (first|refine Z02 ?_|refine Z03 ?_|refine Z04 ?_|refine Z05 ?_|refine Z06 ?_|refine Z07 ?_|refine Z08 ?_|refine Z09 ?_|refine Z10 ?_|refine Z11 ?_|refine Z12 ?_|refine Z13 ?_|refine Z14 ?_|refine Z48 ?_|refine Z81 fun _=>?_)
 rename_i b
 exact Ze1 fun _ hw=>aa hw (Wout:=[.blk b s 46]) (by exact sw) ⟨_,rfl,rfl⟩
theorem uv{a b:Prop}(k:b)(h:Rm b→a:=by intro k;(first|refine Z01 ?_|refine Z02 ?_|refine Z03 ?_|refine Z04 ?_|refine Z05 ?_|refine Z06 ?_|refine Z07 ?_|refine Z08 ?_|refine Z09 ?_|refine Z10 ?_|refine Z11 ?_|refine Z12 ?_|refine Z13 ?_|refine Z14 ?_|refine Z15 ?_|refine Z17 ?_|refine Z18 ?_|refine Z19 ?_|refine Z20 ?_|refine Z21 ?_|refine Z22 ?_|refine Z23 ?_|refine Z24 ?_|refine Z26 ?_|refine Z27 ?_|refine Z29 ?_|refine Z30 ?_|refine Z31 ?_|refine Z32 ?_|refine Z54 ?_|refine Z67 ?_);exact k.h):a:=h ⟨k⟩
theorem P9{a b:Prop}(k:b)(h:Rm b→a:=by intro k;(first|refine io ?_|refine Z01 ?_|refine Z02 ?_|refine Z03 ?_|refine Z04 ?_|refine Z05 ?_|refine Z06 ?_|refine Z07 ?_|refine Z08 ?_|refine Z09 ?_|refine Z10 ?_|refine Z11 ?_|refine Z12 ?_|refine Z13 ?_|refine Z14 ?_|refine Z15 ?_|refine Z17 ?_|refine Z18 ?_|refine Z19 ?_|refine Z20 ?_|refine Z21 ?_|refine Z22 ?_|refine Z23 ?_|refine Z24 ?_|refine Z26 ?_|refine Z27 ?_|refine Z29 ?_|refine Z30 ?_|refine Z31 ?_|refine Z32 ?_|refine Z54 ?_|refine Z67 ?_);exact k.h):a:=h ⟨k⟩
set_option maxHeartbeats 4000000 in
theorem Az(r b:Nat)(s:Value)(hs:s.oneCell'=true)(ks:List (Value×Kf.K2.Pt p))(h9:ks.length<1000)(hk:∀q∈ks,Ok1 q.2)(Wi:Nat→Value→List Res)(x0:Value)
  (hY:∀i q x,ks[i]?=some q→RSpec Tryz.prog r [HV q.2,.bool true] (Wi i x) (fun v V=>∃x',v = .bool true∧V=Wi (i+1) x')):
  Spec Tryz.prog 88 [.func (.yield r) #[] #[],pt b 0] (fun w=>RdC ⟨w,fps (.blk b s 46::Wi 0 x0)⟩ s (ks.map (·.1))∧∀q∈ks,RdC ⟨w,fps (.blk b s 46::Wi 0 x0)⟩ q.1 ((ec q.2).map (N .u8)))
   (.blk b s 46::Wi 0 x0) (fun _ V=>∃x,V = .blk b s 46::Wi ks.length x):=by
 refine ad Tryz.func88 rfl rfl rfl fun w hr=>?_
 have h1:=hr.1
 have h2:=hr.2
 have hl0:=fun x=>ae 6 x
 repeat (first|refine fI (v:=s) (by rfl) fd hs (by rfl) (by rfl) ?_|refine uv ?_|refine Z82 fun _=>?_)
 refine az (ι:=Nat×Value) (fun q=>q.1≤ks.length) (fun q=>[(0,.func (.yield r) #[] #[]),(7,s),(8,N .i64 (ks.map (·.1)).length),(9,N .i64 q.1)]) (fun q=>.blk b s 46::Wi q.1 q.2) (fun q=>ks.length-q.1) (0,x0) (by simp) sbq (SubW.all _) ?_
 rintro⟨i,x⟩ hi
 simp only at hi ⊢
 repeat (first|refine uv ?_|refine Z82 fun _=>?_)
 refine an (by rfl) (fun h=>?_) (fun h=>?_)
 ·rw[List.length_map]at h
  obtain⟨⟨u,P⟩,hq⟩:∃q,ks[i]?=some q:=⟨ks[i],by simp[h]⟩
  have hmem:=List.mem_of_getElem? hq
  have hu:=h2 (u,P) hmem
  have hP:=hk (u,P) hmem
  have hy:=hY i (u,P) x hq
  simp only at hu hP hy
  have a1:=Ac u hP
  obtain⟨xP,yP,iP,qP⟩:∃x y i,HV P=HE x y i:=⟨_,_,_,rfl⟩
  rw[qP]at a1 hy
  repeat (first|refine rQ (id:=4) (m:=0) ?_|refine fH (v:=u) (by rfl) (RdW.old h1) (by simp[hq]) (by rfl) (by rfl) ?_|refine af (by rfl) (by rfl) (by rfl) (a1) (RdW.old hu) (by rfl) ?_|(refine dV ?_;intro _)|refine P9 ?_|refine Z82 fun _=>?_)
  refine lw (d:=18) (v:=.func (.yield r) #[] #[]) (by rfl) (by rfl) ?_ ?_
  ·refine nE (by rfl) (by rfl) ?_
   exact jJ fun _ _ ha hw=>wpList_nil ⟨rfl,ha,hw⟩
  refine lw (d:=19) (v:=HE xP yP iP) (by rfl) (by rfl) ?_ ?_
  ·refine db (m:=12) (by rfl) fd (by rfl) (by rfl) (by first|with_reducible assumption|simp) (by rfl) ?_
   exact jJ fun _ _ ha hw=>wpList_nil ⟨rfl,ha,hw⟩
  refine lw (d:=20) (v:=N .i64 0) (by rfl) (by rfl) ?_ ?_
  ·refine nE (by rfl) (by rfl) ?_
   exact jJ fun _ _ ha hw=>wpList_nil ⟨rfl,ha,hw⟩
  refine lw (d:=21) (v:=.bool true) (by rfl) (by rfl) ?_ ?_
  ·refine rY (r:=true) (by rfl) (by rfl) (Gn (by first | (simp only[D6];done) | (simp only[D6];omega))) (by rfl) ?_
   exact jJ fun _ _ ha hw=>wpList_nil ⟨rfl,ha,hw⟩
  refine nF (x9 _ _ _) ?_
  refine yW (vs:=[HE xP yP iP,.bool true]) (by rfl) (by rfl) hy (Split.self _ _) (by rfl) ?_
  rintro _ _ ⟨x',rfl,rfl⟩
  refine nF (tF _ _ _) ?_
  refine dZ (l':=[(22,.bool true),(0,.func (.yield r) #[] #[]),(7,s),(8,N .i64 (ks.map (·.1)).length),(9,N .i64 i)]) sbq (SubW.self _ _) ?_
  refine lw (d:=23) (v:=.bool false) (by rfl) (by rfl) ?_ ?_
  ·refine v4 (by rfl) (by rfl) ?_
   exact jJ fun _ _ ha hw=>wpList_nil ⟨rfl,ha,hw⟩
  refine Jt ?_
  repeat (first|refine uv ?_|refine Z82 fun _=>?_)
  exact ao (i+1,x') (by simp only;omega) (by simp only;omega) sbq (SubW.all _)
 ·have hil:i=ks.length:=by rw[List.length_map]at h;omega
  subst hil
  repeat (first|refine uv ?_|refine Z82 fun _=>?_)
  refine gE (by rfl) fun _ hw=>aa hw (Wout:=.blk b s 46::Wi ks.length x) (SubW.all _) ⟨x,rfl⟩
theorem UR{ps:List (Kf.K2.Pt p)}{i:Nat}{Q:Kf.K2.Pt p}(h:ps[i]?=some Q):hWs (ps.take i)++[hW Q]=hWs (ps.take (i+1)):=by
 rw[Cb,List.take_add_one,h];rfl
theorem pq{a b:Prop}(k:b)(h:Rm b→a:=by intro k;(first|refine Z01 ?_|refine Z02 ?_|refine Z03 ?_|refine Z04 ?_|refine Z05 ?_|refine Z06 ?_|refine Z07 ?_|refine Z08 ?_|refine Z09 ?_|refine Z10 ?_|refine Z11 ?_|refine Z12 ?_|refine Z13 ?_|refine Z14 ?_|refine Z17 ?_|refine Z18 ?_|refine Z20 ?_|refine Z21 ?_|refine Z24 ?_|refine Z26 ?_|refine Z27 ?_|refine Z29 ?_|refine Z30 ?_|refine Z31 ?_|refine Z32 ?_|refine Z49 ?_|refine Z50 ?_|refine Z51 ?_|refine Z52 ?_|refine Z54 ?_|refine Z67 ?_);exact k.h):a:=h ⟨k⟩
theorem Qa{a b:Prop}(k:b)(h:Rm b→a:=by intro k;(first|refine io ?_|refine Z01 ?_|refine Z02 ?_|refine Z03 ?_|refine Z04 ?_|refine Z05 ?_|refine Z06 ?_|refine Z07 ?_|refine Z08 ?_|refine Z09 ?_|refine Z10 ?_|refine Z11 ?_|refine Z12 ?_|refine Z13 ?_|refine Z14 ?_|refine Z17 ?_|refine Z18 ?_|refine Z20 ?_|refine Z21 ?_|refine Z24 ?_|refine Z26 ?_|refine Z27 ?_|refine Z29 ?_|refine Z30 ?_|refine Z31 ?_|refine Z32 ?_|refine Z49 ?_|refine Z50 ?_|refine Z51 ?_|refine Z52 ?_|refine Z54 ?_|refine Z67 ?_);exact k.h):a:=h ⟨k⟩
theorem Qb{a b:Prop}(k:b)(h:Rm b→a:=by intro k;(first|refine cv ?_|refine fo ?_|refine Z01 ?_|refine Z02 ?_|refine Z03 ?_|refine Z04 ?_|refine Z05 ?_|refine Z06 ?_|refine Z07 ?_|refine Z08 ?_|refine Z09 ?_|refine Z10 ?_|refine Z11 ?_|refine Z12 ?_|refine Z13 ?_|refine Z14 ?_|refine Z17 ?_|refine Z18 ?_|refine Z20 ?_|refine Z21 ?_|refine Z24 ?_|refine Z26 ?_|refine Z27 ?_|refine Z29 ?_|refine Z30 ?_|refine Z31 ?_|refine Z32 ?_|refine Z49 ?_|refine Z50 ?_|refine Z51 ?_|refine Z52 ?_|refine Z54 ?_|refine Z67 ?_);exact k.h):a:=h ⟨k⟩
set_option maxHeartbeats 8000000 in
theorem wQ(s1 s2 s3:Value)(hs1:s1.oneCell'=true)(ks:List (Value×Kf.K2.Pt p))(ms:List (Value×List Nat))(S:Kf.K2.Pt p)(d:List Nat)(r:Bool)(h0:0<ks.length)(h9:ks.length<900)(hl:ms.length=ks.length)
  (hk:∀q∈ks,Ok1 q.2) (hg:∀q∈ks,gi q.2=false) (hm:∀q∈ms,Lt 256 q.2∧q.2.length<1073741824) (hS:Ok2 S) (hd:Lt 256 d) (d1:1≤d.length) (d2:d.length≤255)
  (hr:decide (gm (ee (ks.map (·.2)++[Kf.K2.pn bn]) (hPs d ms++[S]) (bi []))=Kf.T12.one)=r):
  Spec Tryz.prog 23 [s1,s2,s3,STR d] (fun w=>Rd w s1 (ks.map (·.1))∧(∀q∈ks,Rd w q.1 ((ec q.2).map (N .u8)))∧Rd w s2 (ms.map (·.1))∧(∀q∈ms,Rd w q.1 (q.2.map (N .u8)))∧Rd w s3 ((f5 S).map (N .u8))) [] (IsV (.bool r)):=by
 refine xV Tryz.func23 rfl rfl rfl fun w hr0=>?_
 have h1:=RdC.mk0 hr0.1
 have h2:∀q∈ks,RdC ⟨w,fps []⟩ q.1 ((ec q.2).map (N .u8)):=fun q hq=>RdC.mk0 (hr0.2.1 q hq)
 have h3:=RdC.mk0 hr0.2.2.1
 have h4:∀q∈ms,RdC ⟨w,fps []⟩ q.1 (q.2.map (N .u8)):=fun q hq=>RdC.mk0 (hr0.2.2.2.1 q hq)
 have h5:=RdC.mk0 hr0.2.2.2.2
 have hl0:=fun x=>ae 6 x
 have hlk:(ks.map (·.1)).length=ks.length:=List.length_map ..
 have hlm:(ms.map (·.1)).length=ks.length:=by rw[List.length_map,hl]
 have aK:=tj s1 hs1
 repeat (first|refine y_5 ?_|(refine ax (by rfl) (by rfl) (by rfl) (aK) .nil (fun _ _=>trivial) (by rfl) ?_;rintro _ _ ⟨b,rfl,rfl⟩)|rw[hlk]|rw[hlm]|refine pq ?_|refine Z82 fun _=>?_|refine Z84 fun _=>?_|refine Z85 fun _=>?_)
 rename_i p8 p9
 have e0:(hWs ((ks.map (·.2)).take 0)).flatten=[]:=by simp[hWs]
 refine iD 13 58 ?_
 refine dZ (l':=[(23,.func (.func 88) #[] #[pt b 0]),(8,pt p8 0),(9,pt p9 0),(1,s2),(2,s3),(3,STR d)])
  (W':=[.blk b s1 46,.sl (wide 13 (.slice none 0 0)) [] 58,.blk p9 (.slice none 0 0) 81,.blk p8 (.bool false) 4]) sbq sw ?_
 refine nG (caps:=[pt b 0]) (by rfl) fun r0 D fn tm rec hrec hsz htm=>?_
 refine⟨_,_,[.ob D (.deferred (some []))],_,Az r0 b s1 hs1 ks (by omega) hk
  (fun i x=>[.ob r0 (rec .ready none),.sl (wide 13 x) (hWs ((ks.map (·.2)).take i)).flatten 58,.blk p9 x 81,.blk p8 (.bool false) 4]) (.slice none 0 0) ?_,?_,?_,?_⟩
 ·rintro i ⟨u,P⟩ x hq
  simp only
  have hmem:=List.mem_of_getElem? hq
  have hgP:=hg (u,P) hmem
  simp only at hgP
  have hq2:(ks.map (·.2))[i]?=some P:=by simp[hq]
  have hs:=UR hq2
  obtain⟨xP,yP,qP,wP⟩:∃x y,HV P=HE x y false∧hW P=(Q6 x++Q6 y).map (N .u64)++[Value.bool false]:=⟨(gx P).re,(gy P).re,by rw[wI,hgP],by unfold hW;rw[hgP]⟩
  rw[qP]
  refine xT hrec htm hsz (by rfl) (by rfl) fun w'=>?_
  refine t8 (l':=[(24,HE xP yP false),(25,.bool true),(8,pt p8 0),(9,pt p9 0)]) sbq ?_
  refine l9 (eE (fun _ _ h=>h) (by rfl) ?_)
  repeat (first|(refine dV ?_;intro _)|refine Qa ?_|refine Z82 fun _=>?_|refine Z84 fun _=>?_|refine Z85 fun _=>?_)
  refine iB ?_
  refine eE (fun _ _ h=>h) (by rfl) ?_
  repeat (first|refine pq ?_|refine Z82 fun _=>?_|refine Z84 fun _=>?_|refine Z85 fun _=>?_)
  refine iB ?_
  refine yE hrec fd ?_
  refine yC (l9 (l9 (eE (fun _ _ h=>h) (by rfl) ?_)))
  repeat (first|refine Qb ?_|refine Z82 fun _=>?_|refine Z84 fun _=>?_|refine Z85 fun _=>?_)
  refine iB (sI (by rfl) (M9 ?_))
  refine iB ?_
  refine eE (fun _ _ h=>h) (by rfl) ?_
  refine wh (s:=x) fd fun hx=>?_
  have hlen2:((Q6 xP++Q6 yP).map (N .u64)++[Value.bool false]).length=13:=by simp
  have hfl2:[(Q6 xP++Q6 yP).map (N .u64)++[Value.bool false]].flatten.length=1*13:=by simp
  have hx1:(hWs ((ks.map (·.2)).take i)).flatten.length=(hWs ((ks.map (·.2)).take i)).length*13:=iW (pN _)
  have hn1:(hWs ((ks.map (·.2)).take i)).length≤ks.length:=by simp[hWs];omega
  have hone1:∀v∈[(Q6 xP++Q6 yP).map (N .u64)++[Value.bool false]].flatten,v.oneCell'=true:=by
   have:=va [P]
   unfold hWs at this
   rw[List.map_cons,List.map_nil,wP]at this
   exact this
  have happ1:(hWs ((ks.map (·.2)).take i)++[(Q6 xP++Q6 yP).map (N .u64)++[Value.bool false]]).flatten=(hWs ((ks.map (·.2)).take (i+1))).flatten:=by rw[← wP,hs]
  repeat (first|refine fI (v:=x) (by rfl) fd hx (by rfl) (by rfl) ?_|refine jf ?_|refine dE (m:=13) (zs:=zG1) (by rfl) (by kernel_rfl) (by rfl) (by rfl) (by rfl) (by rfl) hlen2 (by rfl) (by rfl) fun _=>?_|(refine dK (m:=13) (xss:=hWs ((ks.map (·.2)).take i)) (yss:=[(Q6 xP++Q6 yP).map (N .u64)++[Value.bool false]]) (zs:=zG1) (by rfl) (by rfl) fd (RdW.slvV fd hfl2) (by rfl) (by kernel_rfl) (by rfl) (by rfl) (by rfl) hone1 (by decide) hx1 hfl2 (by simp) (by simp;omega) (by simp;omega) (by rfl) fun _=>?_;rw[happ1])|refine pq ?_|refine Z82 fun _=>?_|refine Z84 fun _=>?_|refine Z85 fun _=>?_)
  rename_i x2
  refine wh (s:=x2) fd fun hx2=>?_
  repeat (first|refine ij (u:=x2) (by rfl) (by rfl) fd hx hx2 (by rfl) ?_|refine pq ?_|refine Z82 fun _=>?_|refine Z84 fun _=>?_|refine Z85 fun _=>?_)
  refine VF ?_
  exact Nk hrec fd fun _ hw=>aa hw (Wout:=[.ob r0 (rec .ready none),.sl (wide 13 x2) (hWs ((ks.map (·.2)).take (i+1))).flatten 58,.blk p9 x2 81,.blk p8 (.bool false) 4]) (by exact sw) ⟨x2,rfl,rfl⟩
 ·rw[e0]
  exact .cons fd (.cons fd (.cons fd (.cons fd (.cons fd .nil))))
 ·intro w1 hw1
  rw[e0]
  exact⟨h1.toWin (R:=[.ob D (.deferred (some []))]) hw1 (.cons fd (.cons fd (.cons fd (.cons fd (.cons fd .nil))))),fun q hq=>(h2 q hq).toWin (R:=[.ob D (.deferred (some []))]) hw1 (.cons fd (.cons fd (.cons fd (.cons fd (.cons fd .nil)))))⟩
 ·rintro v _ ⟨x,rfl⟩
  refine .inl ⟨.ready,_,by simp,fd,?_⟩
  have hv:=sN x s2 s3 (ks.map (·.2)) ms S d r (by simpa using h0) (by simpa using h9) (by simpa using hl) (fun P hP=>by
   obtain⟨q,hq,rfl⟩:=List.mem_map.1 hP
   exact hk q hq) hm hS hd d1 d2 hr
  rw[List.take_of_length_le (by simp)]
  refine wh (s:=x) fd fun hx=>?_
  repeat (first|refine fI (v:=x) (by rfl) fd hx (by rfl) (by rfl) ?_|refine af (by rfl) (by rfl) (by rfl) (hv) (fun w hw=>⟨RdW.own fd w hw,RdW.old h3 w hw,fun q hq=>RdW.old (h4 q hq) w hw,RdW.old h5 w hw⟩) (by rfl) ?_|refine pq ?_|refine Z82 fun _=>?_|refine Z84 fun _=>?_|refine Z85 fun _=>?_)
  exact C6 (D:=D) (by rfl) (by rfl) (by rfl) (by rfl) fd fd fun _ hw=>aa hw SubW.nil ⟨rfl,rfl⟩
theorem Ay(r b:Nat)(s:Value)(hs:s.oneCell'=true)(W0 Wx:List Res)(hY:RSpec Tryz.prog r [HE 0 0 false,.bool false] W0 (fun v V=>v = .bool false∧V=Wx)):
  Spec Tryz.prog 88 [.func (.yield r) #[] #[],pt b 0] (fun w=>RdC ⟨w,fps (.blk b s 46::W0)⟩ s [.slice none 0 0])
   (.blk b s 46::W0) (fun _ V=>V = .blk b s 46::Wx):=by
 refine ad Tryz.func88 rfl rfl rfl fun w hr=>?_
 have h1:=hr
 have hl0:=fun x=>ae 6 x
 repeat (first|refine fI (v:=s) (by rfl) fd hs (by rfl) (by rfl) ?_|refine uv ?_|refine Z82 fun _=>?_)
 refine az (ι:=Unit) (fun _=>True) (fun _=>[(0,.func (.yield r) #[] #[]),(7,s),(8,N .i64 1),(9,N .i64 0)]) (fun _=>.blk b s 46::W0) (fun _=>0) () trivial sbq (SubW.all _) ?_
 rintro⟨⟩ _
 repeat (first|refine rQ (id:=4) (m:=0) ?_|refine fH (v:=.slice none 0 0) (by rfl) (RdW.old h1) (by rfl) (by rfl) (by rfl) ?_|refine af (by rfl) (by rfl) (by rfl) (w4) (fun _ _=>trivial) (by rfl) ?_|(refine dV ?_;intro _)|refine P9 ?_|refine Z82 fun _=>?_)
 refine lw (d:=18) (v:=.func (.yield r) #[] #[]) (by rfl) (by rfl) ?_ ?_
 ·refine nE (by rfl) (by rfl) ?_
  exact jJ fun _ _ ha hw=>wpList_nil ⟨rfl,ha,hw⟩
 refine lw (d:=19) (v:=HE 0 0 false) (by rfl) (by rfl) ?_ ?_
 ·refine db (m:=12) (by rfl) fd (by rfl) (by rfl) (by first|with_reducible assumption|simp) (by rfl) ?_
  exact jJ fun _ _ ha hw=>wpList_nil ⟨rfl,ha,hw⟩
 refine lw (d:=20) (v:=N .i64 200) (by rfl) (by rfl) ?_ ?_
 ·refine nE (by rfl) (by rfl) ?_
  exact jJ fun _ _ ha hw=>wpList_nil ⟨rfl,ha,hw⟩
 refine lw (d:=21) (v:=.bool false) (by rfl) (by rfl) ?_ ?_
 ·refine rY (r:=false) (by rfl) (by rfl) (Gm (by first | (simp only[D7];done) | (simp only[D7];omega))) (by rfl) ?_
  exact jJ fun _ _ ha hw=>wpList_nil ⟨rfl,ha,hw⟩
 refine nF (x9 _ _ _) ?_
 refine yW (vs:=[HE 0 0 false,.bool false]) (by rfl) (by rfl) hY (Split.self _ _) (by rfl) ?_
 rintro v V ⟨hv,hV⟩
 subst hv
 rw[hV]
 refine nF (tF _ _ _) ?_
 refine dZ (l':=[(22,.bool false),(0,.func (.yield r) #[] #[])]) sbq (SubW.self _ _) ?_
 refine lw (d:=23) (v:=.bool true) (by rfl) (by rfl) ?_ ?_
 ·refine v4 (by rfl) (by rfl) ?_
  exact jJ fun _ _ ha hw=>wpList_nil ⟨rfl,ha,hw⟩
 refine Jt ?_
 repeat (first|refine uv ?_|refine Z82 fun _=>?_)
 refine Jy (by rfl) fun _ hw=>aa hw (Wout:=.blk b s 46::Wx) (SubW.all _) rfl
set_option maxHeartbeats 8000000 in
theorem Lk(s1 s2 s3 tg:Value)(hs1:s1.oneCell'=true)(m:Value):
  Spec Tryz.prog 23 [s1,s2,s3,tg] (fun w=>Rd w s1 [.slice none 0 0]∧Rd w s2 [m]) [] (IsV (.bool false)):=by
 refine xV Tryz.func23 rfl rfl rfl fun w hr0=>?_
 have h1:=RdC.mk0 hr0.1
 have h3:=RdC.mk0 hr0.2
 have hl0:=fun x=>ae 6 x
 have hlk:([.slice none 0 0]:List Value).length=1:=rfl
 have hlm:([m]:List Value).length=1:=rfl
 have aK:=tj s1 hs1
 repeat (first|refine y_5 ?_|(refine ax (by rfl) (by rfl) (by rfl) (aK) .nil (fun _ _=>trivial) (by rfl) ?_;rintro _ _ ⟨b,rfl,rfl⟩)|rw[hlk]|rw[hlm]|refine pq ?_|refine Z82 fun _=>?_|refine Z84 fun _=>?_|refine Z85 fun _=>?_)
 rename_i p8 p9
 refine dZ (l':=[(23,.func (.func 88) #[] #[pt b 0]),(8,pt p8 0),(9,pt p9 0)])
  (W':=[.blk b s1 46,.blk p8 (.bool false) 4]) sbq sw ?_
 refine nG (caps:=[pt b 0]) (by rfl) fun r0 D fn tm rec hrec hsz htm=>?_
 refine⟨_,_,[.ob D (.deferred (some []))],_,Ay r0 b s1 hs1 [.ob r0 (rec .ready none),.blk p8 (.bool false) 4] [.ob r0 (rec .done (some .ret)),.blk p8 (.bool false) 4] ?_,?_,?_,?_⟩
 ·refine xT hrec htm hsz (by rfl) (by rfl) fun w'=>?_
  refine t8 (l':=[(24,HE 0 0 false),(25,.bool false),(8,pt p8 0),(9,pt p9 0)]) sbq ?_
  refine l9 (eE (fun _ _ h=>h) (by rfl) ?_)
  repeat (first|(refine dV ?_;intro _)|refine Qa ?_|refine Z82 fun _=>?_|refine Z84 fun _=>?_|refine Z85 fun _=>?_)
  refine iB ?_
  refine eE (fun _ _ h=>h) (by rfl) ?_
  repeat (first|refine pq ?_|refine Z82 fun _=>?_|refine Z84 fun _=>?_|refine Z85 fun _=>?_)
  refine iB ?_
  refine yE hrec fd ?_
  refine yC (l9 (l9 (eE (fun _ _ h=>h) (by rfl) ?_)))
  repeat (first|refine Qb ?_|refine Z82 fun _=>?_|refine Z84 fun _=>?_|refine Z85 fun _=>?_)
  refine iB (vX (by rfl) (l9 (eE (fun _ _ h=>h) (by rfl) ?_)))
  repeat (first|refine pq ?_|refine Z82 fun _=>?_|refine Z84 fun _=>?_|refine Z85 fun _=>?_)
  refine iB (SR ?_)
  refine Ju (SQ ?_)
  exact Fv hrec fd fun _ hw=>aa hw (Wout:=[.ob r0 (rec .done (some .ret)),.blk p8 (.bool false) 4]) (by exact sw) ⟨rfl,rfl⟩
 ·exact .cons fd (.cons fd (.cons fd .nil))
 ·intro w1 hw1
  exact h1.toWin (R:=[.ob D (.deferred (some []))]) hw1 (.cons fd (.cons fd (.cons fd .nil)))
 ·rintro v _ rfl
  refine .inr ⟨.done,.ret,_,by simp,fd,?_⟩
  refine JG ?_
  exact C6 (D:=D) (by rfl) (by rfl) (by rfl) (by rfl) fd fd fun _ hw=>aa hw SubW.nil ⟨rfl,rfl⟩
end
section
attribute [local irreducible] Code.wp wpList Af bodyPost L.Go
open Num
theorem Iu{a:F2}{z:Fq}(h0:Kf.K2.bX a≠0)(hz:z*z = -Kf.K2.bX a):Kf.K2.gA a=false:=by
 have h1:Kf.isq (-Kf.K2.bX a)=true:=(Kf.cb p_3).2 ⟨z,hz⟩
 rw[Kf.fS p_3 h0]at h1
 rw[Kf.K2.fD p_3]
 simpa using h1
theorem q8{u x1 x y t:F2}{z:Fq}(ht:Kf.K2.mul t (tz (wz u))=Kf.K2.one)(hx1:x1=Kf.K2.mul (k2 1267429692486861341248966778149702982909679559647352497021818409772610022655431990406851082557521626945333186310595 2734979862734806052168823047586201173647203260291655388310239726351421627835405874035836546571494037092561086249192) (Kf.K2.add Kf.K2.one t))(hn:Kf.K2.bX (co x1)≠0)(hz:z*z = -Kf.K2.bX (co x1))(hx:x=Kf.K2.mul (wz u) x1)(hy:Kf.K2.mul y y=co x)(hs:Kf.K2.sgn y=Kf.K2.sgn u):i5 u=(x,y):=by
 have h0:¬tz (wz u)=Kf.K2.zero:=fun e=>by
  rw[e,Kf.K2.aj]at ht
  exact Kf.K2.jt p_3 ht.symm
 have hi:Kf.K2.inv (tz (wz u))=t:=by
  have:=Kf.K2.dw p_3 h0 ht
  rwa [Kf.K2.aR]at this
 have e1:=Bs (w:=wz u) (t:=tz (wz u)) rfl h0
 rw[hi,N5,← hx1]at e1
 have e2:(cV (Kf.K2.sgn u) x1).2=false:=by rw[qc];exact Iu hn hz
 have e3:=yn hy hs
 have:=vq (u:=u) rfl e1.symm rfl e2 rfl
 rw[← hx,e3]at this
 exact this
end
end Go.Proofs.YtndhfbecpghinaaGreat.L
