/- What the proof of the statement about TopTogether stands on, part B. Conditions: as each statement says. -/
import Derived.Test.YtndhfbecpghinaaGreatTopTogetherA
import Derived.KernelRfl
import Derived.Laws.BytesArg
import Derived.Laws.Strings
import Derived.Scope
import Derived.Tactics
import Derived.Test.YtndhfbecpghinaaGreatProg
namespace Go.Proofs.YtndhfbecpghinaaGreat.Num
theorem Es{a b d e H:Nat}(h1:e<18446744073709551616)(h2:b+e/4294967296<18446744073709551616)(h3:(b+e/4294967296)%4294967296+d<18446744073709551616)
  (h4:a+(b+e/4294967296)/4294967296+((b+e/4294967296)%4294967296+d)/4294967296=H) (h5:H<18446744073709551616):
  ((a%18446744073709551616+(b%18446744073709551616+e%18446744073709551616/4294967296)%18446744073709551616/4294967296)%18446744073709551616 +
   ((b%18446744073709551616+e%18446744073709551616/4294967296)%18446744073709551616%4294967296+d%18446744073709551616)%18446744073709551616/4294967296)%18446744073709551616=H:=by
 have hb:b<18446744073709551616:=Nat.lt_of_le_of_lt (Nat.le_add_right _ _) h2
 have hd:d<18446744073709551616:=Nat.lt_of_le_of_lt (Nat.le_add_left _ _) h3
 have h6:a+(b+e/4294967296)/4294967296<18446744073709551616:=Nat.lt_of_le_of_lt (Nat.le_add_right _ _) (h4 ▸ h5)
 have ha:a<18446744073709551616:=Nat.lt_of_le_of_lt (Nat.le_add_right _ _) h6
 rw[Nat.mod_eq_of_lt h1,Nat.mod_eq_of_lt hb,Nat.mod_eq_of_lt h2,Nat.mod_eq_of_lt hd,Nat.mod_eq_of_lt h3,Nat.mod_eq_of_lt ha,Nat.mod_eq_of_lt h6,h4,Nat.mod_eq_of_lt h5]
def bb:Nat:=4294967296
theorem Cv{u u1 v1 v0:Nat}(hv1:0<v1)(h1:u1<4294967296):(u*4294967296+u1)/(v1*4294967296+v0)≤u/v1:=by
 rw[Nat.le_div_iff_mul_le hv1]
 have h:=Nat.div_mul_le_self (u*4294967296+u1) (v1*4294967296+v0)
 generalize (u*4294967296+u1)/(v1*4294967296+v0)=q at *
 rw[Nat.mul_add q,← Nat.mul_assoc q v1]at h
 omega
theorem W4{A B r u u1:Nat}(h:A+r=u)(h2:r*4294967296+u1<B):u*4294967296+u1<A*4294967296+B:=by
 subst h;rw[Nat.add_mul,Nat.add_assoc];exact Nat.add_lt_add_left h2 _
theorem kP{u u1 v1 v0 q r:Nat}(hu:u<v1*4294967296+v0)(hqr:q*v1+r=u)(h1:u1<4294967296)(hc:4294967296≤q∨r*4294967296+u1<q*v0):
  (u*4294967296+u1)/(v1*4294967296+v0)<q:=by
 have hp:0<v1*4294967296+v0:=by omega
 rw[Nat.div_lt_iff_lt_mul hp]
 rcases hc with hc | hc
 ·have h2:=Nat.mul_le_mul_right (v1*4294967296+v0) hc
  have h3:=Nat.mul_le_mul_left 4294967296 (show u+1≤v1*4294967296+v0 from hu)
  omega
 ·rw[Nat.mul_add q,← Nat.mul_assoc q v1]
  exact W4 hqr hc
theorem gJ{u u1 v1 v0 q r:Nat}(hp:0<v1*4294967296+v0)(hqr:q*v1+r=u)(hc:q*v0≤r*4294967296+u1)(hq:(u*4294967296+u1)/(v1*4294967296+v0)≤q):
  q=(u*4294967296+u1)/(v1*4294967296+v0):=by
 refine Nat.le_antisymm ?_ hq
 rw[Nat.le_div_iff_mul_le hp,Nat.mul_add q,← Nat.mul_assoc q v1]
 omega
theorem jA{u u1 v1 v0 q r:Nat}(hv0:v0<4294967296)(hu:u<v1*4294967296+v0)(hqr:q*v1+r=u)(hr:4294967296≤r):q*v0≤r*4294967296+u1:=by
 have hq:q≤4294967296:=by
  rcases Nat.lt_or_ge 4294967296 q with h | h
  ·exfalso
   have h2:=Nat.mul_le_mul_right v1 (show 4294967297≤q from h)
   omega
  ·exact h
 have h3:q*v0≤4294967296*4294967296:=Nat.mul_le_mul hq (by omega)
 have h4:4294967296*4294967296≤r*4294967296:=Nat.mul_le_mul_right _ hr
 omega
theorem Cw{u u1 y:Nat}(hu:u<y)(h1:u1<4294967296):(u*4294967296+u1)/y<4294967296:=by
 rw[Nat.div_lt_iff_lt_mul (by omega)]
 have:=Nat.mul_le_mul_left 4294967296 (show u+1≤y from hu)
 omega
theorem Lh{u u1 u0 y:Nat}(hy:0<y):
  ((u*4294967296+u1)/y)*4294967296+(((u*4294967296+u1)%y)*4294967296+u0)/y=(u*18446744073709551616+(u1*4294967296+u0))/y ∧
  (((u*4294967296+u1)%y)*4294967296+u0)%y=(u*18446744073709551616+(u1*4294967296+u0))%y:=by
 have h1:=Nat.div_add_mod (u*4294967296+u1) y
 have h2:=Nat.div_add_mod (((u*4294967296+u1)%y)*4294967296+u0) y
 have h3:=Nat.mod_lt (((u*4294967296+u1)%y)*4294967296+u0) hy
 obtain⟨a,ha⟩:∃a,a=(u*4294967296+u1)/y:=⟨_,rfl⟩
 obtain⟨b,hb⟩:∃b,b=(u*4294967296+u1)%y:=⟨_,rfl⟩
 rw[← ha,← hb]at h1
 rw[← hb]at h2 h3
 rw[← ha,← hb]
 obtain⟨d,hd⟩:∃d,d=(b*4294967296+u0)/y:=⟨_,rfl⟩
 obtain⟨e,he⟩:∃e,e=(b*4294967296+u0)%y:=⟨_,rfl⟩
 rw[← hd,← he]at h2
 rw[← he]at h3
 rw[← hd,← he]
 have e1:u*18446744073709551616+(u1*4294967296+u0)=y*(a*4294967296+d)+e:=by
  rw[Nat.mul_add y,← Nat.mul_assoc y a]
  omega
 rw[e1]
 have e2:(y*(a*4294967296+d)+e)/y=a*4294967296+d:=by rw[Nat.mul_add_div hy,Nat.div_eq_of_lt h3,Nat.add_zero]
 have e3:(y*(a*4294967296+d)+e)%y=e:=by rw[Nat.mul_add_mod y,Nat.mod_eq_of_lt h3]
 exact⟨e2.symm,e3.symm⟩
theorem Il{hi lo y s:Nat}(hy:hi<y)(hlo:lo<18446744073709551616)(hs:s≤64):
  (hi*2^s+lo/2^(64-s))*18446744073709551616+lo*2^s%18446744073709551616=(hi*18446744073709551616+lo)*2^s∧hi*2^s+lo/2^(64-s)<y*2^s:=by
 have hW:(18446744073709551616:Nat)=2^(64-s)*2^s:=by rw[← Nat.pow_add,show 64-s+s=64 by omega]
 have hq:lo*2^s/18446744073709551616=lo/2^(64-s):=by rw[hW,Nat.mul_div_mul_right _ _ (Nat.two_pow_pos s)]
 have hd:=Nat.div_add_mod (lo*2^s) 18446744073709551616
 rw[hq]at hd
 have hl:lo/2^(64-s)<2^s:=by
  rw[Nat.div_lt_iff_lt_mul (Nat.two_pow_pos _),Nat.mul_comm,← hW];exact hlo
 have hm:=Nat.mul_le_mul_right (2^s) (show hi+1≤y from hy)
 rw[Nat.add_mul,Nat.one_mul]at hm
 refine⟨?_,by omega⟩
 rw[Nat.add_mul,Nat.add_mul (hi*18446744073709551616),show hi*18446744073709551616*2^s=hi*2^s*18446744073709551616 by rw[Nat.mul_assoc,Nat.mul_comm 18446744073709551616,Nat.mul_assoc],Nat.add_assoc,Nat.mul_comm (lo/2^(64-s)),hd]
theorem Mb{a b s:Nat}(hb:b<2^s):a*2^s ||| b=a*2^s+b:=by
 rw[Nat.mul_comm,Nat.two_pow_add_eq_or_of_lt hb]
theorem yW{a b c d:Nat}(h:a+b=c+d)(hd:d<18446744073709551616):
  ((a%18446744073709551616+b)%18446744073709551616+(18446744073709551616-c%18446744073709551616%18446744073709551616))%18446744073709551616=d:=by
 have e1:(a%18446744073709551616+b)%18446744073709551616=(a+b)%18446744073709551616:=by omega
 rw[e1,h];omega
theorem ud{a c d:Nat}(h:a=c+d)(hd:d<18446744073709551616):
  (a+(18446744073709551616-c%18446744073709551616%18446744073709551616))%18446744073709551616=d:=by
 subst h;omega
theorem nJ{q:Nat}(h:0<q)(hq:q<18446744073709551616):(q+(18446744073709551616-1%18446744073709551616))%18446744073709551616=q-1:=by omega
theorem fw(a b:Nat):a=a/b*b+a%b:=by rw[Nat.mul_comm];exact(Nat.div_add_mod a b).symm
def bl(x:Nat):Nat:=if x=0 then 0 else x.log2+1
theorem K9(x:Nat)(h:0<x):x<2^bl x∧2^(bl x-1)≤x∧0<bl x:=by
 unfold bl
 rw[if_neg (by omega)]
 exact⟨Nat.lt_log2_self,by simpa using Nat.log2_self_le (by omega),by omega⟩
theorem gO(x k:Nat)(h:2^k≤x):bl x=k+bl (x >>> k):=by
 have hp:0<2^k:=Nat.two_pow_pos k
 have hq:0<x/2^k:=Nat.div_pos h hp
 have hx:x≠0:=by omega
 rw[Nat.shiftRight_eq_div_pow]
 unfold bl
 rw[if_neg hx,if_neg (by omega)]
 have h1:=Nat.log2_self_le (show x/2^k≠0 by omega)
 have h2:x/2^k<2^((x/2^k).log2+1):=Nat.lt_log2_self
 have e:x.log2=(x/2^k).log2+k:=(Nat.log2_eq_iff hx).2
  ⟨by rw[Nat.pow_add];exact(Nat.le_div_iff_mul_le hp).1 h1,by rw[show(x/2^k).log2+k+1=((x/2^k).log2+1)+k by omega,Nat.pow_add];exact(Nat.div_lt_iff_lt_mul hp).1 h2⟩
 omega
theorem ll(x k:Nat)(h:x<2^k):bl x≤k:=by
 unfold bl
 split
 ·omega
 ·rename_i h0
  have:=(Nat.log2_lt h0).2 h
  omega
attribute [irreducible] bl
theorem EM{X M a b t n:Nat}(hM:M<t*W^n)(hX:(a*W+b)*W^n≤X):(a*W+b)/t*M≤X:=by
 refine Nat.le_trans ?_ hX
 refine Nat.le_trans (Nat.mul_le_mul_left _ (Nat.le_of_lt hM)) ?_
 rw[← Nat.mul_assoc]
 exact Nat.mul_le_mul_right _ (Nat.div_mul_le_self _ _)
theorem Ft(X n:Nat):((X/W^(n+1)%W)*W+X/W^n%W)*W^n≤X:=by
 have h:(X/W^(n+1)%W)*W+X/W^n%W≤X/W^n:=by
  have e:X/W^(n+1)=X/W^n/W:=by rw[Nat.pow_succ,Nat.div_div_eq_div_mul]
  rw[e]
  generalize X/W^n=z
  simp only[W]
  omega
 exact Nat.le_trans (Nat.mul_le_mul_right _ h) (Nat.div_mul_le_self _ _)
theorem JQ{M n:Nat}(hM:M<W^(n+1)):M<(M/W^n%W+1)*W^n:=by
 have hp:=bP n
 have h1:M/W^n<W:=by
  rw[Nat.div_lt_iff_lt_mul hp]
  rw[Nat.pow_succ,Nat.mul_comm]at hM;exact hM
 rw[Nat.mod_eq_of_lt h1]
 have:=Nat.lt_div_mul_add hp (a:=M)
 rw[Nat.add_mul,Nat.one_mul];exact this
theorem L4{X M q:Nat}(h:q*M≤X):(X-q*M)%M=X%M:=by
 have e:X=(X-q*M)+M*q:=by rw[Nat.mul_comm M q];omega
 conv=>rhs;rw[e]
 rw[Nat.add_mul_mod_self_left]
theorem Ay(q M i:Nat):(q*(M/W^i%W))+(q*(M%W^i))/W^i=q*(M%W^(i+1))/W^i:=by
 rw[cX,Nat.mul_add,show q*(W^i*(M/W^i%W))=W^i*(q*(M/W^i%W)) by rw[← Nat.mul_assoc,Nat.mul_comm q,Nat.mul_assoc],Nat.add_mul_div_left _ _ (bP i)]
 omega
theorem Et(q M i:Nat):q*(M%W^(i+1))/W^(i+1)=((q*(M/W^i%W))+(q*(M%W^i))/W^i)/W:=by
 rw[Ay,Nat.pow_succ,← Nat.div_div_eq_div_mul]
theorem Eu(q M i:Nat):(q*M)/W^i%W=((q*(M/W^i%W))+(q*(M%W^i))/W^i)%W:=by
 have hp:=bP i
 have e:q*M=q*(M%W^i)+W^i*(q*(M/W^i)):=by
  have:=pW M (W^i)
  conv=>lhs;rw[← this]
  rw[Nat.mul_add,← Nat.mul_assoc,Nat.mul_comm q (W^i),Nat.mul_assoc]
 rw[e,Nat.add_mul_div_left _ _ hp,Nat.add_comm]
 rw[Nat.add_mod,Nat.mul_mod,← Nat.mod_mod (M/W^i) W,← Nat.mul_mod,← Nat.add_mod]
 simp
theorem L7(q M i:Nat)(hq:q<W):q*(M%W^i)/W^i<W:=by
 rw[Nat.div_lt_iff_lt_mul (bP i)]
 exact Nat.mul_lt_mul_of_lt_of_le hq (Nat.le_of_lt (Nat.mod_lt _ (bP i))) (bP i)
theorem uw{P:List Nat}{n v:Nat}(h:Lt 18446744073709551616 P)(hl:P.length=n)(hv:V P=v):P=D n v:=by
 rw[← hv,← hl,D_V h]
theorem Fp{X q M i L:Nat}{ls:List Nat}(hls:Lt 18446744073709551616 ls)(_:ls.length=L)(hX:V ls=X)(_:i<L):(D i (sb X (q*M) i)++ls.drop i).getD i 0=X/W^i%W:=by
 have h:=ae i (sb X (q*M) i)
 rw[List.getD_eq_getElem?_getD,List.getElem?_append_right (by omega),h,Nat.sub_self,List.getElem?_drop,Nat.add_zero,← List.getD_eq_getElem?_getD,cP hls,hX]
theorem JI{X Y i L y:Nat}{ls:List Nat}(hl:ls.length=L)(hi:i<L)(hy:y=(X/W^i%W+18446744073709551616-Y/W^i%W-bw X Y i)%18446744073709551616):
  (D i (sb X Y i)++ls.drop i).set i y=D (i+1) (sb X Y (i+1))++ls.drop (i+1):=by
 have h:=ae i (sb X Y i)
 rw[List.set_append_right _ _ (by omega),h,Nat.sub_self,List.drop_eq_getElem_cons (by omega),List.set_cons_zero,yK,hy,List.append_assoc];rfl
theorem JH{X Y L:Nat}(h:Y≤X)(hX:X<W^L):D L (sb X Y L)=D L (X-Y):=by
 unfold sb
 rw[Nat.mod_eq_of_lt hX,Nat.mod_eq_of_lt (by omega),show X+W^L-Y=(X-Y)+W^L by omega,← mh,Nat.add_mod_right,mh]
theorem EW{ls:List Nat}{L a:Nat}(_:ls.length=L+1)(h:Lt 18446744073709551616 ls)(hv:V ls<W^L):V (a::ls.take L)=a+W*V ls:=by
 rw[fq,dc,← fq,FU h,Nat.mod_eq_of_lt hv]
theorem H7(A M i:Nat):(A/W^i%W+W*(A/W^(i+1)%M))%M=A/W^i%M:=by
 conv=>rhs;rw[mD A i]
 rw[Nat.add_comm,Nat.add_mod,Nat.mul_mod,Nat.mod_mod,← Nat.mul_mod,← Nat.add_mod]
theorem R9{a b t:Nat}(ha:a<t)(hb:b<18446744073709551616):(a*18446744073709551616+b)/t<18446744073709551616:=by
 rw[Nat.div_lt_iff_lt_mul (by omega)]
 have:=Nat.mul_le_mul_left 18446744073709551616 (show a+1≤t from ha)
 omega
theorem Hn{ms:List Nat}(hm:Lt 18446744073709551616 ms){n:Nat}(ht:ms.getD (n-1) 0≠0):W^(n-1)≤V ms:=by
 have h:=cP hm (n-1)
 rcases Nat.lt_or_ge (V ms) (W^(n-1))with h1 | h1
 ·rw[Nat.div_eq_of_lt h1]at h;exact absurd (by simpa using h) ht
 ·exact h1
end Go.Proofs.YtndhfbecpghinaaGreat.Num
namespace Go.Proofs.YtndhfbecpghinaaGreat.Num
theorem qb:W=256^8:=by decide
theorem FB(A k:Nat):(A/W^(k/8)%W) >>> (8*(k%8))%256=A/256^k%256:=by
 have hk:=Nat.div_add_mod k 8
 have hr:k%8<8:=Nat.mod_lt _ (by decide)
 have e1:A/256^k=A/W^(k/8)/256^(k%8):=by
  conv=>lhs;rw[← hk,Nat.pow_add,Nat.pow_mul,← qb,← Nat.div_div_eq_div_mul]
 rw[e1]
 generalize A/W^(k/8)=z
 have e2:2^(8*(k%8))=256^(k%8):=by rw[Nat.pow_mul]
 rw[Nat.shiftRight_eq_div_pow,e2]
 have e3:W=256^(k%8)*(256*256^(7-k%8)):=by
  rw[qb,← Nat.pow_succ',← Nat.pow_add,show k%8+(7-k%8+1)=8 by omega]
 rw[e3,Nat.mod_mul_right_div_self,Nat.mod_mul_right_mod]
def bz(A n:Nat):List Nat:=(List.range n).map fun i=>A/256^(n-1-i)%256
theorem aD(A n:Nat):(bz A n).length=n:=by simp[bz]
theorem vw(A n:Nat):Lt 256 (bz A n):=by
 intro x hx
 simp only[bz,List.mem_map]at hx
 obtain⟨i,_,rfl⟩:=hx
 exact Nat.mod_lt _ (by decide)
theorem oi(A n i:Nat)(h:i<n):(bz A n).getD i 0=A/256^(n-1-i)%256:=by
 simp[bz,List.getD_eq_getElem?_getD,h]
def bC(bs:List Nat):Nat:=val 256 bs.reverse
theorem uC{bs:List Nat}(h:Lt 256 bs):bC bs<256^bs.length:=by
 have:Lt 256 bs.reverse:=fun x hx=>h x (List.mem_reverse.1 hx)
 have:=ap (by decide) this
 simpa[bC]using this
theorem zQ{bs:List Nat}(h:Lt 256 bs){i:Nat}(hi:i<bs.length):bC bs/256^(bs.length-1-i)%256=bs.getD i 0:=by
 have h':Lt 256 bs.reverse:=fun x hx=>h x (List.mem_reverse.1 hx)
 have:=xd h' (bs.length-1-i)
 rw[bC,← this,List.getD_eq_getElem?_getD,List.getD_eq_getElem?_getD,List.getElem?_reverse (by omega),show bs.length-1-(bs.length-1-i)=i by omega]
theorem tB(A n:Nat)(h:A<256^n):bC (bz A n)=A:=by
 have e:(bz A n).reverse=dig 256 n A:=by
  apply List.ext_getElem?
  intro i
  rcases Nat.lt_or_ge i n with hi | hi
  ·have h1:=xb (B:=256) n A i hi
   have h2:=oi A n (n-1-i) (by omega)
   have hl:=aD A n
   have hd:=uM (B:=256) n A
   rw[List.getElem?_reverse (by omega),hl]
   rw[List.getD_eq_getElem?_getD,List.getElem?_eq_getElem (by omega)]at h1 h2
   rw[List.getElem?_eq_getElem (by omega),List.getElem?_eq_getElem (by omega)]
   simp only[Option.getD_some]at h1 h2
   rw[h1,h2,show n-1-(n-1-i)=i by omega]
  ·rw[List.getElem?_eq_none (by simp[aD];omega),List.getElem?_eq_none (by simp[uM];omega)]
 rw[bC,e,C5,Nat.mod_eq_of_lt h]
attribute [irreducible] bz bC
def hi8(Y k:Nat):Nat:=Y-Y%256^k
theorem xp(Y k:Nat):hi8 Y k=hi8 Y (k+1)+256^k*(Y/256^k%256):=by
 unfold hi8
 have h:=lp (B:=256) Y k
 have h1:=Nat.mod_le Y (256^(k+1))
 rw[h]at h1 ⊢
 omega
theorem LC{Y n:Nat}(h:Y<256^n):hi8 Y n=0:=by unfold hi8;rw[Nat.mod_eq_of_lt h];omega
theorem Uy(Y:Nat):hi8 Y 0=Y:=by simp[hi8,Nat.mod_one]
theorem LF(Y k:Nat):hi8 Y k=256^k*(Y/256^k):=by
 unfold hi8
 have:=pW Y (256^k)
 omega
theorem IT(Y k n:Nat)(hY:hi8 Y k<W^n)(hk:k<8*n):
  let w:=hi8 Y (k+1)/W^(k/8)%W
  let x:=Y/256^k%256
  (w ||| (x <<< (8*(k%8))%18446744073709551616))=w+x*256^(k%8)∧w+x*256^(k%8)<W ∧
  D n (hi8 Y k)=(D n (hi8 Y (k+1))).set (k/8) (w+x*256^(k%8)):=by
 intro w x
 have hkd:=Nat.div_add_mod k 8
 have hr:k%8<8:=Nat.mod_lt _ (by decide)
 have hx:x<256:=Nat.mod_lt _ (by decide)
 have e2:2^(8*(k%8))=256^(k%8):=by rw[Nat.pow_mul]
 have hw:w=256^(k%8+1)*(Y/256^(k+1)%256^(7-k%8)):=by
  show hi8 Y (k+1)/W^(k/8)%W=_
  rw[LF]
  have e3:256^(k+1)=W^(k/8)*256^(k%8+1):=by
   rw[qb,← Nat.pow_mul,← Nat.pow_add,show 8*(k/8)+(k%8+1)=k+1 by omega]
  have e4:256^(k+1)*(Y/256^(k+1))/W^(k/8)=256^(k%8+1)*(Y/256^(k+1)):=by
   conv=>lhs;rw[show 256^(k+1)*(Y/256^(k+1))=W^(k/8)*(256^(k%8+1)*(Y/256^(k+1))) by rw[← Nat.mul_assoc,← e3]]
   exact Nat.mul_div_cancel_left _ (bP _)
  rw[e4]
  have e5:W=256^(k%8+1)*256^(7-k%8):=by rw[qb,← Nat.pow_add,show k%8+1+(7-k%8)=8 by omega]
  rw[e5,Nat.mul_mod_mul_left]
 have hlt:w+x*256^(k%8)<W:=by
  have h1:Y/256^(k+1)%256^(7-k%8)+1≤256^(7-k%8):=Nat.mod_lt _ (Nat.pow_pos (by decide))
  have h2:=Nat.mul_le_mul_left (256^(k%8+1)) h1
  have e5:256^(k%8+1)*256^(7-k%8)=W:=by rw[qb,← Nat.pow_add,show k%8+1+(7-k%8)=8 by omega]
  rw[e5,Nat.mul_add,← hw,Nat.mul_one]at h2
  have h3:=Nat.mul_le_mul_right (256^(k%8)) (show x+1≤256 from hx)
  rw[Nat.add_mul,Nat.one_mul,← Nat.pow_succ']at h3
  have h4:0<256^(k%8):=Nat.pow_pos (by decide)
  have h5:k%8+1=(k%8).succ:=rfl
  rw[h5]at h2
  omega
 have hsl:x*256^(k%8)<256^(k%8+1):=by
  rw[Nat.pow_succ,Nat.mul_comm];exact Nat.mul_lt_mul_of_pos_left hx (Nat.pow_pos (by decide))
 refine⟨?_,hlt,?_⟩
 ·have hxl:x*256^(k%8)<18446744073709551616:=Nat.lt_of_le_of_lt (Nat.le_add_left _ _) hlt
  rw[Nat.shiftLeft_eq,e2,Nat.mod_eq_of_lt hxl,hw]
  have e6:256^(k%8+1)=2^(8*(k%8+1)):=by rw[Nat.pow_mul]
  rw[e6]at hsl ⊢
  rw[Nat.two_pow_add_eq_or_of_lt hsl]
 ·have hle:hi8 Y (k+1)<W^n:=Nat.lt_of_le_of_lt (by rw[xp Y k];exact Nat.le_add_right _ _) hY
  refine TH (dw _ _) ((dw _ _).set hlt _) (by simp[ae]) ?_
  have hvs:=NM (dw n (hi8 Y (k+1))) (k/8) (w+x*256^(k%8)) (by rw[ae];omega)
  rw[zy _ _ _ (by omega),eU hle]at hvs
  rw[eU hY,xp Y k]
  have e7:W^(k/8)*(x*256^(k%8))=256^k*x:=by
   rw[qb,← Nat.pow_mul,Nat.mul_comm x,← Nat.mul_assoc,← Nat.pow_add,hkd]
  have e10:W^(k/8)*(w+x*256^(k%8))=W^(k/8)*w+256^k*x:=by rw[Nat.mul_add,e7]
  have e8:W^(k/8)*(hi8 Y (k+1)/W^(k/8)%W)=W^(k/8)*w:=rfl
  rw[e10,e8]at hvs
  have e9:hi8 Y (k+1)+256^k*(Y/256^k%256)=hi8 Y (k+1)+256^k*x:=rfl
  rw[e9]
  generalize W^(k/8)*w=p1 at *
  generalize 256^k*x=p2 at *
  omega
end Go.Proofs.YtndhfbecpghinaaGreat.Num
namespace Go.Proofs.YtndhfbecpghinaaGreat.Num
theorem W_2:W=2^64:=by decide
theorem JV(A i:Nat):((A/W^(i/64)%W) >>> (i%64))%2=A/2^i%2:=by
 have hk:=Nat.div_add_mod i 64
 have hr:i%64<64:=Nat.mod_lt _ (by decide)
 have e1:A/2^i=A/W^(i/64)/2^(i%64):=by
  conv=>lhs;rw[← hk,Nat.pow_add,Nat.pow_mul,← W_2,← Nat.div_div_eq_div_mul]
 rw[e1]
 generalize A/W^(i/64)=z
 rw[Nat.shiftRight_eq_div_pow]
 have e3:W=2^(i%64)*(2*2^(63-i%64)):=by
  rw[W_2,← Nat.pow_succ',← Nat.pow_add,show i%64+(63-i%64+1)=64 by omega]
 rw[e3,Nat.mod_mul_right_div_self,Nat.mod_mul_right_mod]
theorem mw(A i:Nat):A/2^i=2*(A/2^(i+1))+A/2^i%2:=by
 have:=Nat.div_add_mod (A/2^i) 2
 rw[Nat.div_div_eq_div_mul,← Nat.pow_succ]at this
 exact this.symm
end Go.Proofs.YtndhfbecpghinaaGreat.Num
namespace Go.Proofs.YtndhfbecpghinaaGreat.L
open Go Go.Proofs
set_option maxRecDepth 100000
section
variable {P:Program} {c:Cx} {n:Nn} {l:Sl} {W:List Res} {B Q:Exit→Act→World→Prop}
theorem jc{x:Code}(h:Go c n l W (x.wp P (Af P (Exit.noGoto B) []))):Go c n l W ((Code.scope x).wp P (Af P B [])):=
 fun a w ha hw=>wp_scope_straight (wp_mono (h a w ha hw) fun e a w hq=>by cases e <;> exact hq)
theorem dg(h:Go c n l W (Q .ret)):Go c n l W (Exit.noGoto Q .ret):=h
variable {ops:Array Oper} {rest:List Oper} {d:Nat} {T:TypeId} {pos:String} {after:Array Edge}
theorem we{k:IntKind}{m:Nat}{x y:Operand}{a0 b0:Nat}{xt yt:TypeId}(hx:ev l x=some (N k a0))(hy:ev l y=some (N k b0))(hm:ub k=some m)(h0:0<b0)(hb:a0<m)
  (hn:Nat.blt d n.sz=true) (hk:Go c n ((d,N k (a0/b0))::l) W (wpList P ops Q rest)):
  Go c n l W (wpList P ops Q (⟨some d,.binOp .quo xt x y yt,T,pos,after,none⟩::rest)):=
 ax rfl rfl hn (fun a w ha _=>by
  have e:(a0:Int).tdiv b0=((a0/b0:Nat):Int):=by rw[Int.tdiv_eq_ediv_of_nonneg (by omega)];simp
  have hq:a0/b0≤a0:=Nat.div_le_self _ _
  have h:k.wrap ((a0:Int)/(b0:Int))=(a0:Int)/b0:=by
   have:=eM hm (a0/b0)
   rw[Nat.mod_eq_of_lt (by omega)]at this
   simpa using this
  have hz':¬(b0=0):=by omega
  simp[execOp,ha.ev hx,ha.ev hy,eqGuard,binOp,Op.intDiv,hz',e,h]) hk
theorem Ng{k:IntKind}{x y:Operand}{a0 b0:Nat}{xt yt:TypeId}(hx:ev l x=some (N k a0))(hy:ev l y=some (N k b0))(h0:0<b0)
  (hn:Nat.blt d n.sz=true) (hk:Go c n ((d,N k (a0%b0))::l) W (wpList P ops Q rest)):
  Go c n l W (wpList P ops Q (⟨some d,.binOp .rem xt x y yt,T,pos,after,none⟩::rest)):=
 ax rfl rfl hn (fun a w ha _=>by
  have e:(a0:Int).tmod b0=((a0%b0:Nat):Int):=by rw[Int.tmod_eq_emod_of_nonneg (by omega)];simp
  have hz':¬(b0=0):=by omega
  simp[execOp,ha.ev hx,ha.ev hy,eqGuard,binOp,Op.intDiv,hz',e]) hk
theorem vZ{x y:Operand}{s:ByteArray}{k:IntKind}{i:Nat}{t:TypeId}(f:Nat→Nat)(hx:ev l x=some (.string s))(hy:ev l y=some (N k i))(ht:P.underlying t=some .string)(hi:i<256)(hs:s.size=256)
  (hv:(List.range 256).all (fun j=>(s.data.getD j 0).toNat==f j)=true) (hn:Nat.blt d n.sz=true) (hk:Go c n ((d,N .u8 (f i))::l) W (wpList P ops Q rest)):
  Go c n l W (wpList P ops Q (⟨some d,.index t x y,T,pos,after,none⟩::rest)):=
 ax rfl rfl hn (fun a w ha _=>by
  have h:=run_index_string (P:=P) w t s k (Int.ofNat i) ht
  have h1:(0:Int)≤Int.ofNat i∧Int.ofNat i<s.size:=⟨Int.natCast_nonneg i,by rw[hs];show(i:Int)<256;omega⟩
  rw[dif_pos h1]at h
  have hf:=List.all_eq_true.1 hv i (List.mem_range.2 hi)
  have e:(s[(Int.ofNat i).toNat]'(by have:=h1.2;rw[hs]at this ⊢;simp at this ⊢;omega)).toNat=f i:=by
   rw[← eq_of_beq hf]
   have hd:i<s.data.size:=by have:s.data.size=s.size:=rfl;omega
   rw[Array.getD_eq_getD_getElem?,Array.getElem?_eq_getElem hd];rfl
  simp only[execOp,ha.ev hx,ha.ev hy,Sem.run_bind,h,Result.andThen_ok,e];rfl) hk
theorem v7(h:Go c n l W (Q .normal)):Go c n l W (Exit.noGoto Q .normal):=h
end
section
variable {P:Program} {c:Cx} {n:Nn} {l:Sl} {W:List Res} {B:Exit→Act→World→Prop} {k:List Fr}
theorem Fi{x:Code}(h:Go c n l W (x.wp P (Af P (Exit.noGoto (Af P B k)) []))):Go c n l W ((Code.scope x).wp P (Af P B k)):=
 fun a w ha hw=>wp_scope_straight (wp_mono (h a w ha hw) fun e a w hq=>by cases e <;> exact hq)
theorem A6(h:Go c n l W (B .ret)):Go c n l W (Exit.noGoto (Af P B k) .ret):=by
 show Go c n l W (Af P B k .ret)
 rw[qa];exact h
theorem W5{fn:Func}{t u v:Tmp}(h:fn.results = #[.tmp t,.tmp u,.tmp v])(tmps:Array Value)(P:Program)(w:World):
  (results fn tmps).run P w = .ok (.tuple #[tmps.getD t undef,tmps.getD u undef,tmps.getD v undef]) w:=by
 simp[results,h]
theorem Ze3{t u x:Nat}{fn:Func}{R:Ending→World→Prop}{v v' v2:Value}(hR:∀w,SatW c W w→R (.returned (.tuple #[v,v',v2])) w)
  (hres:fn.results = #[.tmp t,.tmp u,.tmp x]:=by rfl) (hv:lk l t=some v:=by rfl) (hv':lk l u=some v':=by rfl) (hv2:lk l x=some v2:=by rfl) (hD:n.df=[]:=by rfl):Go c n l W (bodyPost P fn R .ret):=
 fun a w ha hw=>bodyPost_ret (W5 hres _ _ _) (ha.dfr.trans hD) (by
  have h1:=ha.at_ t v hv
  have h2:=ha.at_ u v' hv'
  have h3:=ha.at_ x v2 hv2
  rw[Array.getD_eq_getD_getElem?,Array.getD_eq_getD_getElem?,Array.getD_eq_getD_getElem?,h1,h2,h3];exact hR w hw)
end
theorem RdC.subC{c:Cx}{s:Value}{k:IntKind}{ys:List Nat}{lo hi:Nat}(h:RdC c s (ys.map (N k)))(h1:lo≤hi)(h2:hi≤ys.length):RdC c (L.sub s lo hi) (((ys.take hi).drop lo).map (N k)):=by
 have hs:=h.rd.sub (lo:=lo) (hi:=hi) h1 (by simpa using h2)
 have e:((ys.map (N k)).take hi).drop lo=((ys.take hi).drop lo).map (N k):=by rw[← List.map_take,← List.map_drop]
 rw[e]at hs
 refine⟨hs,fun i hi'=>?_⟩
 obtain⟨a,cap,hse,hc,hn,hsp⟩:=h.rd.shape
 have hl:((ys.take hi).drop lo).length=hi-lo:=by simp;omega
 rw[List.length_map,hl]at hi'
 simp only[List.length_map]at hc hn hse
 have ho:=h.out (lo+i) (by simp;omega)
 subst hse
 cases a with
 | none=>have:=(hn rfl).1;simp at this;subst this;simp at h2;omega
 | some a0=>
  have hne:¬cap=lo:=by omega
  have hb:∀(x:Addr)(j:Nat),(x.add j).block=x.block:=fun x j=>by unfold Addr.add;split <;> rfl
  simp only[ea,hb]at ho
  simp only[L.sub,if_neg hne,Option.map_some,ea,hb]
  exact ho
section
variable {P:Program} {c:Cx} {n:Nn} {l:Sl} {W:List Res} {B:Exit→Act→World→Prop} {k:List Fr}
theorem fT{ι:Type}{id:Nat}{x:Code}(I:ι→Prop)(lm:ι→Sl)(Wm:ι→List Res)
  (h1:Go c n l W (x.wp P (Af P B (.blk id :: .inv (Met c n I lm Wm)::k))))
  (h2:∀j,I j→Go c n (lm j) (Wm j) (Af P B k .normal)):Go c n l W ((Code.block id x).wp P (Af P B k)):=
 fun a w ha hw=>wp_block (wp_mono (h1 a w ha hw) fun e a w hq=>by
  have key:∀a w,Met c n I lm Wm a w→Af P B k .normal a w:=fun a w ⟨j,hj,hA,hW⟩=>h2 j hj a w hA hW
  cases e with
  | exit id'=>
   simp only[Exit.inBlock]
   split
   ·rename_i h;exact key _ _ (hq.1 h)
   ·rename_i h;exact hq.2 h
  | normal=>exact key _ _ hq
  | _=>exact hq)
variable {ops:Array Oper} {Q:Exit→Act→World→Prop} {rest:List Oper} {d:Nat} {T:TypeId} {pos:String} {after:Array Edge}
theorem vX{x y:Operand}{s:Value}{xs:List Value}{lo:Nat}{dT sT E U:TypeId}{R:List Res}(hx:ev l x=some (sub s lo xs.length))(hy:ev l y=some s)(hf:Find W (.sl s xs U) R)(hlo:lo<xs.length)
  (ht:P.underlying dT=some (.slice E)) (hs:az P E=some 1) (hys:∀v∈xs,v.oneCell'=true) (hn:Nat.blt d n.sz=true)
  (hk:Go c n ((d,N .i64 (xs.length-lo))::l) (.sl s (xs.take lo++xs.take (xs.length-lo)) U::R) (wpList P ops Q rest)):
  Go c n l W (wpList P ops Q (⟨some d,.call { callee:=.builtin .copy,args:=#[x,y],argTypes:=#[dT,sT] },T,pos,after,none⟩::rest)):=
 ft rfl rfl hn (Φ:=fun u V=>u=N .i64 (xs.length-lo)∧V = .sl s (xs.take lo++xs.take (xs.length-lo)) U::R)
  (fun a w ha hw=>by
   have hY:=RdW.own (c:=c) hf w hw
   have hw:=hw.perm hf.perm
   rcases hw.holds _ (List.mem_cons_self ..)with⟨rfl,rfl⟩ | ⟨b,off,cap,pre,post,fz,hs'⟩
   ·simp at hlo
   ·obtain⟨rfl,g1,g2,g3,g4,g5⟩:=hs'
    have hfY:=eE (P:=P) hY (k:=xs.length-lo) (by omega)
    have hne:¬cap=lo:=by omega
    have hfz:¬fz.1<fz.2∨(pre++xs++post).length≤fz.1:=by
     by_cases hf:fz.1<fz.2
     ·exact .inr (g5 (by omega))
     ·exact .inl hf
    have hst:∀(vs:List Value)(i0:Nat)(cur:List Value)(w:World),w.heap[b]?=some (.cells cur.toArray U fz)→cur.length=(pre++xs++post).length→off+lo+i0+vs.length≤cur.length→(∀v∈vs,v.oneCell'=true) →
      (storeCells ⟨b,off+lo,none⟩ vs i0).run P w = .ok () (w.setRow b (cur.take (off+lo+i0)++vs++cur.drop (off+lo+i0+vs.length)).toArray):=by
     intro vs
     induction vs with
     | nil=>
      intro i0 cur w hh hl hle h1v
      simp only[List.append_nil,List.length_nil,Nat.add_zero,List.take_append_drop]
      rw[setRow_self w b _ U fz hh];rfl
     | cons v r ih=>
      intro i0 cur w hh hl hle h1v
      simp only[List.length_cons]at hle
      have hlt:off+lo+i0<cur.length:=by omega
      have hcell:w.cell? ⟨b,off+lo+i0,none⟩=some cur[off+lo+i0]:=by simp[World.cell?,hh,hlt]
      have hfro:w.frozen? ⟨b,off+lo+i0,none⟩=false:=by
       simp only[World.frozen?,hh]
       rcases hfz with h | h
       ·simp;omega
       ·simp;omega
      have hs1:(store ((⟨b,off+lo,none⟩:Addr).add i0) v).run P w = .ok () (w.setRow b (cur.set (off+lo+i0) v).toArray):=by
       rw[cv,run_store P w _ v _ (h1v v (by simp)),hcell]
       simp[hfro,setCell_eq_setRow w b _ cur.toArray U fz v hh]
      have hr:=ih (i0+1) (cur.set (off+lo+i0) v) (w.setRow b (cur.set (off+lo+i0) v).toArray) (setRow_heap w b _ _ U fz hh) (by simpa using hl) (by simp;omega) (fun u hu=>h1v u (by simp[hu]))
      have e:=list_seg_step cur (off+lo+i0) v r (by omega)
      simp only[storeCells,Sem.run_bind,hs1,Result.andThen_ok,hr,setRow_setRow]
      congr 3
    have htl:(xs.take (xs.length-lo)).length=xs.length-lo:=by simp
    have hst':=hst (xs.take (xs.length-lo)) 0 (pre++xs++post) w g4 rfl (by rw[htl];simp;omega) (fun v hv=>hys v (List.mem_of_mem_take hv))
    rw[htl]at hst'
    have hcur:(pre++xs++post).take (off+lo+0)++xs.take (xs.length-lo)++(pre++xs++post).drop (off+lo+0+(xs.length-lo))=pre++(xs.take lo++xs.take (xs.length-lo))++post:=by
     subst g3
     rw[show pre.length+lo+0+(xs.length-lo)=(pre++xs).length by simp;omega,List.drop_left' rfl,Nat.add_zero,List.append_assoc pre xs,List.take_append,List.take_of_length_le (by omega),Nat.add_sub_cancel_left,List.take_append_of_le_length (by omega)]
     simp
    rw[hcur]at hst'
    have hl2:(xs.take lo++xs.take (xs.length-lo)).length=xs.length:=by simp;omega
    refine⟨_,_,_,?_,cc hw (r':=.sl (.slice (some ⟨b,off,none⟩) xs.length cap) (xs.take lo++xs.take (xs.length-lo)) U) rfl rfl g4 (fun w' h=>.inr ⟨b,off,cap,pre,post,fz,by rw[hl2],by rw[hl2];exact g1,by rw[hl2];exact g2,g3,h,fun hf=>by have:=g5 (by omega);simp only[List.length_append,hl2]at this ⊢;exact this⟩),rfl,rfl⟩
    have hlenY:(Builtin.lenOf (Value.slice (some ⟨b,off,none⟩) xs.length cap)).run P w = .ok xs.length w:=rfl
    have hmin:min xs.length (xs.length-lo)=xs.length-lo:=by omega
    simp[execOp,ha.ev hx,ha.ev hy,resolve,invoke,builtin,Builtin.copy_,run_underlying ht,ar hs,hlenY,sub,hne,cv,hmin,hfY,hst',goInt])
  (fun u V ⟨hu,hV⟩=>by subst hu;subst hV;exact hk)
theorem sK{x y:Operand}{s:Value}{kk:IntKind}{xs:List Nat}{lo:Nat}{dT sT E U:TypeId}{R:List Res}(hx:ev l x=some (sub s lo xs.length))(hy:ev l y=some s)(hf:Find W (.sl s (xs.map (N kk)) U) R)(hlo:lo<xs.length)
  (ht:P.underlying dT=some (.slice E)) (hs:az P E=some 1) (hn:Nat.blt d n.sz=true)
  (hk:Go c n ((d,N .i64 (xs.length-lo))::l) (.sl s ((xs.take lo++xs.take (xs.length-lo)).map (N kk)) U::R) (wpList P ops Q rest)):
  Go c n l W (wpList P ops Q (⟨some d,.call { callee:=.builtin .copy,args:=#[x,y],argTypes:=#[dT,sT] },T,pos,after,none⟩::rest)):=
 vX (xs:=xs.map (N kk)) (lo:=lo) (by simpa using hx) hy hf (by simpa using hlo) ht hs (by simp[Value.oneCell']) hn (by simpa[List.map_take]using hk)
end
section
attribute [local irreducible] Code.wp wpList Af bodyPost L.Go
open Num
theorem zJ(x y c:Nat)(hc:c≤1):DK Tryz.prog 99 [N .u64 x,N .u64 y,N .u64 c] (.tuple [N .u64 ((x+y+c)%18446744073709551616),N .u64 ((x+y+c)/18446744073709551616)].toArray):=
 DW Tryz.func99 (by kernel_rfl) (by kernel_rfl) (by kernel_rfl) (by kernel_rfl) x y c hc
theorem wh(x y c:Nat)(hc:c≤1):DK Tryz.prog 104 [N .u64 x,N .u64 y,N .u64 c] (.tuple [N .u64 ((x+18446744073709551616-y-c)%18446744073709551616),N .u64 (if x<y+c then 1 else 0)].toArray):=
 DX Tryz.func104 (by kernel_rfl) (by kernel_rfl) (by kernel_rfl) (by kernel_rfl) x y c hc
theorem K4(x y:Nat):DK Tryz.prog 99 [N .u64 x,N .u64 y,N .u64 0] (.tuple [N .u64 ((x+y)%18446744073709551616),N .u64 ((x+y)/18446744073709551616)].toArray):=zJ x y 0 (by decide)
theorem F1(x:Nat):x%18446744073709551616 &&& 4294967295%18446744073709551616=x%4294967296:=by
 have:=Nat.and_two_pow_sub_one_eq_mod (x%18446744073709551616) 32
 rw[show(4294967295:Nat)%18446744073709551616=2^32-1 from rfl,this];omega
theorem Jd(x:Nat):x >>> 32=x/4294967296:=Nat.shiftRight_eq_div_pow x 32
set_option maxHeartbeats 1000000 in
theorem ri(x y:Nat)(hx:x<18446744073709551616)(hy:y<18446744073709551616):
  Spec Tryz.prog 131 [N .u64 x,N .u64 y] ai [] (IsV (.tuple [N .u64 (x*y/18446744073709551616),N .u64 (x*y%18446744073709551616)].toArray)):=by
 refine ad Tryz.func131 rfl rfl rfl fun w _=>?_
 obtain⟨h1,h2,h3,h4⟩:=Ic x y hx hy
 have hxm:x%18446744073709551616=x:=Nat.mod_eq_of_lt hx
 have hym:y%18446744073709551616=y:=Nat.mod_eq_of_lt hy
 repeat (first|refine Z01 ?_|refine Z02 ?_|refine Z03 ?_|refine Z04 ?_|refine Z05 ?_|refine Z06 ?_|refine Z07 ?_|refine Z08 ?_|refine Z09 ?_|refine Z10 ?_|refine Z11 ?_|refine Z12 ?_|refine Z13 ?_|refine Z14 ?_|refine Z33 ?_|refine Z35 ?_|refine Z40 ?_|refine Z42 ?_)
 refine Ze2 fun _ hw=>aa hw SubW.nil ⟨?_,rfl⟩
 refine congrArg (fun z=>Value.tuple [N .u64 z,N .u64 (x*y%18446744073709551616)].toArray) ?_
 simp only[F1,Jd]
 have h5:x*y/18446744073709551616<18446744073709551616:=by have:=og hx hy;omega
 exact Es h1 h2 h3 h4 h5
/-- What is left to show. -/
structure Rm (p:Prop):Prop where
 h:p
theorem y_0{a b:Prop}(k:b)(h:Rm b→a:=by intro k;(first|refine Z01 ?_|refine Z02 ?_|refine Z03 ?_|refine Z04 ?_|refine Z05 ?_|refine Z06 ?_|refine Z07 ?_|refine Z08 ?_|refine Z09 ?_|refine Z10 ?_|refine Z11 ?_|refine Z12 ?_|refine Z13 ?_|refine Z14 ?_|refine Z17 ?_|refine Z18 ?_|refine Z20 ?_|refine Z21 ?_|refine Z22 ?_|refine Z23 ?_|refine Z24 ?_|refine Z26 ?_|refine Z27 ?_|refine Z67 ?_);exact k.h):a:=h ⟨k⟩
theorem pB(s:Value)(xs:List Nat)(i:Nat)(_:xs.length<4294967296):
  Spec Tryz.prog 122 [s,N .i64 i] (fun w=>Rd w s (xs.map (N .u64))) [] (IsV (N .u64 (xs.getD i 0))):=by
 refine ad Tryz.func122 rfl rfl rfl fun w hr=>?_
 have hr:=RdC.mk0 hr
 repeat (first|refine y_0 ?_)
 refine an (by rfl) (fun h=>?_) (fun h=>?_)
 ·repeat (first|refine y_0 ?_)
  refine Ze1 fun _ hw=>aa hw SubW.nil ⟨?_,rfl⟩
  rfl
 ·repeat (first|refine y_0 ?_)
  refine Ze1 fun _ hw=>aa hw SubW.nil ⟨?_,rfl⟩
  rw[xc (by omega)]
end
section
attribute [local irreducible] Code.wp wpList Af bodyPost L.Go
open Num
attribute [local irreducible] W
theorem y_1{a b:Prop}(k:b)(h:Rm b→a:=by intro k;(first|refine Z01 ?_|refine Z02 ?_|refine Z03 ?_|refine Z04 ?_|refine Z05 ?_|refine Z06 ?_|refine Z07 ?_|refine Z08 ?_|refine Z09 ?_|refine Z10 ?_|refine Z11 ?_|refine Z12 ?_|refine Z13 ?_|refine Z14 ?_|refine Z16 ?_|refine Z17 ?_|refine Z18 ?_|refine Z20 ?_|refine Z21 ?_|refine Z60 ?_|refine Z71 ?_);exact k.h):a:=h ⟨k⟩
set_option maxHeartbeats 1000000 in
theorem mx(s t:Value)(xs ys:List Nat)(hx:Lt 18446744073709551616 xs)(hy:Lt 18446744073709551616 ys)(hl1:xs.length<16777216)(hl2:ys.length<16777216):
  Spec Tryz.prog 103 [s,t] (fun w=>Rd w s (xs.map (N .u64))∧Rd w t (ys.map (N .u64))) [] (IsV (.int .i64 (vB (V xs) (V ys)))):=by
 refine ad Tryz.func103 rfl rfl rfl fun w hr=>?_
 have hr1:=RdC.mk0 hr.1
 have hr2:=RdC.mk0 hr.2
 repeat (first|refine jc ?_|refine g9 ?_|refine Z01 ?_|refine Z02 ?_|refine Z03 ?_|refine Z04 ?_|refine Z05 ?_|refine Z06 ?_|refine Z07 ?_|refine Z08 ?_|refine Z09 ?_|refine Z10 ?_|refine Z11 ?_|refine Z12 ?_|refine Z13 ?_|refine Z14 ?_|refine Z16 ?_|refine Z17 ?_|refine Z18 ?_|refine Z20 ?_|refine Z21 ?_|refine Z60 ?_|refine Z71 ?_)
 obtain⟨n,hn⟩:∃n,n=max xs.length ys.length:=⟨_,rfl⟩
 rw[← hn]
 have hA:V xs<W^n:=kE hx (by omega)
 have hB:V ys<W^n:=kE hy (by omega)
 refine ay (ι:=Nat) (fun j=>j≤n∧V xs/W^j=V ys/W^j) (fun j=>[(0,s),(1,t),(5,.int .i64 ((j:Int)-1))]) (fun j=>[]) (fun j=>j) n ⟨Nat.le_refl _,by rw[Nat.div_eq_of_lt hA,Nat.div_eq_of_lt hB]⟩ sbq sw ?_
 rintro j ⟨hj,he⟩
 repeat (first|refine y_1 ?_)
 refine an (by rfl) (fun h=>?_) (fun h=>?_)
 ·have h0:(0:Int)≤(j:Int)-1:=h
  obtain⟨i,rfl⟩:∃i,j=i+1:=⟨j-1,by omega⟩
  rw[show((i+1:Nat):Int)-1=Int.ofNat i by simp]
  repeat (first|refine ah (by rfl) (by rfl) (by rfl) (pB s xs i (by omega)) (RdW.old hr1) (by rfl) ?_|refine ah (by rfl) (by rfl) (by rfl) (pB t ys i (by omega)) (RdW.old hr2) (by rfl) ?_|refine y_1 ?_)
  rw[cP hx,cP hy]
  refine an (by rfl) (fun h1=>?_) (fun h1=>?_)
  ·repeat (first|refine y_1 ?_)
   refine ao i ⟨by omega,Iv he h1⟩ (by omega) ?_ sw
   rw[show((i:Int)-1)=Int.ofNat i-Int.ofNat 1 from rfl]
   exact sbq
  ·repeat (first|refine y_1 ?_)
   refine an (by rfl) (fun h2=>?_) (fun h2=>?_)
   ·repeat (first|with_reducible refine dg ?_|refine y_1 ?_)
    refine Ze1 fun _ hw=>aa hw SubW.nil ⟨?_,rfl⟩
    rw[pN (xO he h2)]
   ·repeat (first|with_reducible refine dg ?_|refine y_1 ?_)
    refine Ze1 fun _ hw=>aa hw SubW.nil ⟨?_,rfl⟩
    rw[pM (xO he.symm (by omega))];rfl
 ·have h0:¬(0:Int)≤(j:Int)-1:=h
  have hj0:j=0:=by omega
  subst hj0
  repeat (first|with_reducible refine dg ?_|refine y_1 ?_)
  refine Ze1 fun _ hw=>aa hw SubW.nil ⟨?_,rfl⟩
  rw[vC (by simpa using he)];rfl
end
section
attribute [local irreducible] Code.wp wpList Af bodyPost L.Go
open Num
theorem y_2{a b:Prop}(k:b)(h:Rm b→a:=by intro k;(first|refine Z01 ?_|refine Z02 ?_|refine Z03 ?_|refine Z04 ?_|refine Z05 ?_|refine Z06 ?_|refine Z07 ?_|refine Z08 ?_|refine Z09 ?_|refine Z10 ?_|refine Z11 ?_|refine Z12 ?_|refine Z13 ?_|refine Z14 ?_|refine Z15 ?_|refine Z17 ?_|refine Z18 ?_|refine Z42 ?_|refine Z44 ?_|refine Z45 ?_|refine Z57 ?_|refine Z74 ?_);exact k.h):a:=h ⟨k⟩
theorem y_3{a b:Prop}(k:b)(h:Rm b→a:=by intro k;refine vZ bl (by rfl) (by rfl) (by rfl) (by omega) (by kernel_rfl) (by kernel_rfl) (by rfl) ?_;exact k.h):a:=h ⟨k⟩
theorem ph{a b:Prop}(k:b)(h:Rm b→a:=by intro k;(first|refine y_3 ?_|refine Z01 ?_|refine Z02 ?_|refine Z03 ?_|refine Z04 ?_|refine Z05 ?_|refine Z06 ?_|refine Z07 ?_|refine Z08 ?_|refine Z09 ?_|refine Z10 ?_|refine Z11 ?_|refine Z12 ?_|refine Z13 ?_|refine Z14 ?_|refine Z15 ?_|refine Z17 ?_|refine Z18 ?_|refine Z42 ?_|refine Z44 ?_|refine Z45 ?_|refine Z57 ?_|refine Z74 ?_);exact k.h):a:=h ⟨k⟩
theorem Ao(x:Nat)(hx:x<18446744073709551616):Spec Tryz.prog 167 [N .u64 x] ai [] (IsV (N .i64 (bl x))):=by
 refine ad Tryz.func167 rfl rfl rfl fun w _=>?_
 repeat (first|refine y_2 ?_)
 refine an (by rfl) (fun h32=>?_) (fun h32=>?_)
 ·have e32:=gO x 32 h32
  have l32:x >>> 32<4294967296:=by rw[Nat.shiftRight_eq_div_pow];omega
  repeat (first|refine y_2 ?_)
  refine an (by rfl) (fun h16=>?_) (fun h16=>?_)
  ·have e16:=gO (x >>> 32) 16 h16
   have l16:x >>> 32 >>> 16<65536:=by rw[Nat.shiftRight_eq_div_pow (x >>> 32)];omega
   repeat (first|refine y_2 ?_)
   refine an (by rfl) (fun h8=>?_) (fun h8=>?_)
   ·have e8:=gO (x >>> 32 >>> 16) 8 (by omega)
    have l8:(x >>> 32 >>> 16) >>> 8<256:=by rw[Nat.shiftRight_eq_div_pow];omega
    have hx8:(x >>> 32 >>> 16) >>> 8%256=(x >>> 32 >>> 16) >>> 8:=Nat.mod_eq_of_lt (by omega)
    have hbl:=ll ((x >>> 32 >>> 16) >>> 8) 8 (by omega)
    repeat (first|rw[hx8]|refine ph ?_)
    refine Ze1 fun _ hw=>aa hw SubW.nil ⟨?_,rfl⟩
    exact congrArg (N .i64) (by omega)
   ·have hx8:x >>> 32 >>> 16%256=x >>> 32 >>> 16:=Nat.mod_eq_of_lt (by omega)
    have hbl:=ll (x >>> 32 >>> 16) 8 (by omega)
    repeat (first|rw[hx8]|refine ph ?_)
    refine Ze1 fun _ hw=>aa hw SubW.nil ⟨?_,rfl⟩
    exact congrArg (N .i64) (by omega)
  ·repeat (first|refine y_2 ?_)
   refine an (by rfl) (fun h8=>?_) (fun h8=>?_)
   ·have e8:=gO (x >>> 32) 8 (by omega)
    have l8:(x >>> 32) >>> 8<256:=by rw[Nat.shiftRight_eq_div_pow];omega
    have hx8:(x >>> 32) >>> 8%256=(x >>> 32) >>> 8:=Nat.mod_eq_of_lt (by omega)
    have hbl:=ll ((x >>> 32) >>> 8) 8 (by omega)
    repeat (first|rw[hx8]|refine ph ?_)
    refine Ze1 fun _ hw=>aa hw SubW.nil ⟨?_,rfl⟩
    exact congrArg (N .i64) (by omega)
   ·have hx8:x >>> 32%256=x >>> 32:=Nat.mod_eq_of_lt (by omega)
    have hbl:=ll (x >>> 32) 8 (by omega)
    repeat (first|rw[hx8]|refine ph ?_)
    refine Ze1 fun _ hw=>aa hw SubW.nil ⟨?_,rfl⟩
    exact congrArg (N .i64) (by omega)
 ·repeat (first|refine y_2 ?_)
  refine an (by rfl) (fun h16=>?_) (fun h16=>?_)
  ·have e16:=gO x 16 h16
   have l16:x >>> 16<65536:=by rw[Nat.shiftRight_eq_div_pow];omega
   repeat (first|refine y_2 ?_)
   refine an (by rfl) (fun h8=>?_) (fun h8=>?_)
   ·have e8:=gO (x >>> 16) 8 (by omega)
    have l8:(x >>> 16) >>> 8<256:=by rw[Nat.shiftRight_eq_div_pow];omega
    have hx8:(x >>> 16) >>> 8%256=(x >>> 16) >>> 8:=Nat.mod_eq_of_lt (by omega)
    have hbl:=ll ((x >>> 16) >>> 8) 8 (by omega)
    repeat (first|rw[hx8]|refine ph ?_)
    refine Ze1 fun _ hw=>aa hw SubW.nil ⟨?_,rfl⟩
    exact congrArg (N .i64) (by omega)
   ·have hx8:x >>> 16%256=x >>> 16:=Nat.mod_eq_of_lt (by omega)
    have hbl:=ll (x >>> 16) 8 (by omega)
    repeat (first|rw[hx8]|refine ph ?_)
    refine Ze1 fun _ hw=>aa hw SubW.nil ⟨?_,rfl⟩
    exact congrArg (N .i64) (by omega)
  ·repeat (first|refine y_2 ?_)
   refine an (by rfl) (fun h8=>?_) (fun h8=>?_)
   ·have e8:=gO (x) 8 (by omega)
    have l8:(x) >>> 8<256:=by rw[Nat.shiftRight_eq_div_pow];omega
    have hx8:(x) >>> 8%256=(x) >>> 8:=Nat.mod_eq_of_lt (by omega)
    have hbl:=ll ((x) >>> 8) 8 (by omega)
    repeat (first|rw[hx8]|refine ph ?_)
    refine Ze1 fun _ hw=>aa hw SubW.nil ⟨?_,rfl⟩
    exact congrArg (N .i64) (by omega)
   ·have hx8:x%256=x:=Nat.mod_eq_of_lt (by omega)
    have hbl:=ll (x) 8 (by omega)
    repeat (first|rw[hx8]|refine ph ?_)
    refine Ze1 fun _ hw=>aa hw SubW.nil ⟨?_,rfl⟩
    exact congrArg (N .i64) (by omega)
theorem y_4{S1 a b:Prop}(s1:S1)(k:b)(h:S1→Rm b→a:=by intro s1 k;refine ah (by rfl) (by rfl) (by rfl) s1 (fun _ _=>trivial) (by rfl) ?_;exact k.h):a:=h s1 ⟨k⟩
theorem Ej(x:Nat)(hx:x<18446744073709551616):Spec Tryz.prog 155 [N .u64 x] ai [] (IsV (N .i64 (64-bl x))):=by
 refine ad Tryz.func155 rfl rfl rfl fun w _=>?_
 have hb:=ll x 64 hx
 repeat (first|refine y_4 (Ao x hx) ?_|refine Z01 ?_|refine Z02 ?_|refine Z03 ?_|refine Z04 ?_|refine Z05 ?_|refine Z06 ?_|refine Z07 ?_|refine Z08 ?_|refine Z09 ?_|refine Z10 ?_|refine Z11 ?_|refine Z12 ?_|refine Z13 ?_|refine Z14 ?_|refine Z16 ?_|refine Z71 ?_)
 refine Ze1 fun _ hw=>aa hw SubW.nil ⟨?_,rfl⟩
 rfl
theorem y_5{a b:Prop}(k:b)(h:Rm b→a:=by intro k;refine rW (r:=false) (by rfl) (by rfl) (Gb (by first | (simp only[DS];done) | (simp only[DS];omega))) (by rfl) ?_;exact k.h):a:=h ⟨k⟩
theorem y_6{a b:Prop}(k:b)(h:Rm b→a:=by intro k;(first|refine Z01 ?_|refine Z02 ?_|refine Z03 ?_|refine Z04 ?_|refine Z05 ?_|refine Z06 ?_|refine Z07 ?_|refine Z08 ?_|refine Z09 ?_|refine Z10 ?_|refine Z11 ?_|refine Z12 ?_|refine Z13 ?_|refine Z14 ?_|refine Z17 ?_|refine Z18 ?_|refine Z24 ?_|refine Z26 ?_|refine Z27 ?_|refine Z33 ?_|refine Z34 ?_|refine Z35 ?_|refine Z37 ?_|refine Z38 ?_|refine Z40 ?_|refine Z41 ?_|refine Z42 ?_|refine Z43 ?_|refine Z44 ?_|refine Z45 ?_|refine Z49 ?_|refine Z50 ?_|refine Z51 ?_|refine Z52 ?_|refine Z67 ?_|refine Z74 ?_);exact k.h):a:=h ⟨k⟩
theorem y_7{a b:Prop}(k:b)(h:Rm b→a:=by intro k;(first|refine Z24 ?_|refine Z26 ?_|refine Z27 ?_|refine Z67 ?_);exact k.h):a:=h ⟨k⟩
theorem y_8{a b:Prop}(k:b)(h:Rm b→a:=by intro k;refine rW (r:=true) (by rfl) (by rfl) (Gc (by first | (simp only[DR];done) | (simp only[DR];omega))) (by rfl) ?_;exact k.h):a:=h ⟨k⟩
theorem sv{a b:Prop}(k:b)(h:Rm b→a:=by intro k;refine Zqp (by intro _ _ _;(first|refine y_7 ?_);exact Zq) ?_;exact k.h):a:=h ⟨k⟩
set_option maxHeartbeats 4000000 in
theorem zY(hi lo y:Nat)(hy:hi<y)(hlo:lo<18446744073709551616)(hyW:y<18446744073709551616):
  Spec Tryz.prog 138 [N .u64 hi,N .u64 lo,N .u64 y] ai [] (IsV (.tuple [N .u64 ((hi*18446744073709551616+lo)/y),N .u64 ((hi*18446744073709551616+lo)%y)].toArray)):=by
 refine ad Tryz.func138 rfl rfl rfl fun w _=>?_
 repeat (first|refine y_5 ?_|refine Z01 ?_|refine Z02 ?_|refine Z03 ?_|refine Z04 ?_|refine Z05 ?_|refine Z06 ?_|refine Z07 ?_|refine Z08 ?_|refine Z09 ?_|refine Z10 ?_|refine Z11 ?_|refine Z12 ?_|refine Z13 ?_|refine Z14 ?_|refine Z17 ?_|refine Z18 ?_|refine Z24 ?_|refine Z26 ?_|refine Z27 ?_|refine Z33 ?_|refine Z34 ?_|refine Z35 ?_|refine Z37 ?_|refine Z38 ?_|refine Z40 ?_|refine Z41 ?_|refine Z42 ?_|refine Z43 ?_|refine Z44 ?_|refine Z45 ?_|refine Z49 ?_|refine Z50 ?_|refine Z51 ?_|refine Z52 ?_|refine Z67 ?_|refine Z74 ?_)
 refine an (by rfl) (fun h0=>?_) (fun h0=>?_)
 ·subst h0
  repeat (first|refine y_6 ?_)
  refine au (by rfl) ?_
  repeat (first|(refine Zqf (by intro _ _ _;(first|refine we (by rfl) (by rfl) (by rfl) (by omega) (by omega) (by rfl) ?_|refine Ng (by rfl) (by rfl) (by omega) (by rfl) ?_|refine Z01 ?_|refine Z02 ?_|refine Z17 ?_|refine Z18 ?_|refine Z33 ?_|refine Z34 ?_|refine Z35 ?_|refine Z37 ?_|refine Z38 ?_|refine Z40 ?_|refine Z41 ?_|refine Z42 ?_|refine Z43 ?_|refine Z44 ?_|refine Z45 ?_|refine Z49 ?_|refine Z50 ?_|refine Z74 ?_);exact Zq) ?_)|refine sv ?_|refine Zqn ?_)
  refine Zq0 ?_ (by kernel_rfl)
  repeat (first|refine y_6 ?_)
  refine Ze2 fun _ hw=>aa hw SubW.nil ⟨?_,rfl⟩
  rw[Nat.zero_mul,Nat.zero_add]
 obtain⟨hb1,hb2,hb3⟩:=K9 y (by omega)
 have hb4:=ll y 64 hyW
 obtain⟨s,hs⟩:∃s,s=64-bl y:=⟨_,rfl⟩
 have hsl:s≤63:=by omega
 obtain⟨Y,hYs⟩:∃Y,Y=y*2^s:=⟨_,rfl⟩
 have hYW:Y<18446744073709551616:=by
  have:=Nat.mul_lt_mul_of_pos_right hb1 (Nat.two_pow_pos s)
  rw[← Nat.pow_add,show bl y+s=64 by omega]at this
  rw[hYs];exact this
 have hYb:9223372036854775808≤Y:=by
  have:=Nat.mul_le_mul_right (2^s) hb2
  rw[← Nat.pow_add,show bl y-1+s=63 by omega]at this
  rw[hYs];exact this
 have hYp:0<Y:=by omega
 obtain⟨v1,hv1⟩:∃v1,v1=Y/4294967296:=⟨_,rfl⟩
 obtain⟨v0,hv0⟩:∃v0,v0=Y%4294967296:=⟨_,rfl⟩
 have hYv:Y=v1*4294967296+v0:=by omega
 have hv1p:0<v1:=by omega
 have hv1l:v1<4294967296:=by omega
 have hv0l:v0<4294967296:=by omega
 obtain⟨u,hu⟩:∃u,u=hi*2^s+lo/2^(64-s):=⟨_,rfl⟩
 obtain⟨u10,hu10'⟩:∃u10,u10=lo*2^s%18446744073709551616:=⟨_,rfl⟩
 obtain⟨hN,huY⟩:=Il (s:=s) hy hlo (by omega)
 rw[← hu,← hu10']at hN
 rw[← hu,← hYs]at huY
 obtain⟨u1,hu1'⟩:∃u1,u1=u10/4294967296:=⟨_,rfl⟩
 obtain⟨u0,hu0'⟩:∃u0,u0=u10%4294967296:=⟨_,rfl⟩
 have hu10l:u10<18446744073709551616:=by rw[hu10'];exact Nat.mod_lt _ (by decide)
 have hu1:u1<4294967296:=by omega
 have hu0:u0<4294967296:=by omega
 have hu10:u1*4294967296+u0=u10:=by rw[hu1',hu0',Nat.mul_comm];exact Nat.div_add_mod _ _
 have e1:(64-bl y)%18446744073709551616=s:=by omega
 have e2:y <<< s%18446744073709551616=Y:=by rw[Nat.shiftLeft_eq,← hYs,Nat.mod_eq_of_lt hYW]
 have e3:Y >>> 32=v1:=by rw[Jd,hv1]
 have e4:Y%18446744073709551616 &&& 4294967295%18446744073709551616=v0:=by rw[F1,hv0]
 have hlq:lo/2^(64-s)<2^s:=by
  rw[Nat.div_lt_iff_lt_mul (Nat.two_pow_pos _),← Nat.pow_add,show s+(64-s)=64 by omega];exact hlo
 have hhs:hi*2^s<18446744073709551616:=Nat.lt_of_le_of_lt (by rw[hu];exact Nat.le_add_right _ _) (Nat.lt_trans huY hYW)
 have e5:(64+(18446744073709551616-s%18446744073709551616))%18446744073709551616=64-s:=by omega
 have e6:hi <<< s%18446744073709551616%18446744073709551616 ||| lo >>> (64-s)%18446744073709551616=u:=by
  rw[Nat.shiftLeft_eq,Nat.shiftRight_eq_div_pow,Nat.mod_mod,Nat.mod_eq_of_lt hhs,Nat.mod_eq_of_lt (a:=lo/2^(64-s)) (Nat.lt_of_le_of_lt (Nat.div_le_self _ _) hlo),Mb hlq,hu]
 have e7:lo <<< s%18446744073709551616=u10:=by rw[Nat.shiftLeft_eq,hu10']
 have e8:u10 >>> 32=u1:=by rw[Jd,hu1']
 have e9:u10%18446744073709551616 &&& 4294967295%18446744073709551616=u0:=by rw[F1,hu0']
 have hwr:=ud (a:=u) (c:=u/v1*v1) (d:=u%v1) (fw _ _) (Nat.lt_trans (Nat.mod_lt _ hv1p) (by omega))
 obtain⟨q1,hq1⟩:∃q1,q1=(u*4294967296+u1)/Y:=⟨_,rfl⟩
 repeat (first|refine y_4 (Ej y hyW) ?_|refine ib (by rfl) (by rfl) (show 64-s≤64 by omega) (by rfl) ?_|rw[e1]|rw[e2]|rw[e3]|rw[e4]|rw[e5]|rw[e6]|rw[e7]|rw[e8]|rw[e9]|refine we (by rfl) (by rfl) (by rfl) hv1p (by omega) (by rfl) ?_|rw[hwr]|refine fT (ι:=Unit) (fun _=>True) (fun _=>[(2,N .u64 Y),(8,N .u64 s),(9,N .u64 v1),(10,N .u64 v0),(11,N .u64 u),(13,N .u64 u1),(14,N .u64 u0),(15,N .u64 q1)]) (fun _=>[]) ?_ ?_|refine y_6 ?_)
 ·clear e1 e2 e3 e4 e5 e6 e7 e8 e9 hwr hN hu10' hu1' hu0' hlq hhs hu hs hb1 hb2 hb3 hb4 hYs hu10 hu10l
  refine ay (ι:=Nat×Nat) (fun p=>p.1*v1+p.2=u∧p.2<4294967296∧(u*4294967296+u1)/Y≤p.1)
   (fun p=>[(2,N .u64 Y),(8,N .u64 s),(9,N .u64 v1),(10,N .u64 v0),(11,N .u64 u),(13,N .u64 u1),(14,N .u64 u0),(15,N .u64 p.1),(16,N .u64 p.2)]) (fun p=>[]) (fun p=>p.1) (u/v1,u%v1)
   ⟨(fw _ _).symm,by simp only;have:=Nat.mod_lt u hv1p;omega,by simp only;rw[hYv];exact Cv hv1p hu1⟩ sbq sw ?_
  rintro⟨q,r⟩ ⟨hqr,hr,hqq⟩
  simp only at hqr hr hqq ⊢
  have hqle:q≤u:=Nat.le_trans (Nat.le_mul_of_pos_right q hv1p) (by omega)
  by_cases hbig:4294967296≤q
  ·have hlt:=kP (v0:=v0) (u1:=u1) (by rw[← hYv];exact huY) hqr hu1 (.inl hbig)
   rw[← hYv]at hlt
   have hqpos:0<q:=Nat.lt_of_le_of_lt (Nat.zero_le _) hlt
   have hdq:=nJ (q:=q) hqpos (by omega)
   have hrr:(r+v1)%18446744073709551616=r+v1:=Nat.mod_eq_of_lt (by omega)
   have hqr':(q-1)*v1+(r+v1)=u:=by
    obtain⟨k,rfl⟩:∃k,q=k+1:=⟨q-1,by omega⟩
    rw[Nat.add_mul,Nat.one_mul]at hqr
    simp only[Nat.add_sub_cancel];omega
   repeat (first|refine y_8 ?_|refine y_5 ?_|rw[hdq]|rw[hrr]|rw[hp2]|rw[hp3]|refine y_6 ?_)
   refine an (by rfl) (fun hbr=>?_) (fun hbr=>?_)
   ·have hend:q-1=q1:=by rw[hq1,hYv];rw[hYv]at hlt;exact gJ (by omega) hqr' (jA (by omega) (by rw[← hYv];exact huY) hqr' hbr) (by omega)
    repeat (first|refine y_6 ?_)
    rw[hend]
    exact hO () trivial sbq sw
   ·repeat (first|refine y_6 ?_)
    exact ao (q-1,r+v1) ⟨hqr',by simp only;omega,by simp only;omega⟩ (by simp only;omega) sbq sw
  ·have hp1:q*v0<18446744073709551616:=Nat.lt_of_le_of_lt (Nat.mul_le_mul (show q≤4294967295 by omega) (show v0≤4294967295 by omega)) (by decide)
   have hp2:q*v0%18446744073709551616=q*v0:=Nat.mod_eq_of_lt hp1
   have hp3:(4294967296*r%18446744073709551616+u1)%18446744073709551616=r*4294967296+u1:=by omega
   by_cases hc:r*4294967296+u1<q*v0
   ·have hlt:=kP (v0:=v0) (u1:=u1) (by rw[← hYv];exact huY) hqr hu1 (.inr hc)
    rw[← hYv]at hlt
    have hqpos:0<q:=Nat.lt_of_le_of_lt (Nat.zero_le _) hlt
    have hdq:=nJ (q:=q) hqpos (by omega)
    have hrr:(r+v1)%18446744073709551616=r+v1:=Nat.mod_eq_of_lt (by omega)
    have hqr':(q-1)*v1+(r+v1)=u:=by
     obtain⟨k,rfl⟩:∃k,q=k+1:=⟨q-1,by omega⟩
     rw[Nat.add_mul,Nat.one_mul]at hqr
     simp only[Nat.add_sub_cancel];omega
    repeat (first|refine y_8 ?_|refine y_5 ?_|rw[hdq]|rw[hrr]|rw[hp2]|rw[hp3]|refine y_6 ?_)
    refine an (by rfl) (fun hbr=>?_) (fun hbr=>?_)
    ·have hend:q-1=q1:=by rw[hq1,hYv];rw[hYv]at hlt;exact gJ (by omega) hqr' (jA (by omega) (by rw[← hYv];exact huY) hqr' hbr) (by omega)
     repeat (first|refine y_6 ?_)
     rw[hend]
     exact hO () trivial sbq sw
    ·repeat (first|refine y_6 ?_)
     exact ao (q-1,r+v1) ⟨hqr',by simp only;omega,by simp only;omega⟩ (by simp only;omega) sbq sw
   ·have hend:q=q1:=by rw[hq1,hYv];rw[hYv]at hqq;exact gJ (by omega) hqr (by omega) hqq
    repeat (first|refine y_5 ?_|rw[hp2]|rw[hp3]|refine y_6 ?_)
    rw[hend]
    exact hO () trivial sbq sw
 intro _ _
 clear e1 e2 e3 e4 e5 e6 e7 e8 e9 hwr
 have hq1l:q1<4294967296:=by rw[hq1];exact Cw huY hu1
 obtain⟨un21,hun21⟩:∃z,z=(u*4294967296+u1)%Y:=⟨_,rfl⟩
 have h21Y:un21<Y:=by rw[hun21];exact Nat.mod_lt _ hYp
 have hw21:=yW (a:=u*4294967296) (b:=u1) (c:=q1*Y) (d:=un21) (by rw[hq1,hun21];exact fw _ _) (by omega)
 have hd1:un21/v1<18446744073709551616:=Nat.lt_of_le_of_lt (Nat.div_le_self _ _) (by omega)
 have hwr:=ud (a:=un21) (c:=un21/v1*v1) (d:=un21%v1) (fw _ _) (Nat.lt_trans (Nat.mod_lt _ hv1p) (by omega))
 obtain⟨q0,hq0⟩:∃q0,q0=(un21*4294967296+u0)/Y:=⟨_,rfl⟩
 repeat (first|rw[hw21]|refine we (by rfl) (by rfl) (by rfl) hv1p (by omega) (by rfl) ?_|rw[hwr]|refine fT (ι:=Unit) (fun _=>True) (fun _=>[(2,N .u64 Y),(8,N .u64 s),(14,N .u64 u0),(15,N .u64 q1),(17,N .u64 un21),(18,N .u64 q0)]) (fun _=>[]) ?_ ?_|refine y_6 ?_)
 ·clear hwr hN hu10' hu1' hu0' hlq hhs hu hs hb1 hb2 hb3 hb4 hYs hu10 hu10l hq1 hun21 hw21 huY
  refine ay (ι:=Nat×Nat) (fun p=>p.1*v1+p.2=un21∧p.2<4294967296∧(un21*4294967296+u0)/Y≤p.1)
   (fun p=>[(2,N .u64 Y),(8,N .u64 s),(9,N .u64 v1),(10,N .u64 v0),(14,N .u64 u0),(15,N .u64 q1),(16,N .u64 p.2),(17,N .u64 un21),(18,N .u64 p.1)]) (fun p=>[]) (fun p=>p.1) (un21/v1,un21%v1)
   ⟨(fw _ _).symm,by simp only;have:=Nat.mod_lt un21 hv1p;omega,by simp only;rw[hYv];exact Cv hv1p hu0⟩ sbq sw ?_
  rintro⟨q,r⟩ ⟨hqr,hr,hqq⟩
  simp only at hqr hr hqq ⊢
  have hqle:q≤un21:=Nat.le_trans (Nat.le_mul_of_pos_right q hv1p) (by omega)
  by_cases hbig:4294967296≤q
  ·have hlt:=kP (v0:=v0) (u1:=u0) (by rw[← hYv];exact h21Y) hqr hu0 (.inl hbig)
   rw[← hYv]at hlt
   have hqpos:0<q:=Nat.lt_of_le_of_lt (Nat.zero_le _) hlt
   have hdq:=nJ (q:=q) hqpos (by omega)
   have hrr:(r+v1)%18446744073709551616=r+v1:=Nat.mod_eq_of_lt (by omega)
   have hqr':(q-1)*v1+(r+v1)=un21:=by
    obtain⟨k,rfl⟩:∃k,q=k+1:=⟨q-1,by omega⟩
    rw[Nat.add_mul,Nat.one_mul]at hqr
    simp only[Nat.add_sub_cancel];omega
   repeat (first|refine y_8 ?_|refine y_5 ?_|rw[hdq]|rw[hrr]|rw[hp2]|rw[hp3]|refine y_6 ?_)
   refine an (by rfl) (fun hbr=>?_) (fun hbr=>?_)
   ·have hend:q-1=q0:=by rw[hq0,hYv];rw[hYv]at hlt;exact gJ (by omega) hqr' (jA (by omega) (by rw[← hYv];exact h21Y) hqr' hbr) (by omega)
    repeat (first|refine y_6 ?_)
    rw[hend]
    exact hO () trivial sbq sw
   ·repeat (first|refine y_6 ?_)
    exact ao (q-1,r+v1) ⟨hqr',by simp only;omega,by simp only;omega⟩ (by simp only;omega) sbq sw
  ·have hp1:q*v0<18446744073709551616:=Nat.lt_of_le_of_lt (Nat.mul_le_mul (show q≤4294967295 by omega) (show v0≤4294967295 by omega)) (by decide)
   have hp2:q*v0%18446744073709551616=q*v0:=Nat.mod_eq_of_lt hp1
   have hp3:(4294967296*r%18446744073709551616+u0)%18446744073709551616=r*4294967296+u0:=by omega
   by_cases hc:r*4294967296+u0<q*v0
   ·have hlt:=kP (v0:=v0) (u1:=u0) (by rw[← hYv];exact h21Y) hqr hu0 (.inr hc)
    rw[← hYv]at hlt
    have hqpos:0<q:=Nat.lt_of_le_of_lt (Nat.zero_le _) hlt
    have hdq:=nJ (q:=q) hqpos (by omega)
    have hrr:(r+v1)%18446744073709551616=r+v1:=Nat.mod_eq_of_lt (by omega)
    have hqr':(q-1)*v1+(r+v1)=un21:=by
     obtain⟨k,rfl⟩:∃k,q=k+1:=⟨q-1,by omega⟩
     rw[Nat.add_mul,Nat.one_mul]at hqr
     simp only[Nat.add_sub_cancel];omega
    repeat (first|refine y_8 ?_|refine y_5 ?_|rw[hdq]|rw[hrr]|rw[hp2]|rw[hp3]|refine y_6 ?_)
    refine an (by rfl) (fun hbr=>?_) (fun hbr=>?_)
    ·have hend:q-1=q0:=by rw[hq0,hYv];rw[hYv]at hlt;exact gJ (by omega) hqr' (jA (by omega) (by rw[← hYv];exact h21Y) hqr' hbr) (by omega)
     repeat (first|refine y_6 ?_)
     rw[hend]
     exact hO () trivial sbq sw
    ·repeat (first|refine y_6 ?_)
     exact ao (q-1,r+v1) ⟨hqr',by simp only;omega,by simp only;omega⟩ (by simp only;omega) sbq sw
   ·have hend:q=q0:=by rw[hq0,hYv];rw[hYv]at hqq;exact gJ (by omega) hqr (by omega) hqq
    repeat (first|refine y_5 ?_|rw[hp2]|rw[hp3]|refine y_6 ?_)
    rw[hend]
    exact hO () trivial sbq sw
 intro _ _
 have hr2:=yW (a:=un21*4294967296) (b:=u0) (c:=q0*Y) (d:=(un21*4294967296+u0)%Y) (by rw[hq0];exact fw _ _) (Nat.lt_trans (Nat.mod_lt _ hYp) hYW)
 have hQ0:q0<4294967296:=by rw[hq0];exact Cw h21Y hu0
 have hqq:q1*4294967296%18446744073709551616=q1*4294967296:=Nat.mod_eq_of_lt (by omega)
 have hqs:(q1*4294967296+q0)%18446744073709551616=q1*4294967296+q0:=Nat.mod_eq_of_lt (by omega)
 repeat (first|rw[hr2]|rw[hqq]|rw[hqs]|refine ib (by rfl) (by rfl) (show s≤64 by omega) (by rfl) ?_|refine y_6 ?_)
 refine Ze2 fun _ hw=>aa hw SubW.nil ⟨?_,rfl⟩
 obtain⟨g1,g2⟩:=Lh (u:=u) (u1:=u1) (u0:=u0) hYp
 rw[← hq1,← hun21]at g1
 rw[← hun21]at g2
 rw[← hq0]at g1
 rw[hu10,hN,hYs,Nat.mul_div_mul_right _ _ (Nat.two_pow_pos s)]at g1
 rw[hu10,hN,hYs,Nat.mul_mod_mul_right]at g2
 rw[g1,hYs,g2,Nat.shiftRight_eq_div_pow,Nat.mul_div_cancel _ (Nat.two_pow_pos s)]
end
section
attribute [local irreducible] Code.wp wpList Af bodyPost L.Go
open Num
attribute [local simp] ae
theorem y_9{a b:Prop}(k:b)(h:Rm b→a:=by intro k;(first|refine Z01 ?_|refine Z02 ?_|refine Z03 ?_|refine Z04 ?_|refine Z05 ?_|refine Z06 ?_|refine Z07 ?_|refine Z08 ?_|refine Z09 ?_|refine Z10 ?_|refine Z11 ?_|refine Z12 ?_|refine Z13 ?_|refine Z14 ?_|refine Z15 ?_|refine Z16 ?_|refine Z17 ?_|refine Z18 ?_|refine Z19 ?_|refine Z20 ?_|refine Z21 ?_|refine Z22 ?_|refine Z23 ?_|refine Z24 ?_|refine Z26 ?_|refine Z27 ?_|refine Z29 ?_|refine Z30 ?_|refine Z31 ?_|refine Z32 ?_|refine Z33 ?_|refine Z60 ?_|refine Z67 ?_|refine Z71 ?_);exact k.h):a:=h ⟨k⟩
theorem Vy{a b:Prop}(k:b)(h:Rm b→a:=by intro k;(first|refine Z24 ?_|refine Z26 ?_|refine Z27 ?_|refine Z67 ?_|refine Z23 ?_|refine Z20 ?_|refine Z21 ?_);exact k.h):a:=h ⟨k⟩
theorem nK{a b:Prop}(k:b)(h:Rm b→a:=by intro k;(first|refine Z29 ?_|refine Z30 ?_|refine Z31 ?_|refine Z32 ?_);exact k.h):a:=h ⟨k⟩
theorem Td{a b:Prop}(k:b)(h:Rm b→a:=by intro k;refine g7 (by rfl) (by rfl) (by rfl) (K4 _ _) (by rfl) ?_;exact k.h):a:=h ⟨k⟩
theorem Do{a b:Prop}(k:b)(h:Rm b→a:=by intro k;refine Zqp (by intro _ _ _;(first|refine Vy ?_);exact Zq) ?_;exact k.h):a:=h ⟨k⟩
theorem ga{a b:Prop}(k:b)(h:Rm b→a:=by intro k;refine Zqe (by intro _ _ _;(first|refine nK ?_);exact Zqq) ?_;exact k.h):a:=h ⟨k⟩
set_option maxHeartbeats 4000000 in
theorem Fo(sl sm:Value)(T:TypeId)(ls0 ms:List Nat)(L n M:Nat)(hls0:Lt 18446744073709551616 ls0)(hL0:ls0.length=L)(hm:Lt 18446744073709551616 ms)(hml:ms.length=n)(hn:0<n)(hnL:n<L)(hLb:L<16777216)(hmv':V ms=M)
  (htop:ms.getD (n-1) 0≠0) (hX0W:V ls0<Num.W*M):
  Spec Tryz.prog 125 [sl,sm,N .i64 n] (fun w=>RdC ⟨w,fps [.sl sl (ls0.map (N .u64)) T]⟩ sm (ms.map (N .u64))) [.sl sl (ls0.map (N .u64)) T]
   (fun _ Wr=>Wr=[.sl sl ((D L (V ls0%M)).map (N .u64)) T]):=by
 refine ad Tryz.func125 rfl rfl rfl fun w hrm=>?_
 have hMlo:Num.W^(n-1)≤M:=by rw[← hmv'];exact Hn hm htop
 have hMp:0<M:=Nat.lt_of_lt_of_le (bP _) hMlo
 have hMhi:M<Num.W^n:=by rw[← hmv',← hml];exact uz hm
 repeat (first|refine jc ?_|refine g9 ?_|refine Z01 ?_|refine Z02 ?_|refine Z03 ?_|refine Z04 ?_|refine Z05 ?_|refine Z06 ?_|refine Z07 ?_|refine Z08 ?_|refine Z09 ?_|refine Z10 ?_|refine Z11 ?_|refine Z12 ?_|refine Z13 ?_|refine Z14 ?_|refine Z15 ?_|refine Z16 ?_|refine Z17 ?_|refine Z18 ?_|refine Z19 ?_|refine Z20 ?_|refine Z21 ?_|refine Z22 ?_|refine Z23 ?_|refine Z24 ?_|refine Z26 ?_|refine Z27 ?_|refine Z29 ?_|refine Z30 ?_|refine Z31 ?_|refine Z32 ?_|refine Z33 ?_|refine Z60 ?_|refine Z67 ?_|refine Z71 ?_)
 refine ay (ι:=List Nat) (fun ls=>ls.length=L∧Lt 18446744073709551616 ls∧V ls%M=V ls0%M∧V ls<Num.W*M) (fun ls=>[(0,sl),(1,sm),(2,N .i64 n)]) (fun ls=>[.sl sl (ls.map (N .u64)) T]) (fun ls=>V ls) ls0 ⟨hL0,hls0,rfl,hX0W⟩ sbq sw ?_
 rintro ls ⟨hL,hls,hX0,hXW⟩
 obtain⟨X,hX⟩:∃X,V ls=X:=⟨_,rfl⟩
 rw[hX]at hX0 hXW
 repeat (first|refine g9 ?_|refine ah (by rfl) (by rfl) (by rfl) (mx sl sm ls ms hls hm (by omega) (by omega)) (fun w hw=>⟨RdW.own fd w hw,RdW.old hrm w hw⟩) (by rfl) ?_|refine y_9 ?_)
 rw[hX,hmv']
 refine an (by rfl) (fun hge=>?_) (fun hlt=>?_)
 ·have hge:M≤X:=by
   rcases Nat.lt_or_ge X M with h | h
   ·rw[pN h]at hge;exact absurd hge (by decide)
   ·exact h
  have hone:1*M≤X:=by omega
  have htb:=hm.getD (by decide) (n-1)
  have htl:n-1<ms.length:=by omega
  have hnl:n<ls.length:=by omega
  have hn1:n-1<ls.length:=by omega
  have hlb:=hls.getD (by decide) n
  have hlb1:=hls.getD (by decide) (n-1)
  have hlv:=cP hls n
  have hlv1:=cP hls (n-1)
  have hmt:=cP hm (n-1)
  rw[hX]at hlv hlv1
  rw[hmv']at hmt
  have hMtop:M<(ms.getD (n-1) 0+1)*Num.W^(n-1):=by rw[hmt];exact JQ (by rw[show n-1+1=n by omega];exact hMhi)
  have hB1:True:=trivial
  repeat (first|(refine ym ?_;clear hB1)|refine fT (ι:=Nat) (fun q=>q*M≤X∧q<18446744073709551616) (fun q=>[(0,sl),(1,sm),(2,N .i64 n),(6,N .u64 q)]) (fun _=>[.sl sl (ls.map (N .u64)) T]) ?_ ?_|refine y_9 ?_)
  ·repeat (first|refine y_9 ?_)
   refine an (by rfl) (fun h0=>?_) (fun h0=>?_)
   ·repeat (first|refine y_9 ?_)
    exact hO (ls.getD n 0) ⟨by rw[hlv];exact Nat.le_trans (Nat.mul_le_mul (Nat.mod_le _ _) (Nat.le_of_lt hMhi)) (Nat.div_mul_le_self _ _),hlb⟩ sbq sw
   ·have ht1:(ms.getD (n-1) 0+1)%18446744073709551616=ms.getD (n-1) 0+1:=by omega
    repeat (first|rw[ht1]|refine y_9 ?_)
    refine an (by rfl) (fun h1=>?_) (fun h1=>?_)
    ·have hqb:=R9 h1 hlb1
     have hq2:(ls.getD n 0*18446744073709551616+ls.getD (n-1) 0)/(ms.getD (n-1) 0+1)*M≤X:=by
      refine EM (n:=n-1) hMtop ?_
      have:=Ft X (n-1)
      rw[show n-1+1=n by omega,← hlv,← hlv1]at this
      exact this
     repeat (first|refine y_9 ?_)
     refine au (by rfl) ?_
     repeat (first|(refine Zqf (by intro _ _ _;(first|refine ah (by rfl) (by rfl) (by rfl) (zY (ls.getD n 0) (ls.getD (n-1) 0) (ms.getD (n-1) 0+1) h1 hlb1 (by omega)) (fun _ _=>trivial) (by rfl) ?_|refine Z01 ?_|refine Z02 ?_|refine Z15 ?_|refine Z16 ?_|refine Z17 ?_|refine Z18 ?_|refine Z19 ?_|refine Z20 ?_|refine Z21 ?_|refine Z22 ?_|refine Z23 ?_|refine Z33 ?_|refine Z60 ?_|refine Z71 ?_);exact Zq) ?_)|refine Do ?_|refine ga ?_|refine Zqn ?_)
     refine Zq0 ?_ (by kernel_rfl)
     repeat (first|refine y_9 ?_)
     exact hO _ ⟨hq2,hqb⟩ sbq sw
    ·repeat (first|refine y_9 ?_)
     exact hO 0 ⟨by omega,by decide⟩ sbq sw
  ·rintro q0 ⟨hq0M,hq0W⟩
   obtain⟨q,hqd⟩:∃q,q=max q0 1:=⟨_,rfl⟩
   have hqM:q*M≤X:=by
    rcases Nat.le_total q0 1 with h | h
    ·rw[hqd,Nat.max_eq_right h];exact hone
    ·rw[hqd,Nat.max_eq_left h];exact hq0M
   have hqW:q<18446744073709551616:=by omega
   have hq1:1≤q:=by rw[hqd];exact Nat.le_max_right _ _
   repeat (first|rw[← hqd]|refine y_9 ?_)
   refine ay (ι:=Nat) (fun i=>i≤L) (fun i=>[(0,sl),(1,sm),(2,N .i64 n),(6,N .u64 q),(8,N .u64 (bw X (q*M) i)),(9,N .i64 i),(10,N .u64 (q*(M%Num.W^i)/Num.W^i))])
    (fun i=>[.sl sl ((D i (sb X (q*M) i)++ls.drop i).map (N .u64)) T]) (fun i=>L-i) 0 (by omega) (by simp only[Nat.pow_zero,Nat.mod_one,Nat.mul_zero,Nat.zero_div,TQ];exact sbq) (by simp only[D_0,List.drop_zero,List.nil_append];exact sw) ?_
   intro i hi
   have hll:(D i (sb X (q*M) i)++ls.drop i).length=L:=by rw[List.length_append,ae,List.length_drop];omega
   repeat (first|refine y_9 ?_)
   refine an (by rfl) (fun h=>?_) (fun h=>?_)
   ·rw[hll]at h
    have hmi:=hm.getD (by decide) i
    have hmv:=cP hm i
    have hcl:=L7 q M i hqW
    have hc1:=Et q M i
    have hc2:=Eu q M i
    have hbl:=NQ X (q*M) i
    have hgw:=Fp (q:=q) (M:=M) hls hL hX h
    have hb1:=og hqW hmi
    rw[hmv']at hmv
    rw[← hmv]at hc1 hc2
    have hw1:(q*ms.getD i 0%18446744073709551616+q*(M%Num.W^i)/Num.W^i)%18446744073709551616=q*M/Num.W^i%Num.W:=by rw[hc2];show _=_%18446744073709551616;omega
    have hw2:(q*ms.getD i 0/18446744073709551616+(q*ms.getD i 0%18446744073709551616+q*(M%Num.W^i)/Num.W^i)/18446744073709551616)%18446744073709551616=q*(M%Num.W^(i+1))/Num.W^(i+1):=by
     rw[hc1]
     have:q*(M%Num.W^i)/Num.W^i<18446744073709551616:=hcl
     show _=_/18446744073709551616
     generalize q*(M%Num.W^i)/Num.W^i=c at *
     generalize q*ms.getD i 0=z at *
     omega
    have hsc:=t8 X (q*M) i
    repeat (first|refine ah (by rfl) (by rfl) (by rfl) (pB sm ms i (by omega)) (RdW.old hrm) (by rfl) ?_|refine y_4 (ri q (ms.getD i 0) hqW hmi) ?_|refine Td ?_|rw[hw1]|rw[hw2]|rw[hgw]|refine g7 (by rfl) (by rfl) (by rfl) (wh _ _ _ hbl) (by rfl) ?_|refine y_9 ?_)
    rw[JI hL h rfl]
    refine ao (i+1) (by omega) (by omega) (by rw[hsc];exact sbq) sw
   ·rw[hll]at h
    have hie:i=L:=by omega
    subst hie
    have hXL:X<Num.W^i:=by rw[← hX,← hL];exact uz hls
    have hval:X-q*M<Num.W^i:=by omega
    rw[JH hqM hXL,List.drop_eq_nil_of_le (by omega),List.append_nil]
    repeat (first|refine y_9 ?_)
    refine ao (D i (X-q*M)) ⟨ae _ _,dw _ _,by rw[eU hval,L4 hqM,hX0],by rw[eU hval];omega⟩ ?_ sbq sw
    rw[eU hval]
    have:M≤q*M:=Nat.le_mul_of_pos_left M hq1
    omega
 ·have hlt:X<M:=by
   rcases Nat.lt_or_ge X M with h | h
   ·exact h
   ·rcases Nat.eq_or_lt_of_le h with h | h
    ·rw[vC h.symm]at hlt;exact absurd (by decide) hlt
    ·rw[pM h]at hlt;exact absurd (by decide) hlt
  have hfin:ls=D L (V ls0%M):=by
   refine uw hls hL ?_
   rw[hX,← hX0,Nat.mod_eq_of_lt hlt]
  rw[hfin]
  repeat (first|with_reducible refine v7 ?_|refine y_9 ?_)
  exact gB rfl fun _ hw=>aa hw (Wout:=[.sl sl ((D L (V ls0%M)).map (N .u64)) T]) (by exact sw) rfl
theorem yL{ms:List Nat}{n:Nat}(hn:n≤ms.length)(h:∀j,n≤j→ms.getD j 0=0):V (ms.take n)=V ms:=by
 have e:ms=ms.take n++List.replicate (ms.length-n) 0:=by
  apply List.ext_getElem?
  intro i
  rcases Nat.lt_or_ge i n with hi | hi
  ·rw[List.getElem?_append_left (by simp;omega),List.getElem?_take,if_pos hi]
  ·rw[List.getElem?_append_right (by simp;omega),List.getElem?_replicate]
   rcases Nat.lt_or_ge i ms.length with hl | hl
   ·have:=h i hi
    rw[List.getD_eq_getElem?_getD,List.getElem?_eq_getElem hl]at this
    rw[List.getElem?_eq_getElem hl,if_pos (by simp;omega)]
    simpa using this
   ·rw[List.getElem?_eq_none hl,if_neg (by simp;omega)]
 conv=>rhs;rw[e]
 rw[ml,P9,Nat.mul_zero,Nat.add_zero]
theorem JZ{a b:Prop}(k:b)(h:Rm b→a:=by intro k;(first|refine Z01 ?_|refine Z02 ?_|refine Z03 ?_|refine Z04 ?_|refine Z05 ?_|refine Z06 ?_|refine Z07 ?_|refine Z08 ?_|refine Z09 ?_|refine Z10 ?_|refine Z11 ?_|refine Z12 ?_|refine Z13 ?_|refine Z14 ?_|refine Z15 ?_|refine Z16 ?_|refine Z17 ?_|refine Z18 ?_|refine Z20 ?_|refine Z21 ?_|refine Z22 ?_|refine Z23 ?_|refine Z24 ?_|refine Z26 ?_|refine Z27 ?_|refine Z29 ?_|refine Z30 ?_|refine Z31 ?_|refine Z32 ?_|refine Z49 ?_|refine Z50 ?_|refine Z51 ?_|refine Z52 ?_|refine Z62 ?_|refine Z63 ?_|refine Z67 ?_|refine Z71 ?_|refine Z75 ?_|refine Z76 ?_);exact k.h):a:=h ⟨k⟩
theorem Pf{a b:Prop}(k:b)(h:Rm b→a:=by intro k;(first|refine y_5 ?_|refine Z01 ?_|refine Z02 ?_|refine Z03 ?_|refine Z04 ?_|refine Z05 ?_|refine Z06 ?_|refine Z07 ?_|refine Z08 ?_|refine Z09 ?_|refine Z10 ?_|refine Z11 ?_|refine Z12 ?_|refine Z13 ?_|refine Z14 ?_|refine Z15 ?_|refine Z16 ?_|refine Z17 ?_|refine Z18 ?_|refine Z20 ?_|refine Z21 ?_|refine Z22 ?_|refine Z23 ?_|refine Z24 ?_|refine Z26 ?_|refine Z27 ?_|refine Z29 ?_|refine Z30 ?_|refine Z31 ?_|refine Z32 ?_|refine Z49 ?_|refine Z50 ?_|refine Z51 ?_|refine Z52 ?_|refine Z62 ?_|refine Z63 ?_|refine Z67 ?_|refine Z71 ?_|refine Z75 ?_|refine Z76 ?_);exact k.h):a:=h ⟨k⟩
theorem Ph{a b:Prop}(k:b)(h:Rm b→a:=by intro k;(first|refine y_8 ?_|refine Z01 ?_|refine Z02 ?_|refine Z03 ?_|refine Z04 ?_|refine Z05 ?_|refine Z06 ?_|refine Z07 ?_|refine Z08 ?_|refine Z09 ?_|refine Z10 ?_|refine Z11 ?_|refine Z12 ?_|refine Z13 ?_|refine Z14 ?_|refine Z15 ?_|refine Z16 ?_|refine Z17 ?_|refine Z18 ?_|refine Z20 ?_|refine Z21 ?_|refine Z22 ?_|refine Z23 ?_|refine Z24 ?_|refine Z26 ?_|refine Z27 ?_|refine Z29 ?_|refine Z30 ?_|refine Z31 ?_|refine Z32 ?_|refine Z49 ?_|refine Z50 ?_|refine Z51 ?_|refine Z52 ?_|refine Z62 ?_|refine Z63 ?_|refine Z67 ?_|refine Z71 ?_|refine Z75 ?_|refine Z76 ?_);exact k.h):a:=h ⟨k⟩
set_option maxHeartbeats 4000000 in
theorem xJ(s t:Value)(xs ms:List Nat)(hx:Lt 18446744073709551616 xs)(hm:Lt 18446744073709551616 ms)(hl1:xs.length<1000000)(hl2:ms.length<1000000):
  Spec Tryz.prog 80 [s,t] (fun w=>Rd w s (xs.map (N .u64))∧Rd w t (ms.map (N .u64))) []
   (fun v Wr=>(V ms=0∧v = .tuple [.slice none 0 0,N .i64 30].toArray∧Wr=[])∨(0<V ms∧∃u,v = .tuple [u,N .i64 0].toArray∧Wr=[.sl u ((D ms.length (V xs%V ms)).map (N .u64)) 30])):=by
 refine ad Tryz.func80 rfl rfl rfl fun w hr=>?_
 have hr1:=RdC.mk0 hr.1
 have hr2:=RdC.mk0 hr.2
 repeat (first|refine fT (ι:=Nat) (fun n=>n≤ms.length∧(∀j,n≤j→ms.getD j 0=0)∧(n=0∨ms.getD (n-1) 0≠0)) (fun n=>[(0,s),(1,t),(6,N .i64 n)]) (fun _=>[]) ?_ ?_|refine JZ ?_|refine Z83 fun _=>?_)
 ·refine ay (ι:=Nat) (fun n=>n≤ms.length∧∀j,n≤j→ms.getD j 0=0) (fun n=>[(0,s),(1,t),(6,N .i64 n)]) (fun _=>[]) (fun n=>n) ms.length ⟨Nat.le_refl _,fun j hj=>xc hj⟩ sbq sw ?_
  rintro n ⟨hn,hz⟩
  by_cases h0:n=0
  ·repeat (first|refine Pf ?_|refine Z83 fun _=>?_)
   exact hO n ⟨hn,hz,.inl h0⟩ sbq sw
  ·have hnl:n-1<ms.length:=by omega
   by_cases hw:ms.getD (n-1) 0=0
   ·repeat (first|refine Ph ?_|refine Z83 fun _=>?_)
    refine ao (n-1) ⟨by omega,fun j hj=>?_⟩ (by omega) sbq sw
    rcases Nat.eq_or_lt_of_le hj with h | h
    ·rw[← h];exact hw
    ·exact hz j (by omega)
   ·repeat (first|refine y_8 ?_|rw[decide_eq_false hw]|refine JZ ?_|refine Z83 fun _=>?_)
    exact hO n ⟨hn,hz,.inr hw⟩ sbq sw
 rintro n ⟨hn,hz,htop⟩
 by_cases h0:n=0
 ·repeat (first|refine Ph ?_|refine Z83 fun _=>?_)
  refine Ze2 fun _ hw=>aa hw SubW.nil (.inl ⟨?_,rfl,rfl⟩)
  have:=yL hn hz
  rw[h0,List.take_zero,TI]at this
  exact this.symm
 have htop:ms.getD (n-1) 0≠0:=by rcases htop with h | h;exact absurd h h0;exact h
 obtain⟨M,hM⟩:∃M,V ms=M:=⟨_,rfl⟩
 have hMt:V (ms.take n)=M:=by rw[yL hn hz,hM]
 have htl:(ms.take n).length=n:=by rw[List.length_take];omega
 have htt:(ms.take n).getD (n-1) 0≠0:=by
  rw[List.getD_eq_getElem?_getD,List.getElem?_take,if_pos (by omega),← List.getD_eq_getElem?_getD];exact htop
 have htb:=hm.take n
 have hMp:0<M:=by rw[← hMt];exact Nat.lt_of_lt_of_le (bP _) (Hn htb htt)
 have hMW:M<Num.W^ms.length:=by rw[← hM];exact uz hm
 rw[hM]
 repeat (first|refine Pf ?_|refine Z83 fun _=>?_)
 rename_i u
 obtain⟨L,hL⟩:∃L,L=ms.length:=⟨_,rfl⟩
 refine ay (ι:=Nat) (fun j=>j≤xs.length) (fun j=>[(0,s),(1,t),(6,N .i64 n),(7,u),(8,.int .i64 ((j:Int)-1))]) (fun j=>[.sl u ((D (ms.length+1) (V xs/Num.W^j%M)).map (N .u64)) 30]) (fun j=>j) xs.length (Nat.le_refl _) sbq ?_ ?_
 ·rw[Nat.div_eq_of_lt (uz hx),Nat.zero_mod,nP]
  exact sw
 intro j hj
 have hDl:=ae (ms.length+1) (V xs/Num.W^j%M)
 repeat (first|refine JZ ?_|refine Z83 fun _=>?_)
 refine an (by rfl) (fun h=>?_) (fun h=>?_)
 ·have hp:(0:Int)≤(j:Int)-1:=h
  obtain⟨i,rfl⟩:∃i,j=i+1:=⟨j-1,by omega⟩
  rw[show((i+1:Nat):Int)-1=Int.ofNat i by simp]
  obtain⟨R,hR⟩:∃R,R=V xs/Num.W^(i+1)%M:=⟨_,rfl⟩
  rw[← hR]at hDl ⊢
  have hRM:R<M:=by rw[hR];exact Nat.mod_lt _ hMp
  have hRW:R<Num.W^(ms.length+1):=Nat.lt_of_lt_of_le (Nat.lt_trans hRM hMW) (K1 (Nat.le_succ _))
  have hxi:=hx.getD (by decide) i
  have hil:i<xs.length:=by omega
  have hDb:=dw (ms.length+1) R
  have hcl:(List.take 1 (D (ms.length+1) R)++List.take ((D (ms.length+1) R).length-1) (D (ms.length+1) R)).length=ms.length+1:=by rw[List.length_append,List.length_take,List.length_take,hDl];omega
  repeat (first|rw[List.length_map]|refine sK (lo:=1) (by rfl) (by rfl) fd (by omega) (by rfl) (by rfl) (by rfl) ?_|refine Z01 ?_|refine Z02 ?_|refine Z03 ?_|refine Z04 ?_|refine Z05 ?_|refine Z06 ?_|refine Z07 ?_|refine Z08 ?_|refine Z09 ?_|refine Z10 ?_|refine Z11 ?_|refine Z12 ?_|refine Z13 ?_|refine Z14 ?_|refine Z15 ?_|refine Z16 ?_|refine Z17 ?_|refine Z18 ?_|refine Z20 ?_|refine Z21 ?_|refine Z22 ?_|refine Z23 ?_|refine Z24 ?_|refine Z26 ?_|refine Z27 ?_|refine Z29 ?_|refine Z30 ?_|refine Z31 ?_|refine Z32 ?_|refine Z49 ?_|refine Z50 ?_|refine Z51 ?_|refine Z52 ?_|refine Z62 ?_|refine Z63 ?_|refine Z67 ?_|refine Z71 ?_|refine Z75 ?_|refine Z76 ?_|refine Z83 fun _=>?_)
  have hset:(List.take 1 (D (ms.length+1) R)++List.take ((D (ms.length+1) R).length-1) (D (ms.length+1) R)).set 0 (xs.getD i 0)=xs.getD i 0::(D (ms.length+1) R).take ms.length:=by
   rw[hDl,Nat.add_sub_cancel]
   cases hd:D (ms.length+1) R with
   | nil=>rw[hd]at hDl;simp at hDl
   | cons a r=>simp
  rw[hset]
  have hnb:Lt 18446744073709551616 (xs.getD i 0::(D (ms.length+1) R).take ms.length):=Num.Lt.cons hxi (hDb.take _)
  have hnl:(xs.getD i 0::(D (ms.length+1) R).take ms.length).length=ms.length+1:=by rw[List.length_cons,List.length_take,hDl];omega
  have hnv:V (xs.getD i 0::(D (ms.length+1) R).take ms.length)=xs.getD i 0+Num.W*R:=by
   rw[EW hDl hDb (by rw[eU hRW];exact Nat.lt_trans hRM hMW),eU hRW]
  have hnW:V (xs.getD i 0::(D (ms.length+1) R).take ms.length)<Num.W*M:=by
   rw[hnv]
   have:=Nat.mul_le_mul_left Num.W (show R+1≤M from hRM)
   rw[Nat.mul_add,Nat.mul_one]at this
   have h2:xs.getD i 0<Num.W:=hxi
   omega
  have hrv:V (xs.getD i 0::(D (ms.length+1) R).take ms.length)%M=V xs/Num.W^i%M:=by
   rw[hnv,hR,cP hx,H7]
  have hcut:List.drop 0 (List.take n ms)=ms.take n:=List.drop_zero
  have hsub:RdC ⟨w,fps []⟩ (sub t 0 n) ((ms.take n).map (N .u64)):=by
   have h:=RdC.subC (lo:=0) (hi:=n) (k:=.u64) hr2 (by omega) hn
   rw[hcut]at h;exact h
  repeat (first|(refine aw (by rfl) (by rfl) (by rfl) (Fo u _ 30 _ (ms.take n) (ms.length+1) n M hnb hnl htb htl (by omega) (by omega) (by omega) hMt htt hnW) (.cons fd .nil) (fun w' hw'=>RdC.toWin hsub hw' (.cons Find.here .nil)) (by rfl) ?_;rintro v _ rfl;rw[hrv])|refine JZ ?_|refine Z83 fun _=>?_)
  refine ao i (by omega) (by omega) ?_ sw
  rw[show((i:Int)-1)=Int.ofNat i-Int.ofNat 1 from rfl]
  exact sbq
 ·have hp:¬(0:Int)≤(j:Int)-1:=h
  have hj0:j=0:=by omega
  subst hj0
  rw[Nat.pow_zero,Nat.div_one]at hDl ⊢
  have hRM:V xs%M<M:=Nat.mod_lt _ hMp
  repeat (first|refine JZ ?_|refine Z83 fun _=>?_)
  refine nE (s:=u) 0 ms.length fd (by omega) (by rw[List.length_map,hDl];omega) ?_
  have hcut:List.drop 0 (List.take ms.length (List.map (N .u64) (D (ms.length+1) (V xs%M))))=(D ms.length (V xs%M)).map (N .u64):=by
   rw[List.drop_zero,← List.map_take]
   congr 1
   refine uw ((dw _ _).take _) (by rw[List.length_take,hDl];omega) ?_
   rw[FU (dw _ _),V_D,Nat.mod_eq_of_lt (a:=V xs%M) (Nat.lt_of_lt_of_le (Nat.lt_trans hRM hMW) (K1 (Nat.le_succ _))),Nat.mod_eq_of_lt (Nat.lt_trans hRM hMW)]
  rw[hcut]
  exact Ze2 fun _ hw=>aa hw (Wout:=[.sl (sub u 0 ms.length) ((D ms.length (V xs%M)).map (N .u64)) 30]) (by exact sw) (.inr ⟨hMp,_,rfl,rfl⟩)
end
end Go.Proofs.YtndhfbecpghinaaGreat.L
namespace Go.Proofs.YtndhfbecpghinaaGreat.Sha
def rr(x k:Nat):Nat:=(x >>> k) ||| ((x <<< (32-k))%4294967296)
def s0(x:Nat):Nat:=rr x 7 ^^^ rr x 18 ^^^ (x >>> 3)
def s1(x:Nat):Nat:=rr x 17 ^^^ rr x 19 ^^^ (x >>> 10)
def S1(x:Nat):Nat:=rr x 6 ^^^ rr x 11 ^^^ rr x 25
def S0(x:Nat):Nat:=rr x 2 ^^^ rr x 13 ^^^ rr x 22
def ch(e f g:Nat):Nat:=g ^^^ (e &&& (f ^^^ g))
def maj(a b c:Nat):Nat:=(a &&& b) ||| (c &&& (a ||| b))
def Kt:List Nat:=[
 0x428a2f98,0x71374491,0xb5c0fbcf,0xe9b5dba5,0x3956c25b,0x59f111f1,0x923f82a4,0xab1c5ed5,
 0xd807aa98,0x12835b01,0x243185be,0x550c7dc3,0x72be5d74,0x80deb1fe,0x9bdc06a7,0xc19bf174,
 0xe49b69c1,0xefbe4786,0x0fc19dc6,0x240ca1cc,0x2de92c6f,0x4a7484aa,0x5cb0a9dc,0x76f988da,
 0x983e5152,0xa831c66d,0xb00327c8,0xbf597fc7,0xc6e00bf3,0xd5a79147,0x06ca6351,0x14292967,
 0x27b70a85,0x2e1b2138,0x4d2c6dfc,0x53380d13,0x650a7354,0x766a0abb,0x81c2c92e,0x92722c85,
 0xa2bfe8a1,0xa81a664b,0xc24b8b70,0xc76c51a3,0xd192e819,0xd6990624,0xf40e3585,0x106aa070,
 0x19a4c116,0x1e376c08,0x2748774c,0x34b0bcb5,0x391c0cb3,0x4ed8aa4a,0x5b9cca4f,0x682e6ff3,
 0x748f82ee,0x78a5636f,0x84c87814,0x8cc70208,0x90befffa,0xa4506ceb,0xbef9a3f7,0xc67178f2]
def H0:List Nat:=[0x6a09e667,0xbb67ae85,0x3c6ef372,0xa54ff53a,0x510e527f,0x9b05688c,0x1f83d9ab,0x5be0cd19]
def be4(blk:List Nat)(t:Nat):Nat:=blk.getD (4*t) 0*16777216+blk.getD (4*t+1) 0*65536+blk.getD (4*t+2) 0*256+blk.getD (4*t+3) 0
def Fz(blk ws:List Nat)(t:Nat):Nat:=
 if t<16 then be4 blk t
 else(s1 (ws.getD (t-2) 0)+ws.getD (t-7) 0+s0 (ws.getD (t-15) 0)+ws.getD (t-16) 0)%4294967296
def sch(blk:List Nat):Nat→List Nat
 | 0=>[]
 | t+1=>sch blk t++[Fz blk (sch blk t) t]
def rnd(k w:Nat):List Nat→List Nat
 | [a,b,c,d,e,f,g,h]=>
  let t1:=(h+S1 e+ch e f g+k+w)%4294967296
  [(t1+(S0 a+maj a b c)%4294967296)%4294967296,a,b,c,(d+t1)%4294967296,e,f,g]
 | s=>s
def jW(ws h:List Nat):Nat→List Nat
 | 0=>h
 | t+1=>rnd (Kt.getD t 0) (ws.getD t 0) (jW ws h t)
def lF:List Nat→List Nat→List Nat
 | x::xs,y::ys=>(x+y)%4294967296::lF xs ys
 | _,_=>[]
def wg(h blk:List Nat):List Nat:=lF (jW (sch blk 64) h 64) h
def be8(x:Nat):List Nat:=[x >>> 56%256,x >>> 48%256,x >>> 40%256,x >>> 32%256,x >>> 24%256,x >>> 16%256,x >>> 8%256,x%256]
def bA(n:Nat):Nat:=(n+9+63)/64*64
def pad(b:List Nat):List Nat:=b++128::List.replicate (bA b.length-b.length-9) 0++be8 (8*b.length)
def lc(p:List Nat):Nat→List Nat
 | 0=>H0
 | k+1=>wg (lc p k) ((p.drop (64*k)).take 64)
def bytes(h:List Nat):List Nat:=(List.range 32).map fun i=>(h.getD (i/4) 0 >>> (24-8*(i%4)))%256
def sum(b:List Nat):List Nat:=bytes (lc (pad b) (bA b.length/64))
def Lt(m:Nat)(xs:List Nat):Prop:=∀x∈xs,x<m
theorem Lt.getD{m:Nat}{xs:List Nat}(h:Lt m xs)(hm:0<m)(i:Nat):xs.getD i 0<m:=by
 rw[List.getD_eq_getElem?_getD]
 cases hi:xs[i]? with
 | none=>simpa using hm
 | some v=>exact h v (List.mem_of_getElem? hi)
theorem np{x:Nat}(k:Nat)(h:x<4294967296):rr x k<4294967296:=by
 unfold rr
 refine Nat.or_lt_two_pow (n:=32) ?_ (Nat.mod_lt _ (by decide))
 rw[Nat.shiftRight_eq_div_pow]
 exact Nat.lt_of_le_of_lt (Nat.div_le_self _ _) h
theorem Je{x:Nat}(k:Nat)(h:x<4294967296):x >>> k<4294967296:=by
 rw[Nat.shiftRight_eq_div_pow]
 exact Nat.lt_of_le_of_lt (Nat.div_le_self _ _) h
theorem Bf{x y:Nat}(hx:x<4294967296)(hy:y<4294967296):x ^^^ y<4294967296:=Nat.xor_lt_two_pow (n:=32) hx hy
theorem UR{x y:Nat}(hx:x<4294967296)(hy:y<4294967296):x ||| y<4294967296:=Nat.or_lt_two_pow (n:=32) hx hy
theorem zL{x y:Nat}(hx:x<4294967296):x &&& y<4294967296:=Nat.lt_of_le_of_lt Nat.and_le_left hx
theorem Qc{blk:List Nat}(h:Lt 256 blk)(t:Nat):be4 blk t<4294967296:=by
 unfold be4
 have h0:=h.getD (by decide) (4*t)
 have h1:=h.getD (by decide) (4*t+1)
 have h2:=h.getD (by decide) (4*t+2)
 have h3:=h.getD (by decide) (4*t+3)
 omega
theorem Nx{blk ws:List Nat}(h:Lt 256 blk)(t:Nat):Fz blk ws t<4294967296:=by
 unfold Fz;split
 ·exact Qc h t
 ·exact Nat.mod_lt _ (by decide)
theorem nr(blk:List Nat):∀t,(sch blk t).length=t
 | 0=>rfl
 | t+1=>by simp[sch,nr blk t]
theorem AR{blk:List Nat}(h:Lt 256 blk):∀t,Lt 4294967296 (sch blk t)
 | 0=>by simp[sch,Lt]
 | t+1=>by
  intro x hx
  simp only[sch,List.mem_append,List.mem_singleton]at hx
  rcases hx with hx | rfl
  ·exact AR h t x hx
  ·exact Nx h t
theorem n7(xs ys:List Nat){i:Nat}(h:i<xs.length):(xs++ys).getD i 0=xs.getD i 0:=by
 simp[List.getD_eq_getElem?_getD,List.getElem?_append_left h]
theorem MK(k w:Nat):∀s:List Nat,(rnd k w s).length=s.length
 | []=>rfl | [_]=>rfl | [_,_]=>rfl | [_,_,_]=>rfl | [_,_,_,_]=>rfl | [_,_,_,_,_]=>rfl | [_,_,_,_,_,_]=>rfl | [_,_,_,_,_,_,_]=>rfl
 | [_,_,_,_,_,_,_,_]=>rfl
 | _::_::_::_::_::_::_::_::_::_=>rfl
theorem UD{s:List Nat}(h:s.length=8):∃a b c d e f g i,s=[a,b,c,d,e,f,g,i]:=by
 match s,h with
 | [a,b,c,d,e,f,g,i],_=>exact⟨a,b,c,d,e,f,g,i,rfl⟩
theorem Si{k w:Nat}{s:List Nat}(hl:s.length=8)(h:Lt 4294967296 s):Lt 4294967296 (rnd k w s):=by
 obtain⟨a,b,c,d,e,f,g,i,rfl⟩:=UD hl
 simp only[Lt,rnd,List.mem_cons,List.not_mem_nil,or_false,forall_eq_or_imp,forall_eq]at h ⊢
 obtain⟨h1,h2,h3,h4,h5,h6,h7,h8⟩:=h
 exact⟨Nat.mod_lt _ (by decide),h1,h2,h3,Nat.mod_lt _ (by decide),h5,h6,h7⟩
theorem kr(ws h:List Nat):∀t,(jW ws h t).length=h.length
 | 0=>rfl
 | t+1=>by simp[jW,MK,kr ws h t]
theorem CC{ws h:List Nat}(hl:h.length=8)(hh:Lt 4294967296 h):∀t,Lt 4294967296 (jW ws h t)
 | 0=>hh
 | t+1=>Si (by rw[kr,hl]) (CC hl hh t)
theorem qe:∀{xs ys:List Nat},xs.length=ys.length→(lF xs ys).length=xs.length
 | [],[],_=>rfl
 | x::xs,y::ys,h=>by simp[lF,qe (xs:=xs) (ys:=ys) (by simpa using h)]
 | [],_::_,h=>by simp at h
 | _::_,[],h=>by simp at h
theorem Bt:∀xs ys:List Nat,Lt 4294967296 (lF xs ys)
 | [],_=>by simp[lF,Lt]
 | _::_,[]=>by simp[lF,Lt]
 | x::xs,y::ys=>by
  intro z hz
  simp only[lF,List.mem_cons]at hz
  rcases hz with rfl | hz
  ·exact Nat.mod_lt _ (by decide)
  ·exact Bt xs ys z hz
theorem yJ{h blk:List Nat}(hl:h.length=8):(wg h blk).length=8:=by
 unfold wg;rw[qe (by rw[kr]),kr,hl]
theorem Nj(h blk:List Nat):Lt 4294967296 (wg h blk):=Bt _ _
theorem qJ(p:List Nat):∀k,(lc p k).length=8
 | 0=>rfl
 | k+1=>yJ (qJ p k)
theorem Tz:Lt 4294967296 H0:=by unfold Lt H0;decide
theorem Lo(p:List Nat):∀k,Lt 4294967296 (lc p k)
 | 0=>Tz
 | _+1=>Nj _ _
theorem sR(h:List Nat):(bytes h).length=32:=by simp[bytes]
theorem kV(b:List Nat):(sum b).length=32:=sR _
theorem F8(h:List Nat):Lt 256 (bytes h):=by
 intro x hx
 simp only[bytes,List.mem_map]at hx
 obtain⟨i,_,rfl⟩:=hx
 exact Nat.mod_lt _ (by decide)
theorem JD(b:List Nat):Lt 256 (sum b):=F8 _
theorem P1:Kt.length=64:=by decide
theorem K8(x:Nat):(be8 x).length=8:=rfl
theorem fD(n:Nat):n+9≤bA n∧bA n≤n+72∧bA n%64=0:=by unfold bA;omega
theorem Me(b:List Nat):(pad b).length=bA b.length:=by
 have:=fD b.length
 simp[pad,K8];omega
theorem Qd(x:Nat):Lt 256 (be8 x):=by
 intro y hy
 simp only[be8,List.mem_cons,List.not_mem_nil,or_false]at hy
 rcases hy with rfl | rfl | rfl | rfl | rfl | rfl | rfl | rfl <;> exact Nat.mod_lt _ (by decide)
theorem RT{b:List Nat}(h:Lt 256 b):Lt 256 (pad b):=by
 intro x hx
 simp only[pad,List.mem_append,List.mem_cons,List.mem_replicate]at hx
 rcases hx with(hx | rfl | ⟨_,rfl⟩) | hx
 ·exact h x hx
 ·decide
 ·decide
 ·exact Qd _ x hx
theorem RP(x y:Nat)(hy:y<256)(hx:x<16777216):((x <<< 8)%4294967296) ||| y=x*256+y:=by
 rw[Nat.shiftLeft_eq,Nat.mod_eq_of_lt (by omega)]
 have:=Nat.shiftLeft_add_eq_or_of_lt (a:=x) (b:=y) (i:=8) hy
 rw[Nat.shiftLeft_eq]at this
 exact this.symm
theorem Ij:∀k:Nat,k<32→0<k→((-(k:Int)%18446744073709551616).toNat%18446744073709551616 &&& 31)=32-k:=by decide
def pw(blk:List Nat)(t:Nat):Nat→Nat
 | 0=>0
 | j+1=>pw blk t j*256+blk.getD (4*t+j) 0
theorem Ox{blk:List Nat}(h:Lt 256 blk)(t:Nat):∀j,pw blk t j<256^j
 | 0=>by simp[pw]
 | j+1=>by
  have:=Ox h t j
  have h2:=h.getD (by decide) (4*t+j)
  simp only[pw,Nat.pow_succ];omega
theorem WY(blk:List Nat)(t:Nat):pw blk t 4=be4 blk t:=by simp only[pw,be4,Nat.add_zero];omega
theorem R2(blk:List Nat)(t:Nat):pw blk t 0=0:=rfl
theorem MA(blk:List Nat)(t j:Nat):pw blk t (j+1)=pw blk t j*256+blk.getD (4*t+j) 0:=rfl
theorem Ho(ys:List Nat)(lo hi j:Nat)(h:lo+j<hi):((ys.take hi).drop lo).getD j 0=ys.getD (lo+j) 0:=by
 simp only[List.getD_eq_getElem?_getD,List.getElem?_drop,List.getElem?_take,if_pos h]
theorem Lv(xs ys:List Nat)(x i:Nat)(h:xs.length=i):(xs++x::ys).getD i 0=x:=by
 subst h;simp[List.getD_eq_getElem?_getD]
theorem vQ(xs ys:List Nat)(x y i:Nat)(h:xs.length=i):(xs++x::ys).set i y=xs++y::ys:=by
 subst h;rw[List.set_append_right _ _ (by omega)];simp
theorem Wn(a b c d:Nat):(((a+b)%4294967296+c)%4294967296+d)%4294967296=(a+b+c+d)%4294967296:=by omega
theorem Wo(a b c d e:Nat):((((a+b)%4294967296+c)%4294967296+d)%4294967296+e)%4294967296=(a+b+c+d+e)%4294967296:=by omega
theorem x9(t:Nat)(h:t<64):List.replicate (64-t) 0=0::List.replicate (64-(t+1)) 0:=by
 rw[show 64-t=(64-(t+1))+1 by omega,List.replicate_succ]
theorem Ve(blk:List Nat):sch blk 0++List.replicate (64-0) 0=List.replicate 64 0:=rfl
theorem Sk(blk:List Nat):sch blk 64++List.replicate (64-64) 0=sch blk 64:=by simp
theorem Sm(blk:List Nat)(t:Nat)(h:t<16):sch blk t++be4 blk t::List.replicate (64-(t+1)) 0=sch blk (t+1)++List.replicate (64-(t+1)) 0:=by
 simp only[sch,Fz,if_pos h,List.append_assoc,List.singleton_append]
theorem ML(blk:List Nat)(t:Nat)(h:16≤t)(h':t<64):
  (sch blk t++List.replicate (64-t) 0).set t ((((rr ((sch blk t).getD (t-2) 0) 17 ^^^ rr ((sch blk t).getD (t-2) 0) 19 ^^^ ((sch blk t).getD (t-2) 0 >>> 10))+(sch blk t).getD (t-7) 0 +
   (rr ((sch blk t).getD (t-15) 0) 7 ^^^ rr ((sch blk t).getD (t-15) 0) 18 ^^^ ((sch blk t).getD (t-15) 0 >>> 3))+(sch blk t).getD (t-16) 0)%4294967296))=sch blk (t+1)++List.replicate (64-(t+1)) 0:=by
 rw[x9 t h',vQ _ _ _ _ _ (nr blk t)]
 simp only[sch,Fz,if_neg (show ¬t<16 by omega),List.append_assoc,List.singleton_append,s0,s1]
def ju(ys xs:List Nat)(i:Nat):List Nat:=ys.take i++xs.drop i
theorem mR{ys xs:List Nat}(h:ys.length=xs.length)(i:Nat):(ju ys xs i).length=xs.length:=by simp[ju];omega
theorem vl(ys xs:List Nat):ju ys xs 0=xs:=by simp[ju]
theorem mQ{ys xs:List Nat}(h:ys.length=xs.length):ju ys xs xs.length=ys:=by simp[ju,← h]
theorem tq{ys xs:List Nat}(h:ys.length=xs.length){i:Nat}(hi:i<xs.length):(ju ys xs i).getD i 0=xs.getD i 0:=by
 simp only[ju,List.getD_eq_getElem?_getD]
 rw[List.getElem?_append_right (by simp;omega)]
 simp[Nat.min_eq_left (show i≤ys.length by omega)]
theorem mS{ys xs:List Nat}(h:ys.length=xs.length){i:Nat}(hi:i<xs.length):(ju ys xs i).set i (ys.getD i 0)=ju ys xs (i+1):=by
 simp only[ju]
 have hl:(ys.take i).length=i:=by simp;omega
 rw[List.set_append_right _ _ (by omega),hl,Nat.sub_self,List.drop_eq_getElem_cons hi,List.set_cons_zero,List.take_succ_eq_append_getElem (show i<ys.length by omega)]
 simp[List.getD_eq_getElem?_getD,show i<ys.length by omega,-List.take_append_getElem]
theorem sP:∀{xs ys:List Nat},xs.length=ys.length→∀{i:Nat},i<xs.length→(lF xs ys).getD i 0=(xs.getD i 0+ys.getD i 0)%4294967296
 | x::xs,y::ys,h,0,_=>rfl
 | x::xs,y::ys,h,i+1,hi=>by
  have:=sP (xs:=xs) (ys:=ys) (by simpa using h) (i:=i) (by simpa using hi)
  simpa[lF]using this
 | [],_,_,_,hi=>by simp at hi
 | _::_,[],h,_,_=>by simp at h
theorem Sj(ws h:List Nat):jW ws h 0=h:=rfl
theorem EP(ws h:List Nat)(t:Nat):jW ws h (t+1)=rnd (Kt.getD t 0) (ws.getD t 0) (jW ws h t):=rfl
theorem MJ(k w a b c d e f g h:Nat):rnd k w [a,b,c,d,e,f,g,h] =
  [((h+S1 e+ch e f g+k+w)%4294967296+(S0 a+maj a b c)%4294967296)%4294967296,a,b,c,(d+(h+S1 e+ch e f g+k+w)%4294967296)%4294967296,e,f,g]:=rfl
theorem P7(x:Nat):S1 x=rr x 6 ^^^ rr x 11 ^^^ rr x 25:=rfl
theorem P6(x:Nat):S0 x=rr x 2 ^^^ rr x 13 ^^^ rr x 22:=rfl
theorem Jz(h blk:List Nat):wg h blk=lF (jW (sch blk 64) h 64) h:=rfl
theorem Qx(e f g:Nat)(he:e<4294967296)(hf:f<4294967296)(hg:g<4294967296):g%4294967296 ^^^ (e%4294967296 &&& (f%4294967296 ^^^ g%4294967296)%4294967296)%4294967296=ch e f g:=by
 rw[Nat.mod_eq_of_lt he,Nat.mod_eq_of_lt hf,Nat.mod_eq_of_lt hg,Nat.mod_eq_of_lt (Bf hf hg),Nat.mod_eq_of_lt (zL he)];rfl
theorem LZ(a b c:Nat)(ha:a<4294967296)(hb:b<4294967296)(hc:c<4294967296):(a%4294967296 &&& b%4294967296)%4294967296 ||| (c%4294967296 &&& (a%4294967296 ||| b%4294967296)%4294967296)%4294967296=maj a b c:=by
 rw[Nat.mod_eq_of_lt ha,Nat.mod_eq_of_lt hb,Nat.mod_eq_of_lt hc,Nat.mod_eq_of_lt (UR ha hb),Nat.mod_eq_of_lt (zL ha),Nat.mod_eq_of_lt (zL hc)];rfl
def eL(K i:Nat):List Nat:=List.replicate (8-i) 0++(be8 K).drop (8-i)
theorem Fm(K i:Nat)(h:i<8):(eL K i).set (7-i) ((K >>> (8*i))%256)=eL K (i+1):=by
 match i,h with
 | 0,_=>simp[eL,be8,List.replicate]
 | 1,_=>simp[eL,be8,List.replicate]
 | 2,_=>simp[eL,be8,List.replicate]
 | 3,_=>simp[eL,be8,List.replicate]
 | 4,_=>simp[eL,be8,List.replicate]
 | 5,_=>simp[eL,be8,List.replicate]
 | 6,_=>simp[eL,be8,List.replicate]
 | 7,_=>simp[eL,be8]
theorem Fl(K i:Nat):(eL K i).length=8:=by simp[eL,be8]
def sD(b:List Nat):List Nat:=b++128::List.replicate (bA b.length-b.length-9) 0
theorem xR(b:List Nat):(sD b).length=bA b.length-8:=by
 have:=fD b.length
 simp[sD];omega
theorem RS(b:List Nat):sD b++eL (8*b.length) 8=pad b:=by simp[sD,eL,pad]
theorem Ez(b:List Nat)(K:Nat):(b.take (bA b.length)++(List.replicate (bA b.length) 0).drop (min b.length (bA b.length))).set b.length 128=sD b++eL K 0:=by
 have:=fD b.length
 rw[List.take_of_length_le (by omega),Nat.min_eq_left (by omega),List.drop_replicate,show bA b.length-b.length=(bA b.length-b.length-9)+8+1 by omega,List.replicate_succ,vQ _ _ _ _ _ rfl]
 have e:List.replicate (bA b.length-b.length-9+8) 0=List.replicate (bA b.length-b.length-9) 0++List.replicate 8 0:=by rw[List.replicate_append_replicate]
 rw[e]
 simp[sD,eL,be8]
theorem Mf(b:List Nat)(K i:Nat)(h:i<8):(sD b++eL K i).set (bA b.length-1-i) ((K >>> (8*i))%256)=sD b++eL K (i+1):=by
 have:=fD b.length
 have hl:=xR b
 rw[List.set_append_right _ _ (by omega),hl,show bA b.length-1-i-(bA b.length-8)=7-i by omega,Fm K i h]
theorem AF(n:Nat):(n+9+63)/64*64=bA n:=rfl
theorem Ld(p:List Nat)(k:Nat)(h:64*k+64≤p.length):((p.drop (64*k)).take 64).length=64:=by simp;omega
theorem QA{m:Nat}{p:List Nat}(h:Lt m p)(k:Nat):Lt m ((p.drop (64*k)).take 64):=fun x hx=>h x (List.mem_of_mem_drop (List.mem_of_mem_take hx))
theorem QW(p:List Nat):lc p 0=H0:=rfl
theorem D4(p:List Nat)(k:Nat):lc p (k+1)=wg (lc p k) ((p.drop (64*k)).take 64):=rfl
theorem zR(h:List Nat){i:Nat}(hi:i<32):(bytes h).getD i 0=(h.getD (i/4) 0 >>> (24-8*(i%4)))%256:=by
 simp[bytes,List.getD_eq_getElem?_getD,hi]
theorem Np(b:List Nat):sum b=bytes (lc (pad b) (bA b.length/64)):=rfl
attribute [irreducible] rr s0 s1 S0 S1 ch maj be4 Fz sch rnd jW lF wg be8 bA pad lc bytes sum pw eL sD ju
end Go.Proofs.YtndhfbecpghinaaGreat.Sha
namespace Go.Proofs.YtndhfbecpghinaaGreat.L
open Go Go.Proofs
set_option maxRecDepth 100000
section
attribute [local irreducible] Code.wp wpList Af bodyPost L.Go
open Sha
theorem VB{a b:Prop}(k:b)(h:Rm b→a:=by intro k;(first|refine Z01 ?_|refine Z02 ?_|refine Z03 ?_|refine Z04 ?_|refine Z05 ?_|refine Z06 ?_|refine Z07 ?_|refine Z08 ?_|refine Z09 ?_|refine Z10 ?_|refine Z11 ?_|refine Z12 ?_|refine Z13 ?_|refine Z14 ?_|refine Z34 ?_|refine Z40 ?_|refine Z41 ?_|refine Z42 ?_|refine Z43 ?_|refine Z44 ?_|refine Z45 ?_|refine Z74 ?_);exact k.h):a:=h ⟨k⟩
theorem ja(x k:Nat)(hx:x<4294967296)(hk0:0<k)(hk:k<32):
  Spec Tryz.prog 154 [N .u32 x,.int .i64 (-(k:Int))] ai [] (IsV (N .u32 (rr x k))):=by
 refine ad Tryz.func154 rfl rfl rfl fun w _=>?_
 have e:=Ij k hk hk0
 repeat (first|refine VB ?_)
 have e':((-(k:Int)%((18446744073709551616:Nat):Int)).toNat%18446744073709551616 &&& 31%18446744073709551616)=32-k:=e
 rw[e']
 have e2:(32+(18446744073709551616-(32-k)%18446744073709551616))%18446744073709551616=k:=by omega
 rw[e2]
 repeat (first|refine VB ?_)
 refine Ze1 fun _ hw=>aa hw SubW.nil ⟨?_,rfl⟩
 rw[show(4294967296:Nat)=2^32 from rfl,Nat.mod_mod,Nat.mod_eq_of_lt (Je k hx),Nat.or_comm]
 unfold rr;rfl
theorem VC{a b:Prop}(k:b)(h:Rm b→a:=by intro k;(first|refine Z01 ?_|refine Z02 ?_|refine Z03 ?_|refine Z04 ?_|refine Z05 ?_|refine Z06 ?_|refine Z07 ?_|refine Z08 ?_|refine Z09 ?_|refine Z10 ?_|refine Z11 ?_|refine Z12 ?_|refine Z13 ?_|refine Z14 ?_|refine Z39 ?_|refine Z42 ?_|refine Z72 ?_);exact k.h):a:=h ⟨k⟩
theorem q8(x p q r:Nat)(hx:x<4294967296)(hp:0<p∧p<32)(hq:0<q∧q<32)(hr:r<32):
  Spec Tryz.prog 166 [N .u32 x,N .i64 p,N .i64 q,N .i64 r] ai [] (IsV (N .u32 (rr x p ^^^ rr x q ^^^ (x >>> r)))):=by
 refine ad Tryz.func166 rfl rfl rfl fun w _=>?_
 repeat (first|refine VC ?_)
 refine au (by rfl) ?_
 repeat (first|(refine Zqf (by intro _ _ _;(first|refine y_4 (ja x p hx hp.1 hp.2) ?_|refine y_4 (ja x q hx hq.1 hq.2) ?_|refine Z01 ?_|refine Z02 ?_|refine Z39 ?_|refine Z42 ?_|refine Z72 ?_);exact Zq) ?_)|refine Zqn ?_)
 refine Zq0 ?_ (by kernel_rfl)
 repeat (first|refine VC ?_)
 refine Ze1 fun _ hw=>aa hw SubW.nil ⟨?_,rfl⟩
 rw[Nat.mod_eq_of_lt (np p hx),Nat.mod_eq_of_lt (np q hx),Nat.mod_eq_of_lt (Bf (np p hx) (np q hx)),Nat.mod_eq_of_lt (Je r hx)]
theorem wL(x p q r:Nat)(hx:x<4294967296)(hp:0<p∧p<32)(hq:0<q∧q<32)(hr:0<r∧r<32):
  Spec Tryz.prog 153 [N .u32 x,N .i64 p,N .i64 q,N .i64 r] ai [] (IsV (N .u32 (rr x p ^^^ rr x q ^^^ rr x r))):=by
 refine ad Tryz.func153 rfl rfl rfl fun w _=>?_
 repeat (first|refine y_4 (ja x p hx hp.1 hp.2) ?_|refine y_4 (ja x q hx hq.1 hq.2) ?_|refine y_4 (ja x r hx hr.1 hr.2) ?_|refine Z01 ?_|refine Z02 ?_|refine Z03 ?_|refine Z04 ?_|refine Z05 ?_|refine Z06 ?_|refine Z07 ?_|refine Z08 ?_|refine Z09 ?_|refine Z10 ?_|refine Z11 ?_|refine Z12 ?_|refine Z13 ?_|refine Z14 ?_|refine Z39 ?_|refine Z72 ?_)
 refine Ze1 fun _ hw=>aa hw SubW.nil ⟨?_,rfl⟩
 rw[Nat.mod_eq_of_lt (np p hx),Nat.mod_eq_of_lt (np q hx),Nat.mod_eq_of_lt (Bf (np p hx) (np q hx)),Nat.mod_eq_of_lt (np r hx)]
theorem Te{a b:Prop}(k:b)(h:Rm b→a:=by intro k;refine aq (v:=LV .u32 (List.replicate 8 0)) (by rfl) (by rfl) ?_;exact k.h):a:=h ⟨k⟩
theorem Tf{a b:Prop}(k:b)(h:Rm b→a:=by intro k;(first|refine Z03 ?_|refine Z04 ?_|refine Z05 ?_|refine Z06 ?_|refine Z07 ?_|refine Z08 ?_|refine Z09 ?_|refine Z10 ?_|refine Z11 ?_|refine Z12 ?_|refine Z13 ?_|refine Z14 ?_|refine Z29 ?_|refine Z30 ?_|refine Z31 ?_|refine Z32 ?_);exact k.h):a:=h ⟨k⟩
theorem zN:Spec Tryz.prog 135 [] ai [] (IsV (LV .u32 H0)):=by
 refine ad Tryz.func135 rfl rfl rfl fun w _=>?_
 repeat (first|(refine Te ?_;intro _)|refine nt (vs:=H0.map (N .u32)) (by rfl) (by rfl) (by rfl) (by rfl) (by rfl) (by rfl) (by rfl) (by rfl) (by rfl) ?_|refine Tf ?_|refine Z82 fun _=>?_)
 refine Zec fun _ hw=>aa hw SubW.nil ⟨?_,rfl⟩
 rfl
theorem oH{a b:Prop}(k:b)(h:Rm b→a:=by intro k;(first|refine Z01 ?_|refine Z02 ?_|refine Z03 ?_|refine Z04 ?_|refine Z05 ?_|refine Z06 ?_|refine Z07 ?_|refine Z08 ?_|refine Z09 ?_|refine Z10 ?_|refine Z11 ?_|refine Z12 ?_|refine Z13 ?_|refine Z14 ?_|refine Z15 ?_|refine Z16 ?_|refine Z17 ?_|refine Z18 ?_|refine Z20 ?_|refine Z21 ?_|refine Z22 ?_|refine Z23 ?_|refine Z24 ?_|refine Z26 ?_|refine Z27 ?_|refine Z29 ?_|refine Z30 ?_|refine Z31 ?_|refine Z32 ?_|refine Z33 ?_|refine Z36 ?_|refine Z41 ?_|refine Z43 ?_|refine Z44 ?_|refine Z45 ?_|refine Z46 ?_|refine Z62 ?_|refine Z63 ?_|refine Z67 ?_|refine Z71 ?_|refine Z74 ?_);exact k.h):a:=h ⟨k⟩
theorem Tg{a b:Prop}(k:b)(h:Rm b→a:=by intro k;(first|refine Z24 ?_|refine Z26 ?_|refine Z27 ?_|refine Z67 ?_|refine Z23 ?_|refine Z20 ?_|refine Z21 ?_|refine Z62 ?_);exact k.h):a:=h ⟨k⟩
set_option maxHeartbeats 1000000 in
theorem sG(bb:Nat)(U:TypeId)(blk:List Nat)(hl:blk.length=64)(hb:Lt 256 blk):
  Spec Tryz.prog 152 [pt bb 0] ai [.blk bb (LV .u8 blk) U] (fun v W=>v=LV .u32 (sch blk 64)∧W=[.blk bb (LV .u8 blk) U]):=by
 refine ad Tryz.func152 rfl rfl rfl fun w _=>?_
 repeat (first|refine aq (v:=LV .u32 (List.replicate 64 0)) (by rfl) (by rfl) fun _=>?_|refine oH ?_|refine Z82 fun _=>?_)
 rename_i b
 refine ay (ι:=Nat) (fun t=>t≤16) (fun t=>[(0,pt bb 0),(2,pt b 0),(8,N .i64 t)]) (fun t=>[.blk b (LV .u32 (sch blk t++List.replicate (64-t) 0)) 189,.blk bb (LV .u8 blk) U]) (fun t=>16-t) 0 (by omega) sbq (by rw[Ve];exact sw) ?_
 intro t ht
 have hsl:=nr blk t
 repeat (first|refine oH ?_|refine Z82 fun _=>?_)
 refine an (by rfl) (fun h=>?_) (fun h=>?_)
 ·have hcut:(List.drop (4*t) (List.take (4*t+4) blk)).length=4:=by simp;omega
  repeat (first|refine oH ?_|refine Z82 fun _=>?_)
  rw[hcut]
  repeat (first|refine oH ?_|refine Z82 fun _=>?_)
  refine ay (ι:=Nat) (fun j=>j≤4) (fun j=>[(0,pt bb 0),(2,pt b 0),(3,N .i64 t),(8,N .i64 t),(18,fi bb 64 (4*t) (4*t+4)),(19,N .i64 4),(20,N .i64 j)])
   (fun j=>[.blk b (LV .u32 (sch blk t++pw blk t j::List.replicate (64-(t+1)) 0)) 189,.blk bb (LV .u8 blk) U]) (fun j=>4-j) 0 (by omega) sbq ?_ ?_
  ·rw[R2,← x9 t (by omega)]
   exact sw
  intro j hj
  repeat (first|refine oH ?_|refine Z82 fun _=>?_)
  refine an (by rfl) (fun h'=>?_) (fun h'=>?_)
  ·have hcl:(List.drop (4*t) (List.take (4*t+4) blk)).length=4:=by simp;omega
   repeat (first|refine oH ?_|refine Z82 fun _=>?_)
   rw[Ho _ _ _ _ (by omega),Lv _ _ _ _ hsl,vQ _ _ _ _ _ hsl]
   have h1:=Ox hb t j
   have h2:=hb.getD (by decide) (4*t+j)
   have h3:256^j≤16777216:=by
    have:j≤3:=by omega
    exact Nat.le_trans (Nat.pow_le_pow_right (by decide) this) (by decide)
   rw[Nat.mod_mod,Nat.mod_eq_of_lt (a:=blk.getD (4*t+j) 0%4294967296) (Nat.mod_lt _ (by decide)),Nat.mod_eq_of_lt (a:=blk.getD (4*t+j) 0) (by omega),RP _ _ h2 (by omega),← MA]
   repeat (first|refine oH ?_|refine Z82 fun _=>?_)
   exact ao (j+1) (by omega) (by omega) sbq sw
  ·repeat (first|refine oH ?_|refine Z82 fun _=>?_)
   have hj4:j=4:=by omega
   subst hj4
   rw[WY]
   refine ao (t+1) (by omega) (by omega) sbq ?_
   rw[← Sm blk t h]
   exact sw
 ·have ht16:t=16:=by omega
  subst ht16
  repeat (first|refine oH ?_|refine Z82 fun _=>?_)
  refine ay (ι:=Nat) (fun t=>16≤t∧t≤64) (fun t=>[(0,pt bb 0),(2,pt b 0),(6,.func (.func 166) #[] #[]),(7,N .i64 t)])
   (fun t=>[.blk b (LV .u32 (sch blk t++List.replicate (64-t) 0)) 189,.blk bb (LV .u8 blk) U]) (fun t=>64-t) 16 (by omega) sbq sw ?_
  intro t ⟨ht,ht'⟩
  have hsl:=nr blk t
  have hlt:=AR hb t
  repeat (first|refine oH ?_|refine Z82 fun _=>?_)
  refine an (by rfl) (fun h=>?_) (fun h=>?_)
  ·have g:∀i,0<i→i≤16→(sch blk t++List.replicate (64-t) 0).getD (t-i) 0=(sch blk t).getD (t-i) 0:=fun i h0 h1=>n7 _ _ (by omega)
   have gl:∀i,(sch blk t).getD i 0<4294967296:=fun i=>hlt.getD (by decide) i
   repeat (first|refine oH ?_|refine Z82 fun _=>?_)
   refine au (by rfl) ?_
   repeat (first|(refine Zqf (by intro _ _ _;(first|(refine ah (by rfl) (by rfl) (by rfl) (q8 _ 17 19 10 (by rw[g 2 (by omega) (by omega)];exact gl _) (by omega) (by omega) (by omega)) (fun _ _=>trivial) (by rfl) ?_)|(refine ah (by rfl) (by rfl) (by rfl) (q8 _ 7 18 3 (by rw[g 15 (by omega) (by omega)];exact gl _) (by omega) (by omega) (by omega)) (fun _ _=>trivial) (by rfl) ?_)|refine Z01 ?_|refine Z02 ?_|refine Z15 ?_|refine Z16 ?_|refine Z17 ?_|refine Z18 ?_|refine Z20 ?_|refine Z21 ?_|refine Z22 ?_|refine Z23 ?_|refine Z33 ?_|refine Z36 ?_|refine Z41 ?_|refine Z43 ?_|refine Z44 ?_|refine Z45 ?_|refine Z46 ?_|refine Z62 ?_|refine Z63 ?_|refine Z71 ?_|refine Z74 ?_);exact Zq) ?_)|(refine Zqp (by intro _ _ _;(first|refine Tg ?_);exact Zq) ?_)|refine ga ?_|refine Zqn ?_)
   refine Zq0 ?_ (by kernel_rfl)
   repeat (first|refine oH ?_|refine Z82 fun _=>?_)
   refine ao (t+1) (by omega) (by omega) sbq ?_
   rw[g 2 (by omega) (by omega),g 7 (by omega) (by omega),g 15 (by omega) (by omega),g 16 (by omega) (by omega)]
   rw[Wn,ML blk t ht h]
   exact sw
  ·have ht64:t=64:=by omega
   subst ht64
   repeat (first|refine oH ?_|refine Z82 fun _=>?_)
   rw[Sk]
   refine Zec fun _ hw=>aa hw (Wout:=[.blk bb (LV .u8 blk) U]) ?_ ?_
   ·exact sw
   ·exact⟨rfl,rfl⟩
theorem sr{a b:Prop}(k:b)(h:Rm b→a:=by intro k;(first|refine Z01 ?_|refine Z02 ?_|refine Z03 ?_|refine Z04 ?_|refine Z05 ?_|refine Z06 ?_|refine Z07 ?_|refine Z08 ?_|refine Z09 ?_|refine Z10 ?_|refine Z11 ?_|refine Z12 ?_|refine Z13 ?_|refine Z14 ?_|refine Z15 ?_|refine Z17 ?_|refine Z18 ?_|refine Z22 ?_|refine Z23 ?_|refine Z24 ?_|refine Z26 ?_|refine Z27 ?_|refine Z29 ?_|refine Z30 ?_|refine Z31 ?_|refine Z32 ?_|refine Z33 ?_|refine Z39 ?_|refine Z40 ?_|refine Z41 ?_|refine Z62 ?_|refine Z63 ?_|refine Z67 ?_|refine Z75 ?_|refine Z76 ?_);exact k.h):a:=h ⟨k⟩
theorem VI{a b:Prop}(k:b)(h:Rm b→a:=by intro k;(first|refine Z01 ?_|refine Z02 ?_|refine Z15 ?_|refine Z17 ?_|refine Z18 ?_|refine Z22 ?_|refine Z23 ?_|refine Z33 ?_|refine Z39 ?_|refine Z40 ?_|refine Z41 ?_|refine Z62 ?_|refine Z63 ?_);exact k.h):a:=h ⟨k⟩
theorem Xl{a b:Prop}(k:b)(h:Rm b→a:=by intro k;(first|refine Z24 ?_|refine Z26 ?_|refine Z27 ?_|refine Z67 ?_|refine Z23 ?_|refine Z62 ?_);exact k.h):a:=h ⟨k⟩
theorem Xm{a b:Prop}(k:b)(h:Rm b→a:=by intro k;(first|refine Z75 ?_|refine Z76 ?_);exact k.h):a:=h ⟨k⟩
theorem VJ{a b:Prop}(k:b)(h:Rm b→a:=by intro k;refine Zqf (by intro _ _ _;(first|refine VI ?_);exact Zq) ?_;exact k.h):a:=h ⟨k⟩
theorem Ko{a b:Prop}(k:b)(h:Rm b→a:=by intro k;refine Zqp (by intro _ _ _;(first|refine Xl ?_);exact Zq) ?_;exact k.h):a:=h ⟨k⟩
theorem Kp{a b:Prop}(k:b)(h:Rm b→a:=by intro k;refine Zqd (by intro _ _ _;(first|refine Xm ?_);exact Zq) ?_;exact k.h):a:=h ⟨k⟩
theorem KH{a b:Prop}(k:b)(h:Rm b→a:=by intro k;(first|refine VJ ?_|refine Ko ?_|refine ga ?_|refine Kp ?_|refine Zqn ?_);exact k.h):a:=h ⟨k⟩
set_option maxHeartbeats 2000000 in
theorem Fj(h blk:List Nat)(hh:h.length=8)(hhl:Lt 4294967296 h)(hl:blk.length=64)(hb:Lt 256 blk):
  Spec Tryz.prog 136 [LV .u32 h,LV .u8 blk] ai [] (IsV (LV .u32 (Sha.wg h blk))):=by
 refine ad Tryz.func136 rfl rfl rfl fun w _=>?_
 have hK:=P1
 have hsc:=nr blk 64
 have hscl:=AR hb 64
 repeat (first|refine aq (v:=LV .u32 (List.replicate 64 0)) (by rfl) (by rfl) fun _=>?_|(refine Te ?_;intro _)|refine nt (vs:=Kt.map (N .u32)) (by rfl) (by rfl) (by rfl) (by rfl) (by rfl) (by rfl) (by rfl) (by rfl) (by rfl) ?_|(refine aw (by rfl) (by rfl) (by rfl) (sG _ _ blk hl hb) (.cons fd .nil) (fun _ _=>trivial) (by rfl) ?_;rintro _ _ ⟨rfl,rfl⟩)|refine sr ?_|refine Z81 fun _=>?_|refine Z82 fun _=>?_)
 rename_i b1 b2 b3 b4 b5 b6
 refine ay (ι:=Nat) (fun t=>t≤64) (fun t=>[(20,N .i64 t),(8,pt b6 0),(7,.func (.func 153) #[] #[]),(6,pt b5 0),(5,pt b4 0),(4,pt b3 0),(2,pt b1 0)])
  (fun t=>[.blk b6 (LV .u32 (jW (sch blk 64) h t)) 174,.blk b5 (LV .u32 (sch blk 64)) 189,.blk b4 (LV .u32 Kt) 189,.blk b3 (LV .u32 (List.replicate 8 0)) 174,.blk b1 (LV .u32 h) 174]) (fun t=>64-t) 0 (by omega) sbq (by rw[Sj];exact sw) ?_
 intro t ht
 have hsl:=kr (sch blk 64) h t
 rw[hh]at hsl
 have hlt:=CC (ws:=sch blk 64) hh hhl t
 obtain⟨a,b,c,d,e,f,g,i,hs⟩:=UD hsl
 rw[hs]at hlt
 have hss:=EP (sch blk 64) h t
 rw[hs,MJ]at hss
 repeat (first|refine sr ?_|refine Z81 fun _=>?_|refine Z82 fun _=>?_)
 refine an (by rfl) (fun ht'=>?_) (fun ht'=>?_)
 ·rw[hs]
  have l0:a<4294967296:=hlt a (by simp)
  have l1:b<4294967296:=hlt b (by simp)
  have l2:c<4294967296:=hlt c (by simp)
  have l3:d<4294967296:=hlt d (by simp)
  have l4:e<4294967296:=hlt e (by simp)
  have l5:f<4294967296:=hlt f (by simp)
  have l6:g<4294967296:=hlt g (by simp)
  have l7:i<4294967296:=hlt i (by simp)
  repeat (first|refine sr ?_|refine Z81 fun _=>?_|refine Z82 fun _=>?_)
  refine au (by rfl) ?_
  repeat (first|refine KH ?_)
  refine Zq0 ?_ (by kernel_rfl)
  simp only[List.getD_cons_zero,List.getD_cons_succ]
  repeat (first|refine sr ?_|refine Z81 fun _=>?_|refine Z82 fun _=>?_)
  refine au (by rfl) ?_
  repeat (first|(refine Zqf (by intro _ _ _;(first|refine ah (by rfl) (by rfl) (by rfl) (wL e 6 11 25 l4 (by omega) (by omega) (by omega)) (fun _ _=>trivial) (by rfl) ?_|refine VI ?_);exact Zq) ?_)|refine Ko ?_|refine ga ?_|refine Kp ?_|refine Zqn ?_)
  refine Zq0 ?_ (by kernel_rfl)
  simp only[List.getD_cons_zero,List.getD_cons_succ]
  rw[Qx e f g l4 l5 l6,← P7,Wo]
  repeat (first|refine ah (by rfl) (by rfl) (by rfl) (wL a 2 13 22 l0 (by omega) (by omega) (by omega)) (fun _ _=>trivial) (by rfl) ?_|refine sr ?_|refine Z81 fun _=>?_|refine Z82 fun _=>?_)
  refine au (by rfl) ?_
  repeat (first|refine KH ?_)
  refine Zq0 ?_ (by kernel_rfl)
  have e7:(List.take 1 [a,b,c,d,e,f,g,i]++List.take (8-1) (List.drop 0 (List.take 7 [a,b,c,d,e,f,g,i]))++List.drop (1+min (List.drop 0 (List.take 7 [a,b,c,d,e,f,g,i])).length (8-1)) [a,b,c,d,e,f,g,i])=[a,a,b,c,d,e,f,g]:=rfl
  rw[e7]
  repeat (first|refine sr ?_|refine Z81 fun _=>?_|refine Z82 fun _=>?_)
  simp only[List.getD_cons_zero,List.getD_cons_succ,List.set_cons_succ,List.set_cons_zero]
  rw[LZ a b c l0 l1 l2,← P6,← hss]
  exact ao (t+1) (by omega) (by omega) sbq sw
 ·have h64:t=64:=by omega
  subst h64
  have hal:=qe (xs:=jW (sch blk 64) h 64) (ys:=h) (by rw[hsl,hh])
  have hal':(lF (jW (sch blk 64) h 64) h).length=(jW (sch blk 64) h 64).length:=hal
  repeat (first|refine sr ?_|refine Z81 fun _=>?_|refine Z82 fun _=>?_)
  refine ay (ι:=Nat) (fun i=>i≤8) (fun i=>[(82,N .i64 i),(8,pt b6 0),(4,pt b3 0),(2,pt b1 0)])
   (fun i=>[.blk b6 (LV .u32 (ju (lF (jW (sch blk 64) h 64) h) (jW (sch blk 64) h 64) i)) 174,.blk b3 (LV .u32 (List.replicate 8 0)) 174,.blk b1 (LV .u32 h) 174]) (fun i=>8-i) 0 (by omega) sbq (by rw[vl];exact sw) ?_
  intro j hj
  have hml:=mR hal' j
  rw[hsl]at hml
  repeat (first|refine sr ?_|refine Z81 fun _=>?_|refine Z82 fun _=>?_)
  refine an (by rfl) (fun hj'=>?_) (fun hj'=>?_)
  ·repeat (first|refine sr ?_|refine Z81 fun _=>?_|refine Z82 fun _=>?_)
   refine au (by rfl) ?_
   repeat (first|refine KH ?_)
   refine Zq0 ?_ (by kernel_rfl)
   repeat (first|refine sr ?_|refine Z81 fun _=>?_|refine Z82 fun _=>?_)
   rw[tq hal' (by omega),← sP (by omega) (by omega),mS hal' (by omega)]
   exact ao (j+1) (by omega) (by omega) sbq sw
  ·have h8:j=8:=by omega
   subst h8
   have hm:ju (lF (jW (sch blk 64) h 64) h) (jW (sch blk 64) h 64) 8=Sha.wg h blk:=by
    rw[Jz]
    have:=mQ hal'
    rw[hsl]at this;exact this
   rw[hm]at hml ⊢
   repeat (first|refine sr ?_|refine Z81 fun _=>?_|refine Z82 fun _=>?_)
   refine Zec fun _ hw=>aa hw SubW.nil ⟨?_,rfl⟩
   rfl
theorem FI{a b:Prop}(k:b)(h:Rm b→a:=by intro k;(first|refine Z01 ?_|refine Z02 ?_|refine Z03 ?_|refine Z04 ?_|refine Z05 ?_|refine Z06 ?_|refine Z07 ?_|refine Z08 ?_|refine Z09 ?_|refine Z10 ?_|refine Z11 ?_|refine Z12 ?_|refine Z13 ?_|refine Z14 ?_|refine Z15 ?_|refine Z16 ?_|refine Z17 ?_|refine Z18 ?_|refine Z20 ?_|refine Z21 ?_|refine Z22 ?_|refine Z23 ?_|refine Z29 ?_|refine Z30 ?_|refine Z31 ?_|refine Z32 ?_|refine Z35 ?_|refine Z36 ?_|refine Z37 ?_|refine Z42 ?_|refine Z44 ?_|refine Z45 ?_|refine Z71 ?_|refine Z74 ?_|refine Z75 ?_|refine Z76 ?_);exact k.h):a:=h ⟨k⟩
set_option maxHeartbeats 1000000 in
theorem IA(s:Value)(b:List Nat)(_:Lt 256 b)(hl:b.length<4294967296):
  Spec Tryz.prog 134 [s] (fun w=>Rd w s (b.map (N .u8))) [] (fun v W=>W=[.sl v ((Sha.pad b).map (N .u8)) 5]):=by
 refine ad Tryz.func134 rfl rfl rfl fun w hr=>?_
 have hr:=RdC.mk0 hr
 have hp:=fD b.length
 have hA:=xR b
 have h8:=fun i=>Fl (8*b.length) i
 have hK:(8*(b.length%18446744073709551616))%18446744073709551616=8*b.length:=by omega
 have hpd:=AF b.length
 repeat (first|refine FI ?_|refine Z83 fun _=>?_)
 rw[hpd]
 repeat (first|refine FI ?_|refine Z83 fun _=>?_)
 rename_i v_
 simp only[List.length_replicate]
 rw[Ez b (8*b.length),hK]
 refine ay (ι:=Nat) (fun i=>i≤8) (fun i=>[(3,N .i64 (bA b.length)),(4,v_),(5,N .i64 i),(6,N .u64 ((8*b.length) >>> (8*i)))])
  (fun i=>[.sl v_ ((sD b++eL (8*b.length) i).map (N .u8)) 5]) (fun i=>8-i) 0 (by omega) sbq sw ?_
 intro i hi
 have h8i:=h8 i
 repeat (first|refine FI ?_|refine Z83 fun _=>?_)
 refine an (by rfl) (fun h=>?_) (fun h=>?_)
 ·repeat (first|refine FI ?_|refine Z83 fun _=>?_)
  rw[Mf _ _ _ h]
  repeat (first|refine FI ?_|refine Z83 fun _=>?_)
  rw[← Nat.shiftRight_add]
  exact ao (i+1) (by omega) (by omega) sbq sw
 ·have h8:i=8:=by omega
  subst h8
  rw[RS]
  repeat (first|refine FI ?_|refine Z83 fun _=>?_)
  refine Ze1 fun _ hw=>aa hw (Wout:=[.sl v_ ((Sha.pad b).map (N .u8)) 5]) ?_ ?_
  ·exact sw
  ·rfl
theorem Bg{a b:Prop}(k:b)(h:Rm b→a:=by intro k;refine aq (v:=LV .u8 (List.replicate 32 0)) (by rfl) (by rfl) ?_;exact k.h):a:=h ⟨k⟩
theorem Bh{a b:Prop}(k:b)(h:Rm b→a:=by intro k;(first|refine Z01 ?_|refine Z02 ?_|refine Z03 ?_|refine Z04 ?_|refine Z05 ?_|refine Z06 ?_|refine Z07 ?_|refine Z08 ?_|refine Z09 ?_|refine Z10 ?_|refine Z11 ?_|refine Z12 ?_|refine Z13 ?_|refine Z14 ?_|refine Z15 ?_|refine Z16 ?_|refine Z17 ?_|refine Z18 ?_|refine Z20 ?_|refine Z21 ?_|refine Z22 ?_|refine Z23 ?_|refine Z24 ?_|refine Z26 ?_|refine Z27 ?_|refine Z29 ?_|refine Z30 ?_|refine Z31 ?_|refine Z32 ?_|refine Z36 ?_|refine Z37 ?_|refine Z38 ?_|refine Z42 ?_|refine Z44 ?_|refine Z45 ?_|refine Z62 ?_|refine Z63 ?_|refine Z66 ?_|refine Z67 ?_|refine Z71 ?_|refine Z74 ?_);exact k.h):a:=h ⟨k⟩
set_option maxHeartbeats 1000000 in
theorem JE(s:Value)(b:List Nat)(hb:Lt 256 b)(hl:b.length<4294967296):
  Spec Tryz.prog 123 [s] (fun w=>Rd w s (b.map (N .u8))) [] (IsV (LV .u8 (Sha.sum b))):=by
 refine ad Tryz.func123 rfl rfl rfl fun w hr=>?_
 have hr:=RdC.mk0 hr
 have hp:=fD b.length
 have hpl:=Me b
 repeat (first|(refine Bg ?_;intro _)|(refine Te ?_;intro _)|(refine aw (by rfl) (by rfl) (by rfl) (IA s b hb hl) .nil (RdW.old hr) (by rfl) ?_;rintro v _ rfl)|refine ah (by rfl) (by rfl) (by rfl) zN (fun _ _=>trivial) (by rfl) ?_|refine Z01 ?_|refine Z02 ?_|refine Z03 ?_|refine Z04 ?_|refine Z05 ?_|refine Z06 ?_|refine Z07 ?_|refine Z08 ?_|refine Z09 ?_|refine Z10 ?_|refine Z11 ?_|refine Z12 ?_|refine Z13 ?_|refine Z14 ?_|refine Z15 ?_|refine Z16 ?_|refine Z17 ?_|refine Z18 ?_|refine Z20 ?_|refine Z21 ?_|refine Z22 ?_|refine Z23 ?_|refine Z24 ?_|refine Z26 ?_|refine Z27 ?_|refine Z29 ?_|refine Z30 ?_|refine Z31 ?_|refine Z32 ?_|refine Z36 ?_|refine Z37 ?_|refine Z38 ?_|refine Z42 ?_|refine Z44 ?_|refine Z45 ?_|refine Z62 ?_|refine Z63 ?_|refine Z66 ?_|refine Z67 ?_|refine Z71 ?_|refine Z74 ?_|refine Z82 fun _=>?_)
 rename_i b1 b2
 have hpd:=fD b.length
 refine ay (ι:=Nat×Value) (fun q=>64*q.1≤bA b.length) (fun q=>[(2,pt b1 0),(3,q.2),(4,pt b2 0)])
  (fun q=>[.sl q.2 (((Sha.pad b).drop (64*q.1)).map (N .u8)) 5,.blk b2 (LV .u32 (lc (Sha.pad b) q.1)) 174,.blk b1 (LV .u8 (List.replicate 32 0)) 120]) (fun q=>bA b.length-q.1) (0,v) (by simp) sbq ?_ ?_
 ·rw[QW]
  exact sw
 rintro⟨k,u⟩ hk
 simp only at hk ⊢
 have hfl:=qJ (Sha.pad b) k
 have hfb:=Lo (Sha.pad b) k
 have hdl:((Sha.pad b).drop (64*k)).length=bA b.length-64*k:=by rw[List.length_drop,hpl]
 repeat (first|refine Bh ?_|refine Z82 fun _=>?_)
 refine an (by rfl) (fun h=>?_) (fun h=>?_)
 ·rw[hdl]at h
  have h64:64*k+64≤(Sha.pad b).length:=by omega
  have hcl:=Ld _ _ h64
  have hcb:=QA (RT hb) k
  repeat (first|refine Bh ?_|refine Z82 fun _=>?_)
  have hX:List.take 64 (List.drop 0 (List.take 64 (List.drop (64*k) (Sha.pad b))))=List.take 64 (List.drop (64*k) (Sha.pad b)):=by rw[List.drop_zero,List.take_take,Nat.min_self]
  have hsl:=yJ (blk:=List.take 64 (List.drop 0 (List.take 64 (List.drop (64*k) (Sha.pad b))))) hfl
  refine au (by rfl) ?_
  repeat (first|(refine Zqf (by intro _ _ _;(first|(refine ah (by rfl) (by rfl) (by rfl) (Fj (lc (Sha.pad b) k) (List.take 64 (List.drop 0 (List.take 64 (List.drop (64*k) (Sha.pad b))))) hfl hfb (by rw[hX];exact hcl) (by rw[hX];exact hcb)) (fun _ _=>trivial) (by rfl) ?_)|refine Z01 ?_|refine Z02 ?_|refine Z15 ?_|refine Z16 ?_|refine Z17 ?_|refine Z18 ?_|refine Z20 ?_|refine Z21 ?_|refine Z22 ?_|refine Z23 ?_|refine Z36 ?_|refine Z37 ?_|refine Z38 ?_|refine Z42 ?_|refine Z44 ?_|refine Z45 ?_|refine Z62 ?_|refine Z63 ?_|refine Z66 ?_|refine Z71 ?_|refine Z74 ?_);exact Zq) ?_)|(refine Zqp (by intro _ _ _;(first|refine Z24 ?_|refine Z26 ?_|refine Z27 ?_|refine Z67 ?_|refine Z23 ?_|refine Z20 ?_|refine Z21 ?_|refine Z62 ?_|refine Z66 ?_);exact Zq) ?_)|refine ga ?_|refine Zqn ?_)
  refine Zq0 ?_ (by kernel_rfl)
  rw[hX,← D4]
  have hfl':=qJ (Sha.pad b) (k+1)
  repeat (first|refine Bh ?_|refine Z82 fun _=>?_)
  have hlen:(List.map (N .u8) (List.drop (64*k) (Sha.pad b))).length=bA b.length-64*k:=by rw[List.length_map,hdl]
  refine nE 64 (List.map (N .u8) (List.drop (64*k) (Sha.pad b))).length fd (by omega) (Nat.le_refl _) ?_
  have hY:List.drop 64 (List.take (List.map (N .u8) (List.drop (64*k) (Sha.pad b))).length (List.map (N .u8) (List.drop (64*k) (Sha.pad b))))=List.map (N .u8) (List.drop (64*(k+1)) (Sha.pad b)):=by
   rw[List.take_length,← List.map_drop,List.drop_drop];rfl
  rw[hY]
  exact ao (k+1,sub u 64 (List.map (N .u8) (List.drop (64*k) (Sha.pad b))).length) (by simp only;omega) (by simp only;omega) sbq sw
 ·rw[hdl]at h
  have hk':k=bA b.length/64:=by omega
  subst hk'
  have hbl:=Sha.sR (lc (Sha.pad b) (bA b.length/64))
  have hal:(Sha.bytes (lc (Sha.pad b) (bA b.length/64))).length=(List.replicate 32 0).length:=by rw[hbl];rfl
  repeat (first|refine Bh ?_|refine Z82 fun _=>?_)
  refine ay (ι:=Nat) (fun i=>i≤32) (fun i=>[(20,N .i64 i),(2,pt b1 0),(4,pt b2 0)])
   (fun i=>[.blk b1 (LV .u8 (ju (Sha.bytes (lc (Sha.pad b) (bA b.length/64))) (List.replicate 32 0) i)) 120,.blk b2 (LV .u32 (lc (Sha.pad b) (bA b.length/64))) 174]) (fun i=>32-i) 0 (by omega) sbq (by rw[vl];exact sw) ?_
  intro i hi
  have hml:=mR hal i
  rw[List.length_replicate]at hml
  repeat (first|refine Bh ?_|refine Z82 fun _=>?_)
  refine an (by rfl) (fun hi'=>?_) (fun hi'=>?_)
  ·repeat (first|refine Bh ?_|refine Z82 fun _=>?_)
   rw[← Sha.zR _ hi',mS hal (by simp;omega)]
   exact ao (i+1) (by omega) (by omega) sbq sw
  ·have h32:i=32:=by omega
   subst h32
   have hm:ju (Sha.bytes (lc (Sha.pad b) (bA b.length/64))) (List.replicate 32 0) 32=Sha.sum b:=by
    rw[Np];exact mQ hal
   rw[hm]at hml ⊢
   repeat (first|refine Bh ?_|refine Z82 fun _=>?_)
   refine Zec fun _ hw=>aa hw SubW.nil ⟨?_,rfl⟩
   rfl
end
end Go.Proofs.YtndhfbecpghinaaGreat.L
namespace Go.Proofs.YtndhfbecpghinaaGreat.L.R
open Go Go.Proofs.YtndhfbecpghinaaGreat.L
inductive Kd where
 | free
 | pin
 | eff
 | alc
def Kd.isEff:Kd→Bool
 | .eff=>true
 | .alc=>true
 | _=>false
def mO:Kd→Kd→Bool
 | .eff,.pin=>true
 | .pin,.eff=>true
 | _,_=>false
def kh(kd:Kd)(W:List Res):List Res:=match kd with
 | .free=>[]
 | _=>W
theorem wT{c:Cx}{W:List Res}{w:World}:∀{A:List Res},SatW c (A++W) w→SatW c W w
 | [],h=>h
 | r::A,h=>wT (A:=A) (SatW.drop (r:=r) h)
theorem D5{c:Cx}{A W W':List Res}{w w':World}(h:SatW c (A++W) w)(h1:SatW ⟨w,fps W⟩ W' w'):SatW c (A++W') w':=by
 have hnd0:=h.nd
 have hown:=h.own
 simp only[fps,List.flatMap_append]at hnd0
 obtain⟨n1,n2,n3⟩:=List.nodup_append.1 hnd0
 simp only[fps,List.flatMap_append,List.mem_append]at hown
 have hlt:=h.lt
 simp only[fps,List.flatMap_append,List.mem_append]at hlt
 refine⟨h.ext.trans h1.ext (fun x hx=>hown x (.inr hx)),?_,?_,?_⟩
 ·intro r hr
  rcases List.mem_append.1 hr with hr | hr
  ·refine Res.holds_congr (h.holds r (List.mem_append.2 (.inl hr))) fun b hb=>?_
   refine h1.ext.block b (Res.fp_lt (h.holds r (List.mem_append.2 (.inl hr))) b hb) fun hin=>?_
   exact n3 b (List.mem_flatMap.2 ⟨r,hr,hb⟩) b hin rfl
  ·exact h1.holds r hr
 ·intro b hb
  simp only[fps,List.flatMap_append,List.mem_append]at hb
  rcases hb with hb | hb
  ·exact hown b (.inl hb)
  ·rcases h1.own b hb with h2 | h2
   ·exact .inl (Nat.le_trans h.ext.size h2)
   ·exact hown b (.inr h2)
 ·simp only[fps,List.flatMap_append]
  refine List.nodup_append.2 ⟨n1,h1.nd,fun x hx y hy hxy=>?_⟩
  subst hxy
  rcases h1.own x hy with h2 | h2
  ·have:=hlt x (.inl hx);simp only at h2;omega
  ·exact n3 x hx x h2 rfl
abbrev En:=List (Nat×Kd)
def Qe(anc:List Nat)(j i:Nat):Bool:=Nat.testBit (anc.getD j 0) i
def kg(os:List Oper)(anc:List Nat)(x y:Nat×Kd):Bool:=
  (match os[x.1]?,os[y.1]? with
   | some o,some p=>!ir os.toArray o p||Qe anc y.1 x.1
   | _,_=>false)&&(!mO x.2 y.2||Qe anc y.1 x.1) && !Nat.beq x.1 y.1
def eV{α:Type}(R:α→α→Bool):List α→Bool
 | []=>true
 | x::r=>r.all (R x)&&eV R r
theorem cG{α:Type}{R:α→α→Bool}:∀{l:List α},eV R l=true→∀{i j:Nat}{x y:α},i<j→l[i]?=some x→l[j]?=some y→R x y=true
 | [],_,i,j,x,y,_,hx,_=>by simp at hx
 | z::r,h,i,j,x,y,hij,hx,hy=>by
  simp only[eV,Bool.and_eq_true]at h
  cases j with
  | zero=>omega
  | succ j=>
   have hy':r[j]?=some y:=by simpa using hy
   cases i with
   | zero=>
    simp at hx;subst hx
    exact List.all_eq_true.1 h.1 y (List.mem_of_getElem? hy')
   | succ i=>exact cG h.2 (i:=i) (j:=j) (by omega) (by simpa using hx) hy'
def io(os:List Oper)(E:En):Bool:=mq os 0 (dD os [])&&eV (kg os (dD os [])) E
def fX(os:List Oper)(is rest:List Nat)(E:En):Bool:=
 rest.all (fun j=>is.any (fun i=>Qe (dD os []) j i))&&(List.range os.length).all (fun j=>is.any (Nat.beq j)||rest.any (Nat.beq j)||E.any (fun e=>Nat.beq e.1 j))
def Hd(os:List Oper)(E:En):Bool:=(List.range os.length).all (fun j=>E.any (fun e=>Nat.beq e.1 j))
def ip(i:Nat)(E:En):Bool:=!E.any (fun e=>Nat.beq e.1 i)
section
variable (P:Program) (c:Cx) (n:Nn)
def OpN(W:List Res)(Φ:Option (Nat×Value)→List Res→Prop)(lr:Sl)(o:Oper):Prop:=
 ∀w0 m,SatW c W w0→Go ⟨w0,fps W⟩ n (lr++m) W (wpList P #[] (fun e a w=>e = .normal∧∃u W',Φ u W'∧SatA n (u.toList++(lr++m)) a∧SatW ⟨w0,fps W⟩ W' w) [o])
end
inductive QF (P:Program) (c:Cx) (n:Nn) (os:List Oper) (K:Act→World→Prop):En→List Res→Sl→List Nat→Prop
 | fin {E:En} {W:List Res} {l:Sl} (hc:io os E=true) (hf:Hd os E=true) (hk:Go c n l W K):QF P c n os K E W l []
 | val {E:En} {W:List Res} {l:Sl} {i d:Nat} {o:Oper} {v:Value} {rest:List Nat} (kd:Kd) (hk:kd.isEff=false) (hi:ip i E=true) (ho:os[i]?=some o) (hd:o.dst=some d) (hn:Nat.blt d n.sz=true)
   (hg:bO os.toArray l o=some true) (h:OpV P c n (kh kd W) (kh kd W) (bR os.toArray o l) (noG o) (some (d,v)))
   (hr:QF P c n os K (E++[(i,kd)]) W ((d,v)::l) rest):QF P c n os K E W l (i::rest)
 | no {E:En} {W:List Res} {l:Sl} {i d:Nat} {o:Oper} {rest:List Nat} (hi:ip i E=true) (ho:os[i]?=some o) (hd:o.dst=some d) (hn:Nat.blt d n.sz=true)
   (hg:bO os.toArray l o=some false) (hr:QF P c n os K (E++[(i,.free)]) W ((d,undef)::l) rest):QF P c n os K E W l (i::rest)
 | nd {E:En} {W:List Res} {l:Sl} {is rest:List Nat} {o:Nat→Oper} {Φ:Nat→Option (Nat×Value)→List Res→Prop} {kd:Nat→Kd} {nx:Nat→List Nat} (hne:is≠[]) (hi:∀i∈is,ip i E=true) (ho:∀i∈is,os[i]?=some (o i))
   (hc:∀i∈is,io os (E++[(i,kd i)])=true) (hdesc:fX os is rest E=true) (hΦ:∀i∈is,∀u W',Φ i u W'→(o i).dst=u.map (·.1)∧(∀d,(o i).dst=some d→Nat.blt d n.sz=true)∧(kd i = .eff∨(kd i = .alc∧∃B,W'=B++W)))
   (hg:∀i∈is,bO os.toArray l (o i)=some true) (h:∀i∈is,OpN P c n W (Φ i) (bR os.toArray (o i) l) (noG (o i)))
   (hr:∀i∈is,∀u W',Φ i u W'→QF P c n os K (E++[(i,kd i)]) W' (u.toList++l) (nx i)):QF P c n os K E W l (is++rest)
theorem ed:∀(us vs:Pu)(D:Nat→Bool)(i:Nat)(l:Sl),cur (us++vs) D i l=cur vs D (i+us.length) (cur us D i l)
 | [],vs,D,i,l=>by simp[cur]
 | u::r,vs,D,i,l=>by
  simp only[List.cons_append,cur,List.length_cons]
  rw[ed r vs D (i+1)]
  congr 1;omega
theorem iV:∀(us:Pu)(D D':Nat→Bool)(i:Nat)(l:Sl),(∀j,j<us.length→D (i+j)=D' (i+j))→cur us D i l=cur us D' i l
 | [],D,D',i,l,_=>rfl
 | u::r,D,D',i,l,h=>by
  simp only[cur]
  have h0:=h 0 (by simp)
  simp only[Nat.add_zero]at h0
  rw[h0,iV r D D' (i+1) _ (fun j hj=>by have:=h (j+1) (by simpa using hj);rw[show i+1+j=i+(j+1) by omega];exact this)]
def dn(L:Array Bool)(E:En)(k:Nat):Bool:=match E[k]? with
 | some e=>L.getD e.1 false
 | none=>false
section
variable {P:Program} {c:Cx} {n:Nn} {os:List Oper} {Q:Exit→Act→World→Prop}
structure InvP (P:Program) (c:Cx) (n:Nn) (os:List Oper) (l0:Sl) (E:En) (us:Pu) (W:List Res) (l:Sl) (L:Array Bool) (a:Act) (w:World):Prop where
 size:L.size=os.length
 clo:∀i j,L.getD i false=true→Nat.testBit ((dD os []).getD i 0) j=true→L.getD j false=true
 sub:∀i,L.getD i false=true→∃(k:Nat)(e:Nat×Kd),E[k]?=some e∧e.1=i
 len:us.length=E.length
 fr:SatA n (cur us (dn L E) 0 l0) a
 wd:SatW c W w
 txt:l=cur us (fun _=>true) 0 l0
 ents:∀(k:Nat)(e:Nat×Kd)(u:Option (Nat×Value)),E[k]?=some e→us[k]?=some u→∃o,os[e.1]?=some o∧o.dst=u.map (·.1)∧(∀d,o.dst=some d→Nat.blt d n.sz=true) ∧
  (L.getD e.1 false=true∨(bO os.toArray (cur (us.take k) (fun _=>true) 0 l0) o=some true∧e.2.isEff=false∧∃A Wk,W=A++Wk∧(e.2 = .free→Wk=[])∧OpV P c n Wk Wk (bR os.toArray o (cur (us.take k) (fun _=>true) 0 l0)) (noG o) u) ∨
   (bO os.toArray (cur (us.take k) (fun _=>true) 0 l0) o=some false∧∃d,u=some (d,undef)))
theorem lU{L:Array Bool}{i:Nat}(hL:L.size=os.length)(hi:i∈Region.ready .any os.toArray L):∃o,os[i]?=some o∧L.getD i false=false∧i<os.length∧∀d∈gf o,L.getD d false=true:=by
 simp only[Region.ready,List.size_toArray,List.mem_filter,List.mem_range,Bool.and_eq_true,Bool.not_eq_true']at hi
 obtain⟨hlt,hnl,hdeps⟩:=hi
 obtain⟨o,ho⟩:∃o,os[i]?=some o:=⟨os[i],by simp[hlt]⟩
 refine⟨o,ho,?_,hlt,fun d hd=>?_⟩
 ·rw[Array.getD_eq_getD_getElem?]at hnl ⊢
  rw[Array.getElem?_eq_getElem (by omega)]at hnl ⊢
  simpa using hnl
 ·have ho':os.toArray[i]?=some o:=by simpa using ho
  rw[ho']at hdeps
  simp only[Option.map_some,Option.getD_some]at hdeps
  obtain⟨e,he,rfl⟩:=List.mem_map.1 hd
  rw[List.mem_filter]at he
  have hx:=Array.all_eq_true'.1 hdeps e (by simpa using he.1)
  simpa[he.2]using hx
theorem oq{L:Array Bool}(hanc:mq os 0 (dD os [])=true)(hL:L.size=os.length)(hr:Region.ready .any os.toArray L=[]):∀i,i<os.length→L.getD i false=true:=by
 intro i
 induction i using Nat.strongRecOn with
 | _ i ih=>
  intro hi
  by_cases hd:L.getD i false=true
  ·exact hd
  ·exfalso
   have hd':L.getD i true=false:=by
    rw[Array.getD_eq_getD_getElem?,Array.getElem?_eq_getElem (by omega)]at hd ⊢
    simpa using hd
   have hm:i∈Region.ready .any os.toArray L:=by
    simp only[Region.ready,List.size_toArray,List.mem_filter,List.mem_range,Bool.and_eq_true,Bool.not_eq_true']
    refine⟨hi,hd',?_⟩
    have ho:os[i]?=some os[i]:=by simp[hi]
    have ho':os.toArray[i]?=some os[i]:=by simp[hi]
    rw[ho']
    simp only[Option.map_some,Option.getD_some]
    rw[Array.all_eq_true']
    intro e he
    by_cases hb:Region.binds .any e=true
    ·have hdep:e.on∈gf os[i]:=List.mem_map.2 ⟨e,List.mem_filter.2 ⟨by simpa using he,hb⟩,rfl⟩
     have hlt:=(gN hanc ho).1 _ hdep
     simp only[Nat.zero_add]at hlt
     simp[ih e.on hlt (by omega)]
    ·simp[hb]
   rw[hr]at hm;cases hm
theorem lT{L:Array Bool}(hL:L.size=os.length)(hf:os.length-(L.toList.filter id).length=0):Region.ready .any os.toArray L=[]:=by
 have hcount:(L.toList.filter id).length=L.toList.length:=by
  have:=List.length_filter_le id L.toList
  simp only[Array.length_toList]at this ⊢
  omega
 rw[List.eq_nil_iff_forall_not_mem]
 intro i hi
 obtain⟨o,ho,hnl,hlt,_⟩:=lU hL hi
 have hallt:=List.length_filter_eq_length_iff.1 hcount
 have:L[i]'(by omega)=true:=by
  have:=hallt (L[i]'(by omega)) (by simp)
  simpa using this
 rw[Array.getD_eq_getD_getElem?,Array.getElem?_eq_getElem (by omega)]at hnl
 simp[this]at hnl
theorem kR{L:Array Bool}{i:Nat}(hL:L.size=os.length)(hlt:i<os.length)(j:Nat):(L.setIfInBounds i true).getD j false=if j=i then true else L.getD j false:=by
 simp only[Array.getD_eq_getD_getElem?]
 by_cases hj:j=i
 ·subst hj;simp[hL,hlt]
 ·rw[Array.getElem?_setIfInBounds_ne (fun e=>hj e.symm),if_neg hj]
theorem ow{L:Array Bool}{i fuel:Nat}(hL:L.size=os.length)(hlt:i<os.length)(hnl:L.getD i false=false)(hf:os.length-(L.toList.filter id).length=fuel+1):
  os.length-((L.setIfInBounds i true).toList.filter id).length=fuel:=by
 have e:((L.setIfInBounds i true).toList.filter id).length=(L.toList.filter id).length+1:=by
  rw[Array.toList_setIfInBounds]
  have hli:i<L.toList.length:=by simpa[hL]using hlt
  have hv:L.toList[i]=false:=by
   rw[Array.getD_eq_getD_getElem?,Array.getElem?_eq_getElem (by omega)]at hnl
   simpa using hnl
  rw[List.set_eq_take_append_cons_drop,if_pos hli]
  conv=>rhs;rw[← List.take_append_drop i L.toList,List.drop_eq_getElem_cons hli,hv]
  simp only[List.filter_append,List.length_append,List.filter_cons,id,if_true,List.length_cons]
  simp
  omega
 rw[e];omega
theorem Cb{l0:Sl}{E:En}{us:Pu}{W:List Res}{l:Sl}{L:Array Bool}{a:Act}{w:World}(hI:InvP P c n os l0 E us W l L a w){i k:Nat}{o:Oper}(_:os[i]?=some o)(hnl:L.getD i false=false)
  (hanci:∀j,Nat.testBit ((dD os []).getD i 0) j=true→L.getD j false=true) (_:k≤E.length)
  (hbef:∀(j:Nat)(e:Nat×Kd),E[j]?=some e→j<k→∀y:Oper,os[e.1]?=some y→ir os.toArray y o=true→Nat.testBit ((dD os []).getD i 0) e.1=true)
  (hbeh:∀(j:Nat)(e:Nat×Kd),E[j]?=some e→k≤j→∀y:Oper,os[e.1]?=some y→ir os.toArray o y=true→e.1=i∨Nat.testBit ((dD os []).getD e.1 0) i=true):
  (∀t∈fa os.toArray o,lk (cur us (dn L E) 0 l0) t=lk (cur (us.take k) (fun _=>true) 0 l0) t) ∧
  (∀t,o.dst=some t→∀(j:Nat)(x:Option (Nat×Value)),us[j]?=some x→gm x t→k≤j→dn L E j=false):=by
 have hwr:∀(j:Nat)(x:Option (Nat×Value))(t:Nat),us[j]?=some x→gm x t→∃(e:Nat×Kd)(y:Oper),E[j]?=some e∧os[e.1]?=some y∧y.dst=some t:=by
  intro j x t hx ⟨v,hv⟩
  have hjl:j<E.length:=by
   rcases Nat.lt_or_ge j us.length with h | h
   ·have:=hI.len;omega
   ·rw[List.getElem?_eq_none h]at hx;cases hx
  obtain⟨o',ho',hd',_⟩:=hI.ents j E[j] x (by simp[hjl]) hx
  exact⟨E[j],o',by simp[hjl],ho',by rw[hd',hv];rfl⟩
 have hback:∀j e y,E[j]?=some e→k≤j→os[e.1]?=some y→ir os.toArray o y=true→dn L E j=false:=by
  intro j e y he hkj hy hc
  simp only[dn,he]
  rcases hbeh j e he hkj y hy hc with h | h
  ·rw[h];exact hnl
  ·cases hj:L.getD e.1 false
   ·rfl
   ·have:=hI.clo e.1 i hj h;rw[hnl]at this;cases this
 refine⟨fun t ht=>?_,fun t hdt j x hx hw hkj=>?_⟩
 ·refine kc us _ 0 l0 t k (fun j x hx hw hji=>?_) (fun j x hx hw hij=>?_)
  ·obtain⟨e,y,he,hy,hyd⟩:=hwr j x t hx hw
   simp only[Nat.zero_add,dn,he]
   refine hanci _ (hbef j e he hji y hy ?_)
   simp only[ir,hyd,Bool.or_eq_true]
   exact .inl (.inr (List.any_eq_true.2 ⟨t,ht,Nat.beq_refl t⟩))
  ·obtain⟨e,y,he,hy,hyd⟩:=hwr j x t hx hw
   simp only[Nat.zero_add]
   refine hback j e y he hij hy ?_
   simp only[ir,hyd,Bool.or_eq_true]
   exact .inr (List.any_eq_true.2 ⟨t,ht,Nat.beq_refl t⟩)
 ·obtain⟨e,y,he,hy,hyd⟩:=hwr j x t hx hw
  refine hback j e y he hkj hy ?_
  simp only[ir,hdt,Bool.or_eq_true]
  refine .inl (.inl ?_)
  simp[HI,hyd,Nat.beq_refl]
theorem oD{ops:Array Oper}{ltxt:Sl}{a:Act}{o:Oper}{b:Bool}(hg:bO ops ltxt o=some b)
  (hyield:∀j want,o.guard=some (j,want)→∀t,(ops[j]?).bind (·.dst)=some t→∀v,lk ltxt t=some v→a.tmps[t]?=some v):Region.wanted o (yielded ops a.tmps)=b:=by
 unfold bO at hg
 unfold Region.wanted
 cases hgd:o.guard with
 | none=>simp[hgd]at hg;rw[hg]
 | some jw=>
  obtain⟨j,want⟩:=jw
  simp only[hgd]at hg ⊢
  cases hj:(ops[j]?).bind (·.dst)with
  | none=>rw[hj]at hg;cases hg
  | some t=>
   simp only[hj]at hg
   cases hv:lk ltxt t with
   | none=>rw[hv]at hg;cases hg
   | some v=>
    have hav:=hyield j want hgd t hj v hv
    rw[hv]at hg
    unfold yielded
    rw[hj]
    cases v <;> simp at hg
    ·simp[hav,hg]
    ·subst hg;simp[hav]
theorem oj{anc:List Nat}{x y:Nat×Kd}(h:kg os anc x y=true){o p:Oper}(ho:os[x.1]?=some o)(hp:os[y.1]?=some p)(hc:ir os.toArray o p=true):Nat.testBit (anc.getD y.1 0) x.1=true:=by
 simp only[kg,ho,hp,hc,Bool.not_true,Bool.false_or,Bool.and_eq_true]at h
 exact h.1.1
theorem Mc{anc:List Nat}{x y:Nat×Kd}(h:kg os anc x y=true)(hm:mO x.2 y.2=true):Nat.testBit (anc.getD y.1 0) x.1=true:=by
 simp only[kg,hm,Bool.not_true,Bool.false_or,Bool.and_eq_true]at h
 exact h.1.2
theorem Iu{anc:List Nat}{x y:Nat×Kd}(h:kg os anc x y=true):x.1≠y.1:=by
 simp only[kg,Bool.and_eq_true,Bool.not_eq_true']at h
 exact RF h.2
theorem Ik{o:Oper}{a:Act}{w:World}{K:Act→World→Prop}{Q:Exit→Act→World→Prop}(h:(noG o).wp P a w K Q):o.wp P a w K Q:=h
theorem bE{ops:Array Oper}{Q Q':Exit→Act→World→Prop}{o:Oper}{a:Act}{w:World}(h:wpList P ops Q [o] a w)(hg:o.guard=none)(hQ:∀e a w,Q e a w→e = .normal)
  (hm:∀a w,Q .normal a w→Q' .normal a w):wpList P ops Q' [o] a w:=by
 rcases fU h hg with h1 | ⟨_,a0,w0,hq⟩
 ·simp only[wpList]
  rw[if_pos (by simp[Region.wanted,hg])]
  left
  exact fc h1 hm hQ
 ·exact absurd (hQ _ _ _ hq) (by simp)
theorem wG{lr:Sl}{u:Option (Nat×Value)}{base:Sl}{a a':Act}(hA:SatA n base a)(hlr:∀t v,lk lr t=some v→a.tmps[t]?=some v)(hsa:SatA n (u.toList++(lr++iT a n.sz)) a'):
  ∀t v,lk (u.toList++base) t=some v→a'.tmps[t]?=some v:=by
 intro t v ht
 refine hsa.at_ t v ?_
 rw[dL]at ht ⊢
 cases hut:lk u.toList t with
 | some v'=>rw[hut]at ht;exact ht
 | none=>
  rw[hut]at ht
  simp only at ht ⊢
  have hat':=hA.at_ t v ht
  rw[dL]
  cases hr:lk lr t with
  | some v'=>
   have:=hlr t v' hr
   rw[this]at hat';exact hat'
  | none=>
   have htn:t<n.sz:=by
    rcases Nat.lt_or_ge t n.sz with h | h
    ·exact h
    ·rw[Array.getElem?_eq_none (by rw[hA.sz];exact h)]at hat';cases hat'
   exact kF a n.sz t v htn hat'
theorem By{L:Array Bool}{i:Nat}(hL:L.size=os.length)(hlt:i<os.length)(hclo:∀i j,L.getD i false=true→Nat.testBit ((dD os []).getD i 0) j=true→L.getD j false=true)
  (hanci:∀j,Nat.testBit ((dD os []).getD i 0) j=true→L.getD j false=true):
  ∀p q,(L.setIfInBounds i true).getD p false=true→Nat.testBit ((dD os []).getD p 0) q=true→(L.setIfInBounds i true).getD q false=true:=by
 intro p q hp hq
 rw[kR hL hlt]at hp ⊢
 by_cases hqi:q=i
 ·simp[hqi]
 ·rw[if_neg hqi]
  by_cases hpi:p=i
  ·subst hpi;exact hanci q hq
  ·rw[if_neg hpi]at hp;exact hclo p q hp hq
theorem wK{L:Array Bool}{i:Nat}{o:Oper}(hanc:mq os 0 (dD os [])=true)(ho:os[i]?=some o)(hclo:∀i j,L.getD i false=true→Nat.testBit ((dD os []).getD i 0) j=true→L.getD j false=true)
  (hdeps:∀d∈gf o,L.getD d false=true):∀j,Nat.testBit ((dD os []).getD i 0) j=true→L.getD j false=true:=by
 intro j hj
 have hspec:=gN hanc ho
 simp only[Nat.zero_add]at hspec
 obtain⟨d,hd,he⟩:=hspec.2 j hj
 rcases he with rfl | he
 ·exact hdeps d hd
 ·exact hclo d j (hdeps d hd) he
theorem Cl{l0:Sl}{E:En}{us:Pu}{W:List Res}{l:Sl}{L:Array Bool}{a:Act}{w:World}(hI:InvP P c n os l0 E us W l L a w)(hanc:mq os 0 (dD os [])=true)(hpairs:eV (kg os (dD os [])) E=true)
  {k:Nat} {e:Nat×Kd} (he:E[k]?=some e) {o:Oper} (ho:os[e.1]?=some o) (hnl:L.getD e.1 false=false) (hdeps:∀d∈gf o,L.getD d false=true) {K':Act→World→Prop}
  (hcont:∀a' w',InvP P c n os l0 E us W l (L.setIfInBounds e.1 true) a' w'→K' a' w'):wpOp P os.toArray Q e.1 K' a w:=by
 have hlt:e.1<os.length:=by
  rcases Nat.lt_or_ge e.1 os.length with h | h
  ·exact h
  ·rw[List.getElem?_eq_none h]at ho;cases ho
 have hkl:k<E.length:=by
  rcases Nat.lt_or_ge k E.length with h | h
  ·exact h
  ·rw[List.getElem?_eq_none h]at he;cases he
 have hanci:=wK hanc ho hI.clo hdeps
 obtain⟨u,hu⟩:∃u,us[k]?=some u:=⟨us[k]'(by have:=hI.len;omega),by have:=hI.len;simp[show k<us.length by omega]⟩
 obtain⟨o',ho',hdst,hinn,hsay⟩:=hI.ents k e u he hu
 rw[ho]at ho';cases ho'
 have hlook:=Cb hI ho hnl hanci (Nat.le_of_lt hkl)
  (fun j e' he' hjk y hy hc=>oj (cG hpairs hjk he' he) hy ho hc)
  (fun j e' he' hkj y hy hc=>by
   rcases Nat.eq_or_lt_of_le hkj with rfl | hlt'
   ·rw[he]at he';cases he';exact .inl rfl
   ·exact .inr (oj (cG hpairs hlt' he he') ho hy hc))
 have hfr:∀a',(∀t v,lk (u.toList++cur us (dn L E) 0 l0) t=some v→a'.tmps[t]?=some v)→a'.defers=n.df→a'.tmps.size=n.sz→SatA n (cur us (dn (L.setIfInBounds e.1 true) E) 0 l0) a':=by
  intro a' h1 h2 h3
  refine⟨h2,h3,fun t v ht=>h1 t v ?_⟩
  have hs:=lL us (dn L E) (dn (L.setIfInBounds e.1 true) E) 0 l0 t k u hu (by simp[dn,he,kR hI.size hlt]) (by simp[dn,he,hnl])
   (fun j hj=>by
    simp only[Nat.zero_add,dn]
    cases hj':E[j]? with
    | none=>rfl
    | some e'=>
     have hne:e'.1≠e.1:=by
      rcases Nat.lt_or_gt_of_ne hj with h | h
      ·exact Iu (cG hpairs h hj' he)
      ·exact fun q=>Iu (cG hpairs h he hj') q.symm
     simp only[kR hI.size hlt,if_neg hne])
  by_cases hw:gm u t
  ·obtain⟨v',hv'⟩:=hw
   have hod:o.dst=some t:=by rw[hdst,hv'];rfl
   have:=hs.2 v' hv' (fun j x hx hw hij=>by
    simp only[Nat.zero_add]
    exact hlook.2 t hod j x hx hw (Nat.le_of_lt hij))
   rw[this]at ht;cases ht
   rw[hv'];simp[lk]
  ·rw[hs.1 hw]at ht
   rw[q5 hw];exact ht
 have hinv:∀a' w',SatA n (cur us (dn (L.setIfInBounds e.1 true) E) 0 l0) a'→SatW c W w'→InvP P c n os l0 E us W l (L.setIfInBounds e.1 true) a' w':=by
  intro a' w' h1 h2
  refine⟨by simp[hI.size],By hI.size hlt hI.clo hanci,fun j hj=>?_,hI.len,h1,h2,hI.txt,fun k' e' u' he' hu'=>?_⟩
  ·rw[kR hI.size hlt]at hj
   by_cases hji:j=e.1
   ·exact⟨k,e,he,hji.symm⟩
   ·rw[if_neg hji]at hj;exact hI.sub j hj
  ·obtain⟨o2,h1,h2,h3,h4⟩:=hI.ents k' e' u' he' hu'
   refine⟨o2,h1,h2,h3,?_⟩
   rcases h4 with h4 | h4 | h4
   ·left;rw[kR hI.size hlt];split
    ·rfl
    ·exact h4
   ·exact .inr (.inl h4)
   ·exact .inr (.inr h4)
 have hyield:∀j want,o.guard=some (j,want)→∀t,(os.toArray[j]?).bind (·.dst)=some t→∀v,lk (cur (us.take k) (fun _=>true) 0 l0) t=some v→a.tmps[t]?=some v:=by
  intro j want hg t ht v hv
  have htn:t∈fa os.toArray o:=by
   simp only[fa,List.mem_append,BV,hg]
   left;rw[ht];simp
  exact hI.fr.at_ t v (by rw[hlook.1 t htn];exact hv)
 unfold wpOp
 rw[show os.toArray[e.1]?=some o by simpa using ho]
 rcases hsay with hd | ⟨hg,hne,A,Wk,hWA,_,hV⟩ | ⟨hg,d,hud⟩
 ·rw[hnl]at hd;cases hd
 ·have hwant:=oD hg hyield
  simp only[hwant,if_true]
  left
  have hpinW:SatW c Wk w:=wT (A:=A) (hWA ▸ hI.wd)
  have hlr:∀t v,lk (bR os.toArray o (cur (us.take k) (fun _=>true) 0 l0)) t=some v→a.tmps[t]?=some v:=fun t v ht=>by
   obtain⟨h1,h2⟩:=gH ht
   exact hI.fr.at_ t v (by rw[hlook.1 t h2];exact h1)
  have hstep:=hV w (iT a n.sz) hpinW a w ⟨hI.fr.dfr,hI.fr.sz,fun t v ht=>by
   rw[dL]at ht
   cases hr:lk (bR os.toArray o (cur (us.take k) (fun _=>true) 0 l0)) t with
   | some v'=>rw[hr]at ht;cases ht;exact hlr t v hr
   | none=>rw[hr]at ht;exact jY a n.sz t v ht⟩ ⟨Ext.refl _ _,hpinW.holds,fun b hb=>.inr hb,hpinW.nd⟩
  rcases fU hstep rfl with hstep | ⟨_,a0,w0,hq,_⟩
  case inr=>cases hq
  refine fc (Ik hstep) (fun a' w' hp=>hcont a' w' (hinv a' w' ?_ ?_)) (fun e _ _ hp=>hp.1)
  ·obtain⟨_,hsa,_⟩:=hp
   exact hfr a' (wG hI.fr hlr hsa) hsa.dfr hsa.sz
  ·obtain⟨_,_,hsw⟩:=hp
   rw[hWA]
   exact D5 (hWA ▸ hI.wd) hsw
 ·have hnw:=oD hg hyield
  simp only[hnw,Bool.false_eq_true,if_false]
  have hod:o.dst=some d:=by rw[hdst,hud];rfl
  have hput:=hI.fr.put (v:=undef) (hinn d hod)
  rw[hod]
  exact hcont _ _ (hinv _ _ (hfr _ (fun t v ht=>hput.at_ t v (by rw[hud]at ht;exact ht)) hput.dfr hput.sz) hI.wd)
theorem qN{α:Type}{E:List α}{x e:α}{k:Nat}(h:(E++[x])[k]?=some e):(k<E.length∧E[k]?=some e)∨(k=E.length∧e=x):=by
 rcases Nat.lt_or_ge k E.length with hk | hk
 ·rw[List.getElem?_append_left hk]at h;exact .inl ⟨hk,h⟩
 ·rw[List.getElem?_append_right hk]at h
  have:k-E.length=0:=by
   rcases Nat.eq_zero_or_pos (k-E.length)with h0 | h0
   ·exact h0
   ·rw[List.getElem?_eq_none (by simp;omega)]at h;cases h
  rw[this]at h;simp at h
  exact .inr ⟨by omega,h.symm⟩
theorem vp{E:En}{i:Nat}(h:ip i E=true):∀(k:Nat)(e:Nat×Kd),E[k]?=some e→e.1≠i:=by
 intro k e he hei
 simp only[ip,Bool.not_eq_true',List.any_eq_false]at h
 exact h e (List.mem_of_getElem? he) (by rw[hei];exact Nat.beq_refl i)
theorem DP{l0:Sl}{E:En}{W:List Res}{l:Sl}{rest:List Nat}(h:QF P c n os (Q .normal) E W l rest):∀(fuel:Nat)(us:Pu)(L:Array Bool)(a:Act)(w:World),
  (os.length-(L.toList.filter id).length=fuel)→InvP P c n os l0 E us W l L a w→wpAny P .any os.toArray Q fuel L a w:=by
 induction h with
 | fin hc hf hk=>
  rename_i E W l
  simp only[io,Bool.and_eq_true]at hc
  obtain⟨hanc,hpairs⟩:=hc
  have hfin:∀(us:Pu)(L:Array Bool)(a:Act)(w:World),InvP P c n os l0 E us W l L a w→Region.ready .any os.toArray L=[]→Q .normal a w:=by
   intro us L a w hI hr
   have hd:=oq hanc hI.size hr
   refine hk a w ?_ hI.wd
   have e:=iV us (dn L E) (fun _=>true) 0 l0 (fun j hj=>by
    have hjl:j<E.length:=by have:=hI.len;omega
    obtain⟨o,ho,_⟩:=hI.ents j E[j] (us[j]) (by simp[hjl]) (by simp[hj])
    have hlt:(E[j]).1<os.length:=by
     rcases Nat.lt_or_ge (E[j]).1 os.length with h | h
     ·exact h
     ·rw[List.getElem?_eq_none h]at ho;cases ho
    simp only[Nat.zero_add,dn,List.getElem?_eq_getElem hjl]
    exact hd _ hlt)
   have hA:=hI.fr
   rw[e,← hI.txt]at hA
   exact hA
  intro fuel
  induction fuel with
  | zero=>intro us L a w hf hI;exact⟨lT hI.size hf,hfin us L a w hI (lT hI.size hf)⟩
  | succ fuel ih=>
   intro us L a w hfu hI
   refine⟨hfin us L a w hI,fun i hi=>?_⟩
   obtain⟨o,ho,hnl,hlt,hdeps⟩:=lU hI.size hi
   simp only[Hd,List.all_eq_true,List.mem_range]at hf
   obtain⟨e,hem,hei⟩:=List.any_eq_true.1 (hf i hlt)
   obtain⟨k,hk'⟩:=List.getElem?_of_mem hem
   have hei:=Nat.eq_of_beq_eq_true hei
   subst hei
   exact Cl hI hanc hpairs hk' ho hnl hdeps (fun a' w' hI'=>ih us _ a' w' (ow hI.size hlt hnl hfu) hI')
 | val kd hk hi ho hd hn hg h hr ih=>
  rename_i E W l i d o v rest
  intro fuel us L a w hfu hI
  have hnew:=vp hi
  have hnd:L.getD i false=false:=by
   cases hx:L.getD i false
   ·rfl
   ·obtain⟨k,e,he,hei⟩:=hI.sub i hx;exact absurd hei (hnew k e he)
  refine ih fuel (us++[some (d,v)]) L a w hfu ⟨hI.size,hI.clo,fun j hj=>?_,by simp[hI.len],?_,hI.wd,?_,fun k e u he hu=>?_⟩
  ·obtain⟨k,e,he,hej⟩:=hI.sub j hj
   exact⟨k,e,by rw[List.getElem?_append_left];exact he;exact(List.getElem?_eq_some_iff.1 he).1,hej⟩
  ·rw[ed]
   have e1:cur us (dn L (E++[(i,kd)])) 0 l0=cur us (dn L E) 0 l0:=iV _ _ _ _ _ (fun j hj=>by
    simp only[Nat.zero_add,dn];rw[List.getElem?_append_left (by have:=hI.len;omega)])
   have e2:dn L (E++[(i,kd)]) (0+us.length)=false:=by
    simp only[Nat.zero_add,dn,hI.len,List.getElem?_concat_length];exact hnd
   simp only[cur,e2,Bool.false_eq_true,if_false,e1];exact hI.fr
  ·rw[ed,← hI.txt];simp[cur]
  ·rcases qN he with⟨hkl,he'⟩ | ⟨rfl,rfl⟩
   ·have hu':us[k]?=some u:=by rwa [List.getElem?_append_left (by have:=hI.len;omega)]at hu
    have:=hI.ents k e u he' hu'
    rw[List.take_append_of_le_length (by have:=hI.len;omega)]
    exact this
   ·have hu':u=some (d,v):=by rw[← hI.len,List.getElem?_concat_length]at hu;exact(Option.some.inj hu).symm
    subst hu'
    refine⟨o,ho,by simpa using hd,fun d' hd'=>by rw[hd]at hd';cases hd';exact hn,.inr (.inl ?_)⟩
    rw[List.take_append_of_le_length (by have:=hI.len;omega),← hI.len,List.take_length,← hI.txt]
    refine⟨hg,hk,?_⟩
    cases kd with
    | free=>exact⟨W,[],by simp,fun _=>rfl,h⟩
    | pin=>exact⟨[],W,rfl,fun hx=>(by cases hx),h⟩
    | eff=>simp[Kd.isEff]at hk
    | alc=>simp[Kd.isEff]at hk
 | no hi ho hd hn hg hr ih=>
  rename_i E W l i d o rest
  intro fuel us L a w hfu hI
  have hnew:=vp hi
  have hnd:L.getD i false=false:=by
   cases hx:L.getD i false
   ·rfl
   ·obtain⟨k,e,he,hei⟩:=hI.sub i hx;exact absurd hei (hnew k e he)
  refine ih fuel (us++[some (d,undef)]) L a w hfu ⟨hI.size,hI.clo,fun j hj=>?_,by simp[hI.len],?_,hI.wd,?_,fun k e u he hu=>?_⟩
  ·obtain⟨k,e,he,hej⟩:=hI.sub j hj
   exact⟨k,e,by rw[List.getElem?_append_left];exact he;exact(List.getElem?_eq_some_iff.1 he).1,hej⟩
  ·rw[ed]
   have e1:cur us (dn L (E++[(i,.free)])) 0 l0=cur us (dn L E) 0 l0:=iV _ _ _ _ _ (fun j hj=>by
    simp only[Nat.zero_add,dn];rw[List.getElem?_append_left (by have:=hI.len;omega)])
   have e2:dn L (E++[(i,.free)]) (0+us.length)=false:=by
    simp only[Nat.zero_add,dn,hI.len,List.getElem?_concat_length];exact hnd
   simp only[cur,e2,Bool.false_eq_true,if_false,e1];exact hI.fr
  ·rw[ed,← hI.txt];simp[cur]
  ·rcases qN he with⟨hkl,he'⟩ | ⟨rfl,rfl⟩
   ·have hu':us[k]?=some u:=by rwa [List.getElem?_append_left (by have:=hI.len;omega)]at hu
    have:=hI.ents k e u he' hu'
    rw[List.take_append_of_le_length (by have:=hI.len;omega)]
    exact this
   ·have hu':u=some (d,undef):=by rw[← hI.len,List.getElem?_concat_length]at hu;exact(Option.some.inj hu).symm
    subst hu'
    refine⟨o,ho,by simpa using hd,fun d' hd'=>by rw[hd]at hd';cases hd';exact hn,.inr (.inr ?_)⟩
    rw[List.take_append_of_le_length (by have:=hI.len;omega),← hI.len,List.take_length,← hI.txt]
    exact⟨hg,d,rfl⟩
 | nd hne hi ho hc hdesc hΦ hg h hr ih=>
  rename_i E W l is rest of Φf kf nx
  obtain⟨i0,hi0⟩:∃i,i∈is:=List.exists_mem_of_ne_nil _ hne
  have hanc:mq os 0 (dD os [])=true:=by
   have:=hc i0 hi0
   simp only[io,Bool.and_eq_true]at this
   exact this.1
  have hpairs:eV (kg os (dD os [])) E=true:=by
   have h0:=hc i0 hi0
   simp only[io,Bool.and_eq_true]at h0
   have:∀{X Y:En},eV (kg os (dD os [])) (X++Y)=true→eV (kg os (dD os [])) X=true:=by
    intro X
    induction X with
    | nil=>intro Y _;rfl
    | cons x r ihx=>
     intro Y hxy
     simp only[List.cons_append,eV,Bool.and_eq_true,List.all_append]at hxy ⊢
     exact⟨hxy.1.1,ihx hxy.2⟩
   exact this h0.2
  have hnew:=fun i hi'=>vp (hi i hi')
  intro fuel
  induction fuel with
  | zero=>
   intro us L a w hfu hI
   have hr0:=lT hI.size hfu
   have hd:=oq hanc hI.size hr0
   have hlt:i0<os.length:=(List.getElem?_eq_some_iff.1 (ho i0 hi0)).1
   obtain⟨k,e,he,hei⟩:=hI.sub i0 (hd i0 hlt)
   exact absurd hei (hnew i0 hi0 k e he)
  | succ fuel ihf=>
   intro us L a w hfu hI
   have hnds:∀i∈is,L.getD i false=false:=by
    intro i hi'
    cases hx:L.getD i false
    ·rfl
    ·obtain⟨k,e,he,hei⟩:=hI.sub i hx;exact absurd hei (hnew i hi' k e he)
   refine⟨fun hr0=>?_,fun j hj=>?_⟩
   ·have hd:=oq hanc hI.size hr0
    have h1:=hnds i0 hi0
    rw[hd i0 (List.getElem?_eq_some_iff.1 (ho i0 hi0)).1]at h1;cases h1
   obtain⟨p,hp,hnl,hlt,hdeps⟩:=lU hI.size hj
   have hanci:=wK hanc hp hI.clo hdeps
   simp only[fX,Bool.and_eq_true,List.all_eq_true,List.mem_range,Bool.or_eq_true]at hdesc
   have hcase:j∈is∨∃(k:Nat)(e:Nat×Kd),E[k]?=some e∧e.1=j:=by
    rcases hdesc.2 j hlt with(h1 | h1) | h1
    ·obtain⟨x,hx,hxj⟩:=List.any_eq_true.1 h1
     have hxj:=Nat.eq_of_beq_eq_true hxj
     subst hxj
     exact .inl hx
    ·obtain⟨x,hx,hxj⟩:=List.any_eq_true.1 h1
     have hxj:=Nat.eq_of_beq_eq_true hxj
     subst hxj
     obtain⟨i,hi',hb⟩:=List.any_eq_true.1 (hdesc.1 j hx)
     have hb:=hanci i hb
     rw[hnds i hi']at hb;cases hb
    ·obtain⟨e,hem,hej⟩:=List.any_eq_true.1 h1
     obtain⟨k,hk'⟩:=List.getElem?_of_mem hem
     exact .inr ⟨k,e,hk',Nat.eq_of_beq_eq_true hej⟩
   rcases hcase with hji | ⟨k,e,hk',rfl⟩
   case inr=>exact Cl hI hanc hpairs hk' hp hnl hdeps (fun a' w' hI'=>ihf us _ a' w' (ow hI.size hlt hnl hfu) hI')
   have hpairsX:=hc j hji
   simp only[io,Bool.and_eq_true]at hpairsX
   have hpairsX:=hpairsX.2
   have hnew:=hnew j hji
   have ho:=ho j hji
   have hΦ:=hΦ j hji
   have hg:=hg j hji
   have h:=h j hji
   have ih:=ih j hji
   rw[ho]at hp;cases hp
   generalize kf j=κ at *
   generalize Φf j=Φj at *
   generalize of j=o at *
   have hget:∀{k e},E[k]?=some e→(E++[(j,κ)])[k]?=some e:=fun{k e} he=>by
    rw[List.getElem?_append_left];exact he;exact(List.getElem?_eq_some_iff.1 he).1
   have hlast:(E++[(j,κ)])[E.length]?=some (j,κ):=by simp
   have hlook:=Cb hI ho hnl hanci (Nat.le_refl _)
    (fun j' e' he' hjk y hy hc=>oj (cG hpairsX hjk (hget he') hlast) hy ho hc)
    (fun j' e' he' hkj=>by rw[List.getElem?_eq_none hkj]at he';cases he')
   have htk:us.take E.length=us:=by rw[← hI.len,List.take_length]
   rw[htk,← hI.txt]at hlook
   have hyield:∀j' want,o.guard=some (j',want)→∀t,(os.toArray[j']?).bind (·.dst)=some t→∀v,lk l t=some v→a.tmps[t]?=some v:=by
    intro j' want hg t ht v hv
    have htn:t∈fa os.toArray o:=by
     simp only[fa,List.mem_append,BV,hg]
     left;rw[ht];simp
    exact hI.fr.at_ t v (by rw[hlook.1 t htn];exact hv)
   have hlr:∀t v,lk (bR os.toArray o l) t=some v→a.tmps[t]?=some v:=fun t v ht=>by
    obtain⟨h1,h2⟩:=gH ht
    exact hI.fr.at_ t v (by rw[hlook.1 t h2];exact h1)
   unfold wpOp
   rw[show os.toArray[j]?=some o by simpa using ho]
   have hwant:=oD hg hyield
   simp only[hwant,if_true]
   left
   have hstep:=h w (iT a n.sz) hI.wd a w ⟨hI.fr.dfr,hI.fr.sz,fun t v ht=>by
    rw[dL]at ht
    cases hr':lk (bR os.toArray o l) t with
    | some v'=>rw[hr']at ht;cases ht;exact hlr t v hr'
    | none=>rw[hr']at ht;exact jY a n.sz t v ht⟩ ⟨Ext.refl _ _,hI.wd.holds,fun b hb=>.inr hb,hI.wd.nd⟩
   rcases fU hstep rfl with hstep | ⟨_,a0,w0,hq,_⟩
   case inr=>cases hq
   refine fc (Ik hstep) (fun a' w' hp=>?_) (fun e _ _ hp=>hp.1)
   obtain⟨_,u,W',hu,hsa,hsw⟩:=hp
   have hL':=kR hI.size hlt
   obtain⟨hdst,hinn,hkind⟩:=hΦ u W' hu
   refine ih u W' hu fuel (us++[u]) _ a' w' (ow hI.size hlt hnl hfu) ⟨by simp[hI.size],By hI.size hlt hI.clo hanci,fun q hq=>?_,by simp[hI.len],?_,lX hI.wd hsw,?_,fun k e u' he hu'=>?_⟩
   ·rw[hL']at hq
    by_cases hqj:q=j
    ·exact⟨E.length,(j,κ),hlast,hqj.symm⟩
    ·rw[if_neg hqj]at hq
     obtain⟨k,e,he,hej⟩:=hI.sub q hq
     exact⟨k,e,hget he,hej⟩
   ·rw[ed]
    have e1:cur us (dn (L.setIfInBounds j true) (E++[(j,κ)])) 0 l0=cur us (dn L E) 0 l0:=iV _ _ _ _ _ (fun q hq=>by
     have hql:q<E.length:=by have:=hI.len;omega
     simp only[Nat.zero_add,dn];rw[List.getElem?_append_left hql,List.getElem?_eq_getElem hql]
     simp only[hL',if_neg (hnew q E[q] (by simp[hql]))])
    have e2:dn (L.setIfInBounds j true) (E++[(j,κ)]) (0+us.length)=true:=by
     simp only[Nat.zero_add,dn,hI.len,List.getElem?_concat_length,hL',if_true]
    simp only[cur,e2,if_true,e1]
    exact⟨hsa.dfr,hsa.sz,wG hI.fr hlr hsa⟩
   ·rw[ed,← hI.txt];simp[cur]
   ·rcases qN he with⟨hkl,he'⟩ | ⟨rfl,rfl⟩
    ·have hu2:us[k]?=some u':=by rwa [List.getElem?_append_left (by have:=hI.len;omega)]at hu'
     obtain⟨o2,h1,h2,h3,h4⟩:=hI.ents k e u' he' hu2
     rw[List.take_append_of_le_length (by have:=hI.len;omega)]
     refine⟨o2,h1,h2,h3,?_⟩
     have hdone:L.getD e.1 false=true→(L.setIfInBounds j true).getD e.1 false=true:=fun hx=>by rw[hL'];split;rfl;exact hx
     rcases h4 with h4 | ⟨g1,g2,A,Wk,g3,g4,g5⟩ | h4
     ·exact .inl (hdone h4)
     ·rcases hkind with rfl | ⟨rfl,B,hB⟩
      ·cases hkd:e.2 with
       | free=>
        have:=g4 hkd
        subst this
        exact .inr (.inl ⟨g1,rfl,W',[],by simp,fun _=>rfl,g5⟩)
       | pin=>
        refine .inl (hdone (hanci _ ?_))
        exact Mc (cG hpairsX hkl (hget he') hlast) (by rw[hkd];rfl)
       | eff=>rw[hkd]at g2;simp[Kd.isEff]at g2
       | alc=>rw[hkd]at g2;simp[Kd.isEff]at g2
      ·exact .inr (.inl ⟨g1,g2,B++A,Wk,by rw[hB,g3,List.append_assoc],g4,g5⟩)
     ·exact .inr (.inr h4)
    ·have hu2:u'=u:=by rw[← hI.len,List.getElem?_concat_length]at hu';exact(Option.some.inj hu').symm
     subst hu2
     refine⟨o,ho,hdst,hinn,.inl ?_⟩
     rw[hL',if_pos rfl]
theorem af{rid:Nat}{W:List Res}{l:Sl}(π:List Nat)(hm:P.follows .mixedOrders=true)(h:QF P c n os (Q .normal) [] W l π):Go c n l W ((Code.region rid os.toArray true).wp P Q):=by
 refine MX hm fun a w ha hw=>DP (l0:=l) h _ [] _ a w ?_ ⟨by simp,?_,?_,rfl,ha,hw,rfl,?_⟩
 ·simp
 ·intro i j hi;simp[Array.getD_eq_getD_getElem?,Array.getElem?_replicate]at hi;split at hi <;> simp at hi
 ·intro i hi;simp[Array.getD_eq_getD_getElem?,Array.getElem?_replicate]at hi;split at hi <;> simp at hi
 ·intro k e u he;simp at he
variable {K:Act→World→Prop} {E:En} {W:List Res} {l:Sl} {i d:Nat} {o:Oper} {rest:List Nat}
theorem Zpf{v:Value}(ho:os[i]?=some o)(h:OpV P c n [] [] (bR os.toArray o l) (noG o) (some (d,v)))(hr:QF P c n os K (E++[(i,.free)]) W ((d,v)::l) rest)
  (hi:ip i E=true:=by rfl) (hd:o.dst=some d:=by rfl) (hn:Nat.blt d n.sz=true:=by rfl) (hg:bO os.toArray l o=some true:=by rfl):QF P c n os K E W l (i::rest):=
 QF.val .free rfl hi ho hd hn hg h hr
theorem Zpp{v:Value}(ho:os[i]?=some o)(h:OpV P c n W W (bR os.toArray o l) (noG o) (some (d,v)))(hr:QF P c n os K (E++[(i,.pin)]) W ((d,v)::l) rest)
  (hi:ip i E=true:=by rfl) (hd:o.dst=some d:=by rfl) (hn:Nat.blt d n.sz=true:=by rfl) (hg:bO os.toArray l o=some true:=by rfl):QF P c n os K E W l (i::rest):=
 QF.val .pin rfl hi ho hd hn hg h hr
theorem nd1{Φ:Option (Nat×Value)→List Res→Prop}(kd:Kd)(ho:os[i]?=some o)(hi:ip i E=true)(hc:io os (E++[(i,kd)])=true)(hdesc:fX os [i] rest E=true)
  (hΦ:∀u W',Φ u W'→o.dst=u.map (·.1)∧(∀d,o.dst=some d→Nat.blt d n.sz=true)∧(kd = .eff∨(kd = .alc∧∃B,W'=B++W)))
  (hg:bO os.toArray l o=some true) (h:OpN P c n W Φ (bR os.toArray o l) (noG o))
  (hr:∀u W',Φ u W'→QF P c n os K (E++[(i,kd)]) W' (u.toList++l) rest):QF P c n os K E W l (i::rest):=by
 refine QF.nd (is:=[i]) (nx:=fun _=>rest) (o:=fun _=>o) (Φ:=fun _=>Φ) (kd:=fun _=>kd) (by simp) ?_ ?_ ?_ hdesc ?_ ?_ ?_ ?_ <;> intro j hj <;> (have hj:=List.mem_singleton.1 hj;subst hj)
 ·exact hi
 ·exact ho
 ·exact hc
 ·exact hΦ
 ·exact hg
 ·exact h
 ·exact hr
def OpF(P:Program)(c:Cx)(n:Nn)(W:List Res)(F:Value→List Res)(d:Nat)(lr:Sl)(o:Oper):Prop:=
 ∀w0 m,SatW c W w0→Go ⟨w0,fps W⟩ n (lr++m) W (wpList P #[] (fun e a w=>e = .normal∧∃v,SatA n ((d,v)::(lr++m)) a∧SatW ⟨w0,fps W⟩ (F v) w) [o])
theorem Zpn{F:Value→List Res}(ho:os[i]?=some o)(h:OpF P c n W F d (bR os.toArray o l) (noG o))(hr:∀v,QF P c n os K (E++[(i,.eff)]) (F v) ((d,v)::l) rest)
  (hi:ip i E=true:=by rfl) (hd:o.dst=some d:=by rfl) (hn:Nat.blt d n.sz=true:=by rfl) (hg:bO os.toArray l o=some true:=by rfl)
  (hc:io os (E++[(i,.eff)])=true:=by rfl) (hdesc:fX os [i] rest E=true:=by rfl):QF P c n os K E W l (i::rest):=
 nd1 .eff (Φ:=fun u W'=>∃v,u=some (d,v)∧W'=F v) ho hi hc hdesc (fun u W' ⟨v,hu,_⟩=>by subst hu;exact⟨hd,fun d' hd'=>by rw[hd]at hd';cases hd';exact hn,.inl rfl⟩) hg
  (fun w0 m hw a w ha hw'=>bE (h w0 m hw a w ha hw') rfl (fun _ _ _ h=>h.1) fun a w ⟨h1,v,h2,h3⟩=>⟨h1,some (d,v),F v,⟨v,rfl,rfl⟩,h2,h3⟩)
  (fun u W' ⟨v,hu,hW⟩=>by subst hu;subst hW;exact hr v)
theorem Zpx{F:Value→List Res}{L:Sl}{v:Value}{W':List Res}(hF:F v=W':=by rfl):
  Go c n ((d,v)::L) W' (wpList P #[] (fun e a w=>e = .normal∧∃v,SatA n ((d,v)::L) a∧SatW c (F v) w) []):=
 fun _ _ ha hw=>wpList_nil ⟨rfl,v,ha,by rw[hF];exact hw⟩
def OpB(P:Program)(c:Cx)(n:Nn)(W:List Res)(F:Nat→List Res)(d:Nat)(lr:Sl)(o:Oper):Prop:=
 ∀w0 m,SatW c W w0→Go ⟨w0,fps W⟩ n (lr++m) W (wpList P #[] (fun e a w=>e = .normal∧∃b,SatA n ((d,pt b 0)::(lr++m)) a∧SatW ⟨w0,fps W⟩ (F b++W) w) [o])
theorem Zpb{F:Nat→List Res}(ho:os[i]?=some o)(h:OpB P c n W F d (bR os.toArray o l) (noG o))(hr:∀b,QF P c n os K (E++[(i,.alc)]) (F b++W) ((d,pt b 0)::l) rest)
  (hi:ip i E=true:=by rfl) (hd:o.dst=some d:=by rfl) (hn:Nat.blt d n.sz=true:=by rfl) (hg:bO os.toArray l o=some true:=by rfl)
  (hc:io os (E++[(i,.alc)])=true:=by rfl) (hdesc:fX os [i] rest E=true:=by rfl):QF P c n os K E W l (i::rest):=
 nd1 .alc (Φ:=fun u W'=>∃b,u=some (d,pt b 0)∧W'=F b++W) ho hi hc hdesc (fun u W' ⟨v,hu,hW⟩=>by subst hu;exact⟨hd,fun d' hd'=>by rw[hd]at hd';cases hd';exact hn,.inr ⟨rfl,F v,hW⟩⟩) hg
  (fun w0 m hw a w ha hw'=>bE (h w0 m hw a w ha hw') rfl (fun _ _ _ h=>h.1) fun a w ⟨h1,b,h2,h3⟩=>⟨h1,some (d,pt b 0),F b++W,⟨b,rfl,rfl⟩,h2,h3⟩)
  (fun u W' ⟨v,hu,hW⟩=>by subst hu;subst hW;exact hr v)
theorem eO{b:Nat}{v:Value}{T:TypeId}{L:Sl}:
  Go c n ((d,pt b 0)::L) (.blk b v T::W) (wpList P #[] (fun e a w=>e = .normal∧∃b,SatA n ((d,pt b 0)::L) a∧SatW c ((fun b=>[.blk b v T]) b++W) w) []):=
 fun _ _ ha hw=>wpList_nil ⟨rfl,b,ha,hw⟩
def OpC(P:Program)(c:Cx)(n:Nn)(W:List Res)(F:Value→List Res)(d:Nat)(lr:Sl)(o:Oper):Prop:=
 ∀w0 m,SatW c W w0→Go ⟨w0,fps W⟩ n (lr++m) W (wpList P #[] (fun e a w=>e = .normal∧∃v,SatA n ((d,v)::(lr++m)) a∧SatW ⟨w0,fps W⟩ (F v++W) w) [o])
theorem Zpc{F:Value→List Res}(ho:os[i]?=some o)(h:OpC P c n W F d (bR os.toArray o l) (noG o))(hr:∀v,QF P c n os K (E++[(i,.alc)]) (F v++W) ((d,v)::l) rest)
  (hi:ip i E=true:=by rfl) (hd:o.dst=some d:=by rfl) (hn:Nat.blt d n.sz=true:=by rfl) (hg:bO os.toArray l o=some true:=by rfl)
  (hc:io os (E++[(i,.alc)])=true:=by rfl) (hdesc:fX os [i] rest E=true:=by rfl):QF P c n os K E W l (i::rest):=
 nd1 .alc (Φ:=fun u W'=>∃v,u=some (d,v)∧W'=F v++W) ho hi hc hdesc (fun u W' ⟨v,hu,hW⟩=>by subst hu;exact⟨hd,fun d' hd'=>by rw[hd]at hd';cases hd';exact hn,.inr ⟨rfl,F v,hW⟩⟩) hg
  (fun w0 m hw a w ha hw'=>bE (h w0 m hw a w ha hw') rfl (fun _ _ _ h=>h.1) fun a w ⟨h1,v,h2,h3⟩=>⟨h1,some (d,v),F v++W,⟨v,rfl,rfl⟩,h2,h3⟩)
  (fun u W' ⟨v,hu,hW⟩=>by subst hu;subst hW;exact hr v)
theorem wD{v:Value}{xs:List Value}{T:TypeId}{L:Sl}:
  Go c n ((d,v)::L) (.sl v xs T::W) (wpList P #[] (fun e a w=>e = .normal∧∃v,SatA n ((d,v)::L) a∧SatW c ((fun v=>[.sl v xs T]) v++W) w) []):=
 fun _ _ ha hw=>wpList_nil ⟨rfl,v,ha,hw⟩
theorem two{p:Nat→Prop}{i j:Nat}(h1:p i)(h2:p j):∀k∈[i,j],p k:=by
 intro k hk
 rcases List.mem_cons.1 hk with rfl | hk
 ·exact h1
 ·have:=List.mem_singleton.1 hk
  subst this;exact h2
theorem po{v v':Value}{T T':TypeId}{j d':Nat}{o':Oper}(ho:os[i]?=some o)(ho':os[j]?=some o')(h:OpB P c n W (fun b=>[.blk b v T]) d (bR os.toArray o l) (noG o))(h':OpB P c n W (fun b=>[.blk b v' T']) d' (bR os.toArray o' l) (noG o'))
  (hr:∀b,QF P c n os K (E++[(i,.alc)]) (.blk b v T::W) ((d,pt b 0)::l) (j::rest)) (hr':∀b,QF P c n os K (E++[(j,.alc)]) (.blk b v' T'::W) ((d',pt b 0)::l) (i::rest))
  (hij:Nat.beq i j=false:=by rfl) (hi:ip i E=true:=by rfl) (hi':ip j E=true:=by rfl) (hd:o.dst=some d:=by rfl) (hd':o'.dst=some d':=by rfl) (hn:Nat.blt d n.sz=true:=by rfl) (hn':Nat.blt d' n.sz=true:=by rfl)
  (hg:bO os.toArray l o=some true:=by rfl) (hg':bO os.toArray l o'=some true:=by rfl)
  (hc:io os (E++[(i,.alc)])=true:=by rfl) (hc':io os (E++[(j,.alc)])=true:=by rfl) (hdesc:fX os [i,j] rest E=true:=by rfl):QF P c n os K E W l (i::j::rest):=by
 have hne:¬j=i:=fun h=>by subst h;rw[Nat.beq_refl]at hij;cases hij
 refine QF.nd (is:=[i,j]) (nx:=fun k=>[i,j].erase k++rest) (o:=fun k=>if k=i then o else o') (Φ:=fun k u W'=>if k=i then ∃b,u=some (d,pt b 0)∧W' = .blk b v T::W else ∃b,u=some (d',pt b 0)∧W' = .blk b v' T'::W)
  (kd:=fun _=>.alc) (by simp) (two hi hi') (two ?_ ?_) (two hc hc') hdesc (two ?_ ?_) (two ?_ ?_) (two ?_ ?_) (two ?_ ?_)
 ·simp only[if_true];exact ho
 ·simp only[if_neg hne];exact ho'
 ·simp only[if_true]
  intro u W' ⟨b,hu,hW⟩;subst hu;exact⟨hd,fun q hq=>by rw[hd]at hq;cases hq;exact hn,.inr ⟨by trivial,[_],hW⟩⟩
 ·simp only[if_neg hne]
  intro u W' ⟨b,hu,hW⟩;subst hu;exact⟨hd',fun q hq=>by rw[hd']at hq;cases hq;exact hn',.inr ⟨by trivial,[_],hW⟩⟩
 ·simp only[if_true];exact hg
 ·simp only[if_neg hne];exact hg'
 ·simp only[if_true]
  exact fun w0 m hw a w ha hw'=>bE (h w0 m hw a w ha hw') rfl (fun _ _ _ h=>h.1) fun a w ⟨h1,b,h2,h3⟩=>⟨h1,some (d,pt b 0),_,⟨b,rfl,rfl⟩,h2,h3⟩
 ·simp only[if_neg hne]
  exact fun w0 m hw a w ha hw'=>bE (h' w0 m hw a w ha hw') rfl (fun _ _ _ h=>h.1) fun a w ⟨h1,b,h2,h3⟩=>⟨h1,some (d',pt b 0),_,⟨b,rfl,rfl⟩,h2,h3⟩
 ·simp only[if_true]
  intro u W' ⟨b,hu,hW⟩;subst hu;subst hW
  have:=hr b
  rwa [List.erase_cons_head]
 ·simp only[if_neg hne]
  intro u W' ⟨b,hu,hW⟩;subst hu;subst hW
  have:=hr' b
  rw[List.erase_cons_tail (by simpa using fun h=>hne h.symm),List.erase_cons_head]
  exact this
theorem Zps{W':List Res}(ho:os[i]?=some o)(h:OpV P c n W W' (bR os.toArray o l) (noG o) none)(hr:QF P c n os K (E++[(i,.eff)]) W' l rest)
  (hi:ip i E=true:=by rfl) (hd:o.dst=none:=by rfl) (hg:bO os.toArray l o=some true:=by rfl)
  (hc:io os (E++[(i,.eff)])=true:=by rfl) (hdesc:fX os [i] rest E=true:=by rfl):QF P c n os K E W l (i::rest):=
 nd1 .eff (Φ:=fun u V=>u=none∧V=W') ho hi hc hdesc (fun u V ⟨hu,_⟩=>by subst hu;exact⟨hd,(fun d' hd'=>by rw[hd]at hd';cases hd'),.inl rfl⟩) hg
  (fun w0 m hw a w ha hw'=>bE (h w0 m hw a w ha hw') rfl (fun _ _ _ h=>h.1) fun a w ⟨h1,h2,h3⟩=>⟨h1,none,W',⟨rfl,rfl⟩,h2,h3⟩)
  (fun u V ⟨hu,hV⟩=>by subst hu;subst hV;exact hr)
theorem DM{v:Value}(ho:os[i]?=some o)(h:OpV P c n W W (bR os.toArray o l) (noG o) (some (d,v)))(hr:QF P c n os K (E++[(i,.alc)]) W ((d,v)::l) rest)
  (hi:ip i E=true:=by rfl) (hd:o.dst=some d:=by rfl) (hn:Nat.blt d n.sz=true:=by rfl) (hg:bO os.toArray l o=some true:=by rfl)
  (hc:io os (E++[(i,.alc)])=true:=by rfl) (hdesc:fX os [i] rest E=true:=by rfl):QF P c n os K E W l (i::rest):=
 nd1 .alc (Φ:=fun u V=>u=some (d,v)∧V=W) ho hi hc hdesc (fun u V ⟨hu,hV⟩=>by subst hu;exact⟨hd,(fun d' hd'=>by rw[hd]at hd';cases hd';exact hn),.inr ⟨rfl,[],hV⟩⟩) hg
  (fun w0 m hw a w ha hw'=>bE (h w0 m hw a w ha hw') rfl (fun _ _ _ h=>h.1) fun a w ⟨h1,h2,h3⟩=>⟨h1,some (d,v),W,⟨rfl,rfl⟩,h2,h3⟩)
  (fun u V ⟨hu,hV⟩=>by subst hu;subst hV;exact hr)
theorem zF{v:Value}{W2:List Res}(n1 n2:List Nat){j:Nat}{o':Oper}(ho:os[i]?=some o)(ho':os[j]?=some o')(h:OpV P c n W W (bR os.toArray o l) (noG o) (some (d,v)))(h':OpV P c n W W2 (bR os.toArray o' l) (noG o') none)
  (hr:QF P c n os K (E++[(i,.alc)]) W ((d,v)::l) n1) (hr':QF P c n os K (E++[(j,.eff)]) W2 l n2)
  (hij:Nat.beq i j=false:=by rfl) (hi:ip i E=true:=by rfl) (hi':ip j E=true:=by rfl) (hd:o.dst=some d:=by rfl) (hn:Nat.blt d n.sz=true:=by rfl) (hd':o'.dst=none:=by rfl)
  (hg:bO os.toArray l o=some true:=by rfl) (hg':bO os.toArray l o'=some true:=by rfl)
  (hc:io os (E++[(i,.alc)])=true:=by rfl) (hc':io os (E++[(j,.eff)])=true:=by rfl) (hdesc:fX os [i,j] rest E=true:=by rfl):QF P c n os K E W l (i::j::rest):=by
 have hne:¬j=i:=fun h=>by subst h;rw[Nat.beq_refl]at hij;cases hij
 refine QF.nd (is:=[i,j]) (nx:=fun k=>if k=i then n1 else n2) (o:=fun k=>if k=i then o else o') (Φ:=fun k u V=>if k=i then u=some (d,v)∧V=W else u=none∧V=W2)
  (kd:=fun k=>if k=i then .alc else .eff) (by simp) (two hi hi') (two ?_ ?_) (two ?_ ?_) hdesc (two ?_ ?_) (two ?_ ?_) (two ?_ ?_) (two ?_ ?_)
 ·simp only[if_true];exact ho
 ·simp only[if_neg hne];exact ho'
 ·simp only[if_true];exact hc
 ·simp only[if_neg hne];exact hc'
 ·simp only[if_true]
  intro u V ⟨hu,hV⟩;subst hu;exact⟨hd,(fun q hq=>by rw[hd]at hq;cases hq;exact hn),.inr ⟨trivial,[],hV⟩⟩
 ·simp only[if_neg hne]
  intro u V ⟨hu,_⟩;subst hu;exact⟨hd',(fun q hq=>by rw[hd']at hq;cases hq),.inl trivial⟩
 ·simp only[if_true];exact hg
 ·simp only[if_neg hne];exact hg'
 ·simp only[if_true]
  exact fun w0 m hw a w ha hw'=>bE (h w0 m hw a w ha hw') rfl (fun _ _ _ h=>h.1) fun a w ⟨h1,h2,h3⟩=>⟨h1,some (d,v),W,⟨rfl,rfl⟩,h2,h3⟩
 ·simp only[if_neg hne]
  exact fun w0 m hw a w ha hw'=>bE (h' w0 m hw a w ha hw') rfl (fun _ _ _ h=>h.1) fun a w ⟨h1,h2,h3⟩=>⟨h1,none,W2,⟨rfl,rfl⟩,h2,h3⟩
 ·simp only[if_true]
  intro u V ⟨hu,hV⟩;subst hu;subst hV
  exact hr
 ·simp only[if_neg hne]
  intro u V ⟨hu,hV⟩;subst hu;subst hV
  exact hr'
theorem Zp0(hk:Go c n l W K)(hc:io os E=true:=by rfl)(hf:Hd os E=true:=by rfl):QF P c n os K E W l []:=QF.fin hc hf hk
end
end Go.Proofs.YtndhfbecpghinaaGreat.L.R
namespace Go.Proofs.YtndhfbecpghinaaGreat.L
open Go Go.Proofs
set_option maxRecDepth 100000
section
attribute [local irreducible] Code.wp wpList Af bodyPost L.Go
open Sha
attribute [local simp] kV
def dl(ps:List (Value×List Nat)):List Nat:=ps.flatMap (·.2)
theorem GZ(ps:List (Value×List Nat)):dl (ps.take 0)=[]:=rfl
theorem ta{ps:List (Value×List Nat)}{i:Nat}{p:Value}{ys:List Nat}(h:ps[i]?=some (p,ys)):dl (ps.take (i+1))=dl (ps.take i)++ys:=by
 have hi:=(List.getElem?_eq_some_iff.1 h).1
 have he:=(List.getElem?_eq_some_iff.1 h).2
 rw[List.take_succ_eq_append_getElem hi,he]
 simp[dl]
theorem pE(ps:List (Value×List Nat))(i:Nat):(dl (ps.take i)).length≤(dl ps).length:=by
 have h:(dl ps).length=(dl (ps.take i)).length+(dl (ps.drop i)).length:=by
  have:=congrArg (fun q=>(dl q).length) (List.take_append_drop i ps).symm
  simp only[dl,List.flatMap_append,List.length_append]at this ⊢;exact this
 omega
def Tc(x:Nat)(l:List Nat):List Nat:=l.map (· ^^^ x)
def Qf(key:List Nat):List Nat:=if 64<key.length then Sha.sum key else key
def Rh(key:List Nat):List Nat:=Qf key++List.replicate (64-(Qf key).length) 0
def mac(key b:List Nat):List Nat:=Sha.sum (Tc 92 (Rh key)++Sha.sum (Tc 54 (Rh key)++b))
def Tk(key info:List Nat):Nat→List Nat
 | 0=>[]
 | i+1=>mac key (Tk key info i++info++[(i+1)%256])
def ok(key info:List Nat):Nat→List Nat
 | 0=>[]
 | i+1=>ok key info i++Tk key info (i+1)
attribute [irreducible] dl Tc Qf Rh mac Tk ok
theorem Th{a b:Prop}(k:b)(h:Rm b→a:=by intro k;refine iC (ys:=[]) (kk:=.u8) (by rfl) (by rfl) RdW.nil (by rfl) ?_;exact k.h):a:=h ⟨k⟩
theorem VT{a b:Prop}(k:b)(h:Rm b→a:=by intro k;(first|refine Z01 ?_|refine Z02 ?_|refine Z03 ?_|refine Z04 ?_|refine Z05 ?_|refine Z06 ?_|refine Z07 ?_|refine Z08 ?_|refine Z09 ?_|refine Z10 ?_|refine Z11 ?_|refine Z12 ?_|refine Z13 ?_|refine Z14 ?_|refine Z16 ?_|refine Z17 ?_|refine Z18 ?_|refine Z20 ?_|refine Z21 ?_|refine Z62 ?_|refine Z63 ?_|refine Z71 ?_);exact k.h):a:=h ⟨k⟩
set_option maxHeartbeats 1000000 in
theorem Ea(k:Nat)(hk:k<4294967296):Spec Tryz.prog 137 [.slice none 0 0,N .i64 k] ai [] (fun v W=>W=[.sl v (([]:List Nat).map (N .u8)) 5]):=by
 refine ad Tryz.func137 rfl rfl rfl fun w _=>?_
 repeat (first|refine y_5 ?_|rw[List.length_nil]|refine tU (by rfl) (by rfl) (by rfl) ?_|refine Th ?_|refine Z01 ?_|refine Z02 ?_|refine Z03 ?_|refine Z04 ?_|refine Z05 ?_|refine Z06 ?_|refine Z07 ?_|refine Z08 ?_|refine Z09 ?_|refine Z10 ?_|refine Z11 ?_|refine Z12 ?_|refine Z13 ?_|refine Z14 ?_|refine Z16 ?_|refine Z17 ?_|refine Z18 ?_|refine Z20 ?_|refine Z21 ?_|refine Z62 ?_|refine Z63 ?_|refine Z71 ?_|refine Z84 fun _=>?_)
 refine an (by rfl) (fun h=>?_) (fun h=>?_)
 ·repeat (first|rw[List.length_nil]|refine tU (by rfl) (by rfl) (by rfl) ?_|refine Th ?_|refine kz (xs:=[]) (lo:=0) (hi:=0) (by rfl) (by rfl) (by rfl) RdW.nil (by rfl) (by rfl) (by decide) (by decide) (by rfl) ?_|refine vT (k:=k) (z:=N .u8 0) (by rfl) (by rfl) (by rfl) (by rfl) (by rfl) (by rfl) (by rfl) (by rfl) (by omega) (by omega) (by omega) (by rfl) fun _=>?_|refine VT ?_|refine Z84 fun _=>?_)
  rename_i s
  refine nE 0 0 fd (by decide) (Nat.zero_le _) ?_
  exact Ze1 fun _ hw=>aa hw (Wout:=[.sl (sub s 0 0) (([]:List Nat).map (N .u8)) 5]) (by exact sw) rfl
 ·refine jH 5 ?_
  repeat (first|refine VT ?_|refine Z84 fun _=>?_)
  exact Ze1 fun _ hw=>aa hw (Wout:=[.sl (.slice none 0 0) (([]:List Nat).map (N .u8)) 5]) (by exact sw) rfl
theorem Bi{a b:Prop}(k:b)(h:Rm b→a:=by intro k;(first|refine Z01 ?_|refine Z02 ?_|refine Z03 ?_|refine Z04 ?_|refine Z05 ?_|refine Z06 ?_|refine Z07 ?_|refine Z08 ?_|refine Z09 ?_|refine Z10 ?_|refine Z11 ?_|refine Z12 ?_|refine Z13 ?_|refine Z14 ?_|refine Z15 ?_|refine Z17 ?_|refine Z18 ?_|refine Z20 ?_|refine Z21 ?_|refine Z22 ?_|refine Z23 ?_|refine Z24 ?_|refine Z26 ?_|refine Z27 ?_|refine Z67 ?_);exact k.h):a:=h ⟨k⟩
set_option maxHeartbeats 1000000 in
theorem wN(s:Value)(ps:List (Value×List Nat))(hl:(dl ps).length<4294967296)(hpl:ps.length<4294967296):
  Spec Tryz.prog 124 [s] (fun w=>Rd w s (ps.map (·.1))∧∀p∈ps,Rd w p.1 (p.2.map (N .u8))) [] (fun v W=>W=[.sl v ((dl ps).map (N .u8)) 5]):=by
 refine ad Tryz.func124 rfl rfl rfl fun w hr0=>?_
 have hr:=RdC.mk0 hr0.1
 have hrp:∀p∈ps,RdC ⟨w,fps []⟩ p.1 (p.2.map (N .u8)):=fun p hp=>RdC.mk0 (hr0.2 p hp)
 repeat (first|refine Bi ?_|refine Z84 fun _=>?_)
 refine ay (ι:=Nat) (fun i=>i≤ps.length) (fun i=>[(0,s),(2,.slice none 0 0),(3,N .i64 (dl (ps.take i)).length),(9,s),(10,N .i64 (ps.map (·.1)).length),(11,N .i64 i)]) (fun i=>[]) (fun i=>ps.length-i) 0 (by omega) (by rw[GZ];exact sbq) sw ?_
 intro i hi
 have hfl:=pE ps i
 repeat (first|refine Bi ?_|refine Z84 fun _=>?_)
 refine an (by rfl) (fun h=>?_) (fun h=>?_)
 ·rw[List.length_map]at h
  obtain⟨⟨p,ys⟩,hp⟩:∃q,ps[i]?=some q:=⟨ps[i],by simp[h]⟩
  have hpr:=hrp (p,ys) (List.mem_of_getElem? hp)
  simp only at hpr
  have hfs:=ta hp
  have hfl':=pE ps (i+1)
  have e:(dl (ps.take i)).length+ys.length=(dl (ps.take (i+1))).length:=by rw[hfs,List.length_append]
  repeat (first|refine y_5 ?_|rw[e]|refine eq (v:=p) (by rfl) (RdW.old hr) (by simp[hp]) (by rfl) (by rfl) ?_|refine Bi ?_|refine Z84 fun _=>?_)
  exact ao (i+1) (by omega) (by omega) sbq sw
 ·rw[List.length_map]at h
  have hil:i=ps.length:=by omega
  subst hil
  rw[List.take_length]
  repeat (first|(refine aw (by rfl) (by rfl) (by rfl) (Ea (dl ps).length hl) .nil (fun _ _=>trivial) (by rfl) ?_;rintro v _ rfl)|refine Bi ?_|refine Z84 fun _=>?_)
  refine ay (ι:=Nat×Value) (fun q=>q.1≤ps.length) (fun q=>[(6,q.2),(25,s),(26,N .i64 (ps.map (·.1)).length),(27,N .i64 q.1)]) (fun q=>[.sl q.2 ((dl (ps.take q.1)).map (N .u8)) 5]) (fun q=>ps.length-q.1) (0,v) (by simp) sbq (by simp only[GZ];exact sw) ?_
  rintro⟨i,u⟩ hi
  simp only at hi ⊢
  have hfl:=pE ps i
  repeat (first|refine Bi ?_|refine Z84 fun _=>?_)
  refine an (by rfl) (fun h=>?_) (fun h=>?_)
  ·rw[List.length_map]at h
   obtain⟨⟨p,ys⟩,hp⟩:∃q,ps[i]?=some q:=⟨ps[i],by simp[h]⟩
   have hpr:=hrp (p,ys) (List.mem_of_getElem? hp)
   simp only at hpr
   have hfs:=ta hp
   have hfl':=pE ps (i+1)
   have e:(dl (ps.take i)).length+ys.length=(dl (ps.take (i+1))).length:=by rw[hfs,List.length_append]
   repeat (first|rw[← hfs]|refine eq (v:=p) (by rfl) (RdW.old hr) (by simp[hp]) (by rfl) (by rfl) ?_|refine Bi ?_|refine Z84 fun _=>?_)
   rename_i u'
   exact ao (i+1,u') (by simp only;omega) (by simp only;omega) sbq sw
  ·rw[List.length_map]at h
   have hil:i=ps.length:=by omega
   subst hil
   rw[List.take_length]
   repeat (first|refine Bi ?_|refine Z84 fun _=>?_)
   exact Ze1 fun _ hw=>aa hw (Wout:=[.sl u ((dl ps).map (N .u8)) 5]) (by exact sw) rfl
theorem JA(b n lo hi:Nat):(fi b n lo hi).oneCell'=true:=rfl
theorem Ul(p q r:Value)(xs ys zs:List Nat):dl [(p,xs),(q,ys),(r,zs)]=xs++ys++zs:=by unfold dl;simp
theorem Lt.app{m:Nat}{xs ys:List Nat}(h:Lt m xs)(k:Lt m ys):Lt m (xs++ys):=fun x hx=>by
 rcases List.mem_append.1 hx with hx | hx
 ·exact h x hx
 ·exact k x hx
theorem Lt.one{m x:Nat}(h:x<m):Lt m [x]:=fun y hy=>by simp at hy;subst hy;exact h
end
def cut3:Value→Nat→Value
 | .slice a _ _,k=>.slice (if k=0 then a else a.map (·.add 0)) k k
 | v,_=>v
theorem Rd.cut3{w:World}{s:Value}{xs:List Value}(h:Rd w s xs){k:Nat}(h2:k≤xs.length):Rd w (cut3 s k) (xs.take k):=by
 obtain⟨a,cap,rfl,hc,hn,hsp⟩:=h.shape
 have hlen:(xs.take k).length=k:=by simp;omega
 refine⟨⟨if k=0 then a else a.map (·.add 0),k,by rw[hlen];rfl,by rw[hlen];exact Nat.le_refl _,fun he=>?_,fun a0 ha0=>?_⟩,fun i v hv=>?_⟩
 ·have:a=none:=by
   split at he
   ·exact he
   ·simpa using he
  obtain⟨hx,hcap⟩:=hn this
  subst hx;simp at h2
  subst h2;simp
 ·split at ha0
  ·exact hsp a0 ha0
  ·cases a with
   | none=>simp at ha0
   | some b=>
    simp at ha0
    have:=hsp b rfl
    subst ha0
    unfold Addr.add;split
    ·exact this
    ·rfl
 ·have hi':i<(xs.take k).length:=by
   rcases Nat.lt_or_ge i (xs.take k).length with h | h
   ·exact h
   ·rw[List.getElem?_eq_none h]at hv;simp at hv
  rw[hlen]at hi'
  have hne:¬k=0:=by omega
  cases a with
  | none=>obtain⟨hx,_⟩:=hn rfl;subst hx;simp at hv
  | some a0=>
   have hv':xs[i]?=some v:=by
    rw[List.getElem?_take,if_pos (by omega)]at hv;exact hv
   have hcell:=h.cells i v hv'
   have e:ea (L.cut3 (.slice (some a0) xs.length cap) k) i=ea (.slice (some a0) xs.length cap) i:=by
    have hs0:=hsp a0 rfl
    obtain⟨b,o,sp⟩:=a0
    simp only at hs0;subst hs0
    simp only[L.cut3,if_neg hne,Option.map_some,ea,cv]
    congr 1
   rw[e];exact hcell
section
variable {P:Program} {c:Cx} {n:Nn} {l:Sl} {W:List Res} {ops:Array Oper} {Q:Exit→Act→World→Prop} {rest:List Oper}
variable {d:Nat} {T:TypeId} {pos:String} {after:Array Edge}
theorem ou{w:World}{a:Act}(ha:SatA n l a){len cap k:Nat}{xh xm:Operand}(hh:mJ l len (some xh)=some k)(hm:mJ l len (some xm)=some k)(h2:k≤cap):
  (Instr.sliceBounds true len cap none (some (a.eval xh)) (some (a.eval xm))).run P w = .ok (0,k,k) w:=by
 have bnd:∀(kk:IntKind)(i y:Nat)(code:BoundsCode),i≤y→(Instr.sliceBound (N kk i) y code).run P w = .ok i w:=fun kk i y code h=>by
  have:=run_sliceBound (P:=P) (w:=w) kk (i:Int) y code (by omega) (by omega)
  rw[Int.toNat_natCast]at this
  exact this
 obtain⟨k1,hy⟩:=kL hh
 obtain⟨k2,hz⟩:=kL hm
 simp[Instr.sliceBounds,ha.ev hy,ha.ev hz,bnd k2 k cap _ h2,bnd k1 k k _ (Nat.le_refl _)]
theorem oB{x xh xm:Operand}{s:Value}{xs:List Value}{t E:TypeId}{k:Nat}(hx:ev l x=some s)(ht:P.underlying t=some (.slice E))(hz:az P E=some 1)(hr:RdW c W s xs)
  (hh:mJ l xs.length (some xh)=some k) (hm:mJ l xs.length (some xm)=some k) (h2:k≤xs.length)
  (hn:Nat.blt d n.sz=true) (hk:Go c n ((d,cut3 s k)::l) W (wpList P ops Q rest)):
  Go c n l W (wpList P ops Q (⟨some d,.slice t x none (some xh) (some xm),T,pos,after,none⟩::rest)):=
 ax rfl rfl hn (fun a w ha hw=>by
  obtain⟨a0,cap,rfl,h3,h4,h5⟩:=(hr w hw).shape
  have hb:=ou (P:=P) (w:=w) ha hh hm (cap:=cap) (by omega)
  simp[execOp,ha.ev hx,Instr.sliceAt,run_underlying ht,Instr.slice,hb,ar hz,cut3]) hk
theorem MO{w:World}{s:Value}{xs:List Value}{T:TypeId}(h:(Res.sl s xs T).holds w){k:Nat}(h2:k≤xs.length):
  (Res.sl (cut3 s k) (xs.take k) T).holds w∧(Res.sl (cut3 s k) (xs.take k) T).fp=(Res.sl s xs T).fp:=by
 rcases h with⟨rfl,rfl⟩ | ⟨b,off,cap,pre,post,fz,hs⟩
 ·simp at h2;subst h2
  exact⟨.inl ⟨by simp[cut3],by simp⟩,by simp[cut3,Res.fp]⟩
 ·obtain⟨rfl,h3,h4,h5,h6,h7⟩:=hs
  have hlen:(xs.take k).length=k:=by simp;omega
  have hadd:(if k=0 then some (⟨b,off,none⟩:Addr)else some ((⟨b,off,none⟩:Addr).add 0))=some ⟨b,off,none⟩:=by
   split <;> simp[cv]
  refine⟨.inr ⟨b,off,k,pre,xs.drop k++post,fz,?_⟩,by simp[cut3,Res.fp,hadd]⟩
  refine⟨by rw[hlen];simp[cut3,hadd],by rw[hlen];exact Nat.le_refl _,by rw[hlen];simp,h5,?_,?_⟩
  ·rw[h6];congr 2
   rw[List.append_assoc,List.append_assoc,← List.append_assoc (xs.take k),List.take_append_drop]
  ·intro hf
   have:=h7 hf
   simp at this ⊢;omega
theorem yG{φ:Act→World→Prop}{s:Value}{xs:List Value}{R:List Res}(k:Nat)(hf:Find W (.sl s xs T) R)(h2:k≤xs.length)
  (hk:Go c n l (.sl (cut3 s k) (xs.take k) T::R) φ):Go c n l W φ:=
 nw (fun w hw=>by
  have hw:=hw.perm hf.perm
  obtain⟨g1,g2⟩:=MO (hw.holds _ (List.mem_cons_self ..)) h2
  exact hw.upd g2 (Ext.refl _ _) g1) hk
theorem rG{w:World}{t E ty:TypeId}{by' cap:Nat}{z y:Value}{base:Option Addr}{xs ys:List Value}(ht:P.underlying t=some (.slice E))(hz:cE P E=some z)(hs:az P E=some 1)(hb:lG P E=some by')(h1:z.oneCell'=true)
    (hX:Rd w (.slice base xs.length cap) xs) (hY:Rd w y ys) (hroom:¬xs.length+ys.length≤cap) (hbd:(xs.length+ys.length)*by'≤140737488355328) (h63:xs.length+ys.length<9223372036854775808):
    ∃s' w',(Builtin.append_ #[t,t] ty #[.slice base xs.length cap,y]).run P w = .ok s' w'∧(Res.sl s' (xs++ys) E).holds w'∧Ext [] w w' ∧
      (Res.sl s' (xs++ys) E).fp=[w.heap.size]:=by
  obtain⟨i,hi,hz',hs',hb'⟩:=mL hz hs hb
  obtain⟨a1,cap1,hye,hc1,hn1,hsp1⟩:=hY.shape
  have hlenY:∀w,(Builtin.lenOf y).run P w = .ok ys.length w:=fun w=>by rw[hye];rfl
  have hfY:=fun k=>eE (P:=P) (hY.drew k) (Nat.le_refl ys.length)
  have hz0:∀w,(zeroValue E).run P w = .ok z w:=cj hz
  have hty:∀w,(underlying t).run P w = .ok (.slice E) w:=run_underlying ht
  have hti:∀w,(typeInfo E).run P w = .ok i w:=fun w=>by simp[typeInfo,hi]
  have h63i:¬(9223372036854775807<((xs.length:Int)+(ys.length:Int))):=by omega
  have hfit:=growslice_fits (need:=xs.length+ys.length) (old:=cap) (bytes:=by') (by omega) hbd
  have h48:¬(281474976710656<Builtin.nextslicecap (xs.length+ys.length) cap*i.bytes):=by rw[hb'];omega
  have hfX:=fun k=>eE (P:=P) (hX.drew k) (Nat.le_refl xs.length)
  have hcut:xs.length+ys.length≤grownCap w (xs.length+ys.length) cap E:=by
    simp only[grownCap,Question.cut];omega
  have hzc:Builtin.zeroCells z.cells (grownCap w (xs.length+ys.length) cap E-(xs.length+ys.length))=(List.replicate (grownCap w (xs.length+ys.length) cap E-(xs.length+ys.length)) z).toArray:=by
    apply Array.ext
    · simp[Builtin.zeroCells,gd h1]
    · intro j h1' h2'
      simp[Builtin.zeroCells,gd h1,Nat.mod_one]
  refine⟨.slice (some ⟨w.heap.size,0,none⟩) (xs.length+ys.length) (grownCap w (xs.length+ys.length) cap E),
    { w with drawn:=w.drawn+1,heap:=w.heap.push (.cells (xs++ys++List.replicate (grownCap w (xs.length+ys.length) cap E-(xs.length+ys.length)) z).toArray E) },?_,?_,?_,rfl⟩
  · have hfX':(Builtin.firstCells 1 xs.length (Value.slice base xs.length cap)).run P w.drew = .ok xs.toArray w.drew:=by
      have:=hfX (w.drawn+1);simpa using this
    have hfY':(Builtin.firstCells 1 ys.length y).run P w.drew = .ok ys.toArray w.drew:=by
      have:=hfY (w.drawn+1);simpa using this
    have hcells:xs.toArray++ys.toArray++Builtin.zeroCells z.cells (grownCap w (xs.length+ys.length) cap E-(xs.length+ys.length)) =
        (xs++ys++List.replicate (grownCap w (xs.length+ys.length) cap E-(xs.length+ys.length)) z).toArray:=by rw[hzc];simp
    have hres:(Builtin.append_ #[t,t] ty #[Value.slice base xs.length cap,y]).run P w =
        .ok (.slice (some ⟨w.heap.size,0,none⟩) (xs.length+ys.length) (grownCap w (xs.length+ys.length) cap E))
          (w.drew.alloc (.cells (xs.toArray++ys.toArray++Builtin.zeroCells z.cells (grownCap w (xs.length+ys.length) cap E-(xs.length+ys.length))) E)):=by
      simp[Builtin.append_,hty,ar hs,hlenY,hroom,h63i,h48,hti,Question.forced,hfX',hfY',hz0,newRow,grownCap,-List.append_toArray]
    rw[hcells]at hres
    exact hres
  · refine .inr ⟨w.heap.size,0,grownCap w (xs.length+ys.length) cap E,[],List.replicate (grownCap w (xs.length+ys.length) cap E-(xs.length+ys.length)) z,(0,0),by simp,by simpa using hcut,?_,rfl,?_,by simp⟩
    · simp;omega
    · simp
  · exact⟨rfl,rfl,rfl,by simp,fun k hk _=>by
      show(w.heap.push _)[k]?=_
      rw[Array.getElem?_push,if_neg (by omega)]⟩
theorem sI{x y:Operand}{s y0:Value}{kk:IntKind}{xs ys:List Nat}{t E:TypeId}{by':Nat}(hx:ev l x=some (cut3 s xs.length))(hy:ev l y=some y0)(hs0:RdW c W s (xs.map (N kk)))(hr:RdW c W y0 (ys.map (N kk)))
  (ht:P.underlying t=some (.slice E)) (hz:cE P E=some (N kk 0)) (hs:az P E=some 1) (hb:lG P E=some by') (hy0:0<ys.length)
  (hbd:(xs.length+ys.length)*by'≤140737488355328) (h63:xs.length+ys.length<9223372036854775808) (hn:Nat.blt d n.sz=true)
  (hk:∀s',Go c n ((d,s')::l) (.sl s' ((xs++ys).map (N kk)) E::W) (wpList P ops Q rest)):
  Go c n l W (wpList P ops Q (⟨some d,.call { callee:=.builtin .append,args:=#[x,y],argTypes:=#[t,t] },T,pos,after,none⟩::rest)):=
 ft rfl rfl hn (Φ:=fun u V=>V = .sl u ((xs++ys).map (N kk)) E::W)
  (fun a w ha hw=>by
   have hY:=hr w hw
   have hX:=(hs0 w hw).cut3 (k:=xs.length) (by simp)
   obtain⟨a0,cap0,he0,_⟩:=(hs0 w hw).shape
   subst he0
   rw[List.take_of_length_le (by simp)]at hX
   have hlm:(xs.map (N kk)).length=xs.length:=by simp
   simp only[cut3]at hX hx
   generalize (if xs.length=0 then a0 else a0.map (·.add 0))=bs at hX hx
   have hX2:Rd w (.slice bs (xs.map (N kk)).length xs.length) (xs.map (N kk)):=by rw[hlm];exact hX
   obtain⟨s',w',h2,h3,h4,h5⟩:=rG (P:=P) (ty:=T) ht hz hs hb rfl hX2 hY (by simp;omega) (by simpa using hbd) (by simpa using h63)
   rw[hlm]at h2
   rw[← List.map_append]at h3 h5
   refine⟨s',w',_,by simp[execOp,ha.ev hx,ha.ev hy,resolve,invoke,builtin,h2],?_,rfl⟩
   have h6:=hw.ext0 h4
   have hlt:=hw.lt
   refine⟨h6.ext,?_,?_,?_⟩
   ·intro r hr
    rcases List.mem_cons.1 hr with rfl | hr
    ·exact h3
    ·exact h6.holds r hr
   ·intro b hb
    simp only[fps,List.flatMap_cons,h5,List.mem_append,List.mem_singleton]at hb
    rcases hb with rfl | hb
    ·exact .inl hw.ext.size
    ·exact h6.own b hb
   ·simp only[fps,List.flatMap_cons,h5]
    refine List.nodup_append.2 ⟨by simp,h6.nd,fun p hp q hq=>?_⟩
    simp only[List.mem_singleton]at hp;subst hp
    have:=hlt q hq;omega)
  (fun u V hV=>by subst hV;exact hk u)
end
section
variable {P:Program} {c:Cx} {n:Nn} {l:Sl} {W:List Res} {ops:Array Oper} {Q:Exit→Act→World→Prop} {rest:List Oper}
variable {d:Nat} {T:TypeId} {pos:String} {after:Array Edge}
def STR(xs:List Nat):Value:=.string (strOfNums (xs.map Int.ofNat))
theorem o4{x:Operand}{s:Value}{xs:List Nat}{t u E:TypeId}(hx:ev l x=some s)(ht:P.underlying t=some (.slice E))(hE:P.underlying E=some (.int .u8))(hu:P.underlying u=some .string)
  (hr:RdW c W s (xs.map (N .u8))) (hn:Nat.blt d n.sz=true) (hk:Go c n ((d,STR xs)::l) W (wpList P ops Q rest)):
  Go c n l W (wpList P ops Q (⟨some d,.convert t u x,T,pos,after,none⟩::rest)):=
 ax rfl rfl hn (fun a w ha hw=>by
  have hR:=hr w hw
  obtain⟨a0,cap,hs,h1,h2,h3⟩:=hR.shape
  subst hs
  have hlm:(xs.map (N .u8)).length=xs.length:=by simp
  have hv:(convert t u (.slice a0 (xs.map (N .u8)).length cap)).run P w = .ok (STR xs) w:=by
   cases a0 with
   | none=>
    obtain⟨h,_⟩:=h2 rfl
    have:xs=[]:=by simpa using h
    subst this
    exact run_convert_bytes_nil (w:=w) t E ht hE _ _ u hu
   | some a1=>
    have hsp:=h3 a1 rfl
    obtain⟨b,off,sp⟩:=a1
    simp only at hsp;subst hsp
    rw[hlm]
    refine run_convert_bytes_arg w t E ht hE b off xs.length cap (xs.map Int.ofNat) (by simp) (fun i hi=>?_) u hu
    have:=hR.cells i (N .u8 (xs.getD i 0)) (by simp[List.getD_eq_getElem?_getD,hi])
    simp only[ea,cv]at this
    rw[this]
    simp[List.getD_eq_getElem?_getD,hi]
  simp only[execOp,ha.ev hx,Sem.run_bind,hv,Result.andThen_ok,Sem.run_pure]) hk
end
section
attribute [local irreducible] Code.wp wpList Af bodyPost L.Go
open Sha
attribute [local simp] kV
def tg(d:List Nat):List Nat:=d++[d.length%256]
def xh(m d:List Nat)(n:Nat):List Nat:=List.replicate 64 0++m++[n/256%256,n%256,0]++tg d
def xf(m d:List Nat)(n:Nat):List Nat:=Sha.sum (xh m d n)
def xl(a b:List Nat):List Nat:=List.zipWith (· ^^^ ·) a b
def Xk(m d:List Nat)(n:Nat):Nat→List Nat
 | 0=>List.replicate 32 0
 | i+1=>Sha.sum (xl (Xk m d n i) (xf m d n)++[(i+1)%256]++tg d)
def xk(m d:List Nat)(n:Nat):Nat→List Nat
 | 0=>[]
 | i+1=>xk m d n i++Xk m d n (i+1)
def fk(m d:List Nat)(n:Nat):List Nat:=(xk m d n ((n+31)/32)).take n
theorem SS(d:List Nat):tg d=d++[d.length%256]:=rfl
theorem JJ(d:List Nat):(tg d).length=d.length+1:=by simp[tg]
theorem OF{d:List Nat}(h:Lt 256 d):Lt 256 (tg d):=Lt.app h (Lt.one (Nat.mod_lt _ (by decide)))
theorem S6(m d:List Nat)(n:Nat):xh m d n=List.replicate 64 0++m++[n/256%256,n%256,0]++tg d:=rfl
theorem Vv{m d:List Nat}(n:Nat)(hm:Lt 256 m)(hd:Lt 256 d):Lt 256 (xh m d n):=by
 refine Lt.app (Lt.app (Lt.app ?_ hm) ?_) (OF hd)
 ·intro x hx;rw[List.eq_of_mem_replicate hx];decide
 ·intro x hx
  simp only[List.mem_cons,List.not_mem_nil,or_false]at hx
  rcases hx with rfl | rfl | rfl
  ·exact Nat.mod_lt _ (by decide)
  ·exact Nat.mod_lt _ (by decide)
  ·decide
theorem S7(m d:List Nat)(n:Nat):(xh m d n).length=m.length+d.length+68:=by simp[xh,JJ];omega
theorem S4(m d:List Nat)(n:Nat):xf m d n=Sha.sum (xh m d n):=rfl
theorem S5(m d:List Nat)(n:Nat):(xf m d n).length=32:=kV _
theorem Vu(m d:List Nat)(n:Nat):Lt 256 (xf m d n):=JD _
theorem Ta{a b:List Nat}(ha:a.length=32)(hb:b.length=32):(xl a b).length=32:=by simp[xl,ha,hb]
theorem Vx{a b:List Nat}(ha:Lt 256 a)(hb:Lt 256 b):Lt 256 (xl a b):=by
 intro x hx
 simp only[xl]at hx
 obtain⟨i,hi,rfl⟩:=List.mem_iff_getElem.1 hx
 rw[List.getElem_zipWith]
 exact Nat.xor_lt_two_pow (n:=8) (ha _ (List.getElem_mem ..)) (hb _ (List.getElem_mem ..))
theorem S9{a b:List Nat}(ha:a.length=32)(hb:b.length=32){i:Nat}(h:i<32):(xl a b).getD i 0=a.getD i 0 ^^^ b.getD i 0:=by
 have h1:i<a.length:=by omega
 have h2:i<b.length:=by omega
 simp[xl,List.getD_eq_getElem?_getD,List.getElem?_zipWith,h1,h2]
theorem TJ(m d:List Nat)(n:Nat):Xk m d n 0=List.replicate 32 0:=rfl
theorem K3(m d:List Nat)(n i:Nat):Xk m d n (i+1)=Sha.sum (xl (Xk m d n i) (xf m d n)++[(i+1)%256]++tg d):=rfl
theorem zE(m d:List Nat)(n i:Nat):(Xk m d n i).length=32:=by
 cases i with
 | zero=>simp[Xk]
 | succ i=>exact kV _
theorem NN(m d:List Nat)(n i:Nat):Lt 256 (Xk m d n i):=by
 cases i with
 | zero=>intro x hx;rw[TJ]at hx;rw[List.eq_of_mem_replicate hx];decide
 | succ i=>exact JD _
theorem Xj(m d:List Nat)(n:Nat):xk m d n 0=[]:=rfl
theorem Nz(m d:List Nat)(n i:Nat):xk m d n (i+1)=xk m d n i++Xk m d n (i+1):=rfl
theorem JW(m d:List Nat)(n i:Nat):(xk m d n i).length=32*i:=by
 induction i with
 | zero=>rfl
 | succ i ih=>simp only[xk,List.length_append,ih,zE];omega
theorem Vw(m d:List Nat)(n i:Nat):Lt 256 (xk m d n i):=by
 induction i with
 | zero=>intro x hx;simp[xk]at hx
 | succ i ih=>exact Lt.app ih (NN _ _ _ _)
theorem FE(m d:List Nat)(n:Nat):fk m d n=(xk m d n ((n+31)/32)).take n:=rfl
theorem FF(m d:List Nat)(n:Nat):(fk m d n).length=n:=by simp[fk,JW];omega
theorem JY(m d:List Nat)(n:Nat):Lt 256 (fk m d n):=fun x hx=>Vw _ _ _ _ x (List.mem_of_mem_take hx)
attribute [irreducible] tg xh xf xl Xk xk fk
theorem Um(p q r s:Value)(xs ys zs us:List Nat):dl [(p,xs),(q,ys),(r,zs),(s,us)]=xs++ys++zs++us:=by unfold dl;simp
theorem KF{S1 a b:Prop}(s1:S1)(k:b)(h:S1→Rm b→a:=by intro s1 k;refine ah (by rfl) (by rfl) (by rfl) s1 (RdW.own fd) (by rfl) ?_;exact k.h):a:=h s1 ⟨k⟩
theorem VX{a b:Prop}(k:b)(h:Rm b→a:=by intro k;(first|refine Z01 ?_|refine Z03 ?_|refine Z04 ?_|refine Z05 ?_|refine Z06 ?_|refine Z07 ?_|refine Z08 ?_|refine Z09 ?_|refine Z10 ?_|refine Z11 ?_|refine Z12 ?_|refine Z13 ?_|refine Z14 ?_|refine Z29 ?_|refine Z30 ?_|refine Z31 ?_|refine Z32 ?_);exact k.h):a:=h ⟨k⟩
theorem ug(s:Value)(ps:List (Value×List Nat))(hb:Lt 256 (dl ps))(hl:(dl ps).length<4294967296)(hpl:ps.length<4294967296):
  Spec Tryz.prog 78 [s] (fun w=>Rd w s (ps.map (·.1))∧∀p∈ps,Rd w p.1 (p.2.map (N .u8))) [] (IsV (LV .u8 (Sha.sum (dl ps)))):=by
 refine ad Tryz.func78 rfl rfl rfl fun w hr0=>?_
 have hr:=RdC.mk0 hr0.1
 have hrp:∀p∈ps,RdC ⟨w,fps []⟩ p.1 (p.2.map (N .u8)):=fun p hp=>RdC.mk0 (hr0.2 p hp)
 have hsl:=kV (dl ps)
 repeat (first|(refine Bg ?_;intro _)|(refine aw (by rfl) (by rfl) (by rfl) (wN s ps hl hpl) .nil (fun w hw=>⟨RdW.old hr w hw,fun p hp=>RdW.old (hrp p hp) w hw⟩) (by rfl) ?_;rintro v _ rfl)|refine KF (JE _ (dl ps) hb hl) ?_|refine VX ?_|refine Z82 fun _=>?_)
 refine Zec fun _ hw=>aa hw SubW.nil ⟨?_,rfl⟩
 rfl
theorem zt{a b:Prop}(k:b)(h:Rm b→a:=by intro k;(first|refine Z01 ?_|refine Z02 ?_|refine Z03 ?_|refine Z04 ?_|refine Z05 ?_|refine Z06 ?_|refine Z07 ?_|refine Z08 ?_|refine Z09 ?_|refine Z10 ?_|refine Z11 ?_|refine Z12 ?_|refine Z13 ?_|refine Z14 ?_|refine Z15 ?_|refine Z17 ?_|refine Z18 ?_|refine Z20 ?_|refine Z21 ?_|refine Z22 ?_|refine Z23 ?_|refine Z24 ?_|refine Z26 ?_|refine Z27 ?_|refine Z29 ?_|refine Z30 ?_|refine Z31 ?_|refine Z32 ?_|refine Z39 ?_|refine Z42 ?_|refine Z44 ?_|refine Z45 ?_|refine Z49 ?_|refine Z50 ?_|refine Z51 ?_|refine Z52 ?_|refine Z62 ?_|refine Z63 ?_|refine Z67 ?_|refine Z74 ?_);exact k.h):a:=h ⟨k⟩
set_option maxHeartbeats 4000000 in
theorem Bd(s1 s2:Value)(m d:List Nat)(n:Nat)(hm:Lt 256 m)(hd:Lt 256 d)(hl1:m.length<1073741824)(h1:1≤d.length)(h2:d.length≤255)(hn1:1≤n)(hn:n≤8160):
  Spec Tryz.prog 38 [s1,s2,N .i64 n] (fun w=>Rd w s1 (m.map (N .u8))∧Rd w s2 (d.map (N .u8))) [] (fun v W=>∃x,v = .tuple [x,N .i64 0].toArray∧W=[.sl x ((fk m d n).map (N .u8)) 5]):=by
 refine ad Tryz.func38 rfl rfl rfl fun w hr=>?_
 have hr1:=RdC.mk0 hr.1
 have hr2:=RdC.mk0 hr.2
 have hs1o:=hr.1.one
 have htl:=JJ d
 have htb:=OF hd
 have hhl:=S7 m d n
 have hhb:=Vv n hm hd
 have hfl:=S5 m d n
 have hfb:=Vu m d n
 have hC:∀p q r s:Value,dl [(p,List.replicate 64 0),(q,m),(r,[n/256%256,n%256,0]),(s,tg d)]=xh m d n:=fun p q r s=>by rw[Um,S6]
 have hCb:∀p q r s:Value,Lt 256 (dl [(p,List.replicate 64 0),(q,m),(r,[n/256%256,n%256,0]),(s,tg d)]):=fun p q r s=>by rw[hC];exact hhb
 have hCl:∀p q r s:Value,(dl [(p,List.replicate 64 0),(q,m),(r,[n/256%256,n%256,0]),(s,tg d)]).length<4294967296:=fun p q r s=>by rw[hC,hhl];omega
 have hC3:∀(p q r s:Value)(xs ys zs us:List Nat),[(p,xs),(q,ys),(r,zs),(s,us)].length<4294967296:=fun p q r s xs ys zs us=>by simp
 have hsh:n >>> 8=n/256:=Nat.shiftRight_eq_div_pow n 8
 repeat (first|refine y_5 ?_|refine oB (k:=d.length) (by rfl) (by rfl) (by rfl) (RdW.old hr2) (by rfl) (by rfl) (by simp) (by rfl) ?_|(refine sI (kk:=.u8) (xs:=d) (ys:=[d.length%256]) (by rfl) (by rfl) (RdW.old hr2) (RdW.own fd) (by rfl) (by rfl) (by rfl) (by rfl) (by simp) (by simp;omega) (by simp;omega) (by rfl) fun _=>?_)|rw[← SS]|rw[hsh]|refine cn (vs:=[n/256%256,n%256,0]) (kk:=.u8) (by rfl) (by rfl) (by rfl) (by rfl) (by rfl) (by rfl) (by rfl) (by rfl) fun _=>?_|(refine iz (fun w hw=>(RdW.own (xs:=(List.replicate 64 0).map (N .u8)) fd w hw).one) fun hv1=>?_;refine iz (fun w hw=>(RdW.own (xs:=[n/256%256,n%256,0].map (N .u8)) fd w hw).one) fun hv2=>?_;refine iz (fun w hw=>(RdW.own (xs:=(tg d).map (N .u8)) fd w hw).one) fun hv3=>?_;refine br (E:=23) (vs:=[_,s1,_,_]) (by rfl) (by rfl) (by rfl) (by rfl) (by rfl) (by rfl) (by rfl) (by simp[hv1,hv2,hv3,hs1o]) (by rfl) (by rfl) fun _=>?_)|(refine ah (by rfl) (by rfl) (by rfl) (ug _ [(_,List.replicate 64 0),(s1,m),(_,[n/256%256,n%256,0]),(_,tg d)] (hCb _ _ _ _) (hCl _ _ _ _) (hC3 _ _ _ _ _ _ _ _)) (fun w hw=>⟨RdW.own fd w hw,by intro p hp;simp only[List.mem_cons,List.not_mem_nil,or_false]at hp;rcases hp with rfl | rfl | rfl | rfl;exact RdW.own fd w hw;exact RdW.old hr1 w hw;exact RdW.own fd w hw;exact RdW.own fd w hw⟩) (by rfl) ?_;rw[hC,← S4])|(refine Bg ?_;intro _)|refine zt ?_|refine Z82 fun _=>?_|refine Z83 fun _=>?_|refine Z84 fun _=>?_|refine Z85 fun _=>?_)
 rename_i tv a41 a48 a50 b9 b11
 refine jH 5 ?_
 refine ay (ι:=Nat×Value) (fun q=>q.1≤(n+31)/32) (fun q=>[(0,s1),(1,s2),(2,N .i64 n),(8,tv),(9,pt b9 0),(10,q.2),(11,pt b11 0),(12,N .i64 (q.1+1))])
  (fun q=>[.blk b11 (LV .u8 (Xk m d n q.1)) 120,.sl q.2 ((xk m d n q.1).map (N .u8)) 5,.blk b9 (LV .u8 (xf m d n)) 120,.sl tv ((tg d).map (N .u8)) 5]) (fun q=>(n+31)/32-q.1) (0,.slice none 0 0) (by simp) sbq (by simp only[Xj,TJ];exact sw) ?_
 rintro⟨i,v⟩ hi
 simp only at hi ⊢
 have hol:=JW m d n i
 have hXl:=zE m d n i
 have hXb:=NN m d n i
 have hzl:=Ta hXl hfl
 have hzb:=Vx hXb hfb
 have hal:(xl (Xk m d n i) (xf m d n)).length=(Xk m d n i).length:=by rw[hzl,hXl]
 repeat (first|refine zt ?_|refine Z82 fun _=>?_|refine Z83 fun _=>?_|refine Z84 fun _=>?_|refine Z85 fun _=>?_)
 refine an (by rfl) (fun h=>?_) (fun h=>?_)
 ·rw[hol]at h
  repeat (first|refine zt ?_|refine Z82 fun _=>?_|refine Z83 fun _=>?_|refine Z84 fun _=>?_|refine Z85 fun _=>?_)
  refine ay (ι:=Nat) (fun k=>k≤32) (fun k=>[(0,s1),(1,s2),(2,N .i64 n),(8,tv),(9,pt b9 0),(10,v),(11,pt b11 0),(12,N .i64 (i+1)),(58,N .i64 k)])
   (fun k=>[.blk b11 (LV .u8 (Sha.ju (xl (Xk m d n i) (xf m d n)) (Xk m d n i) k)) 120,.sl v ((xk m d n i).map (N .u8)) 5,.blk b9 (LV .u8 (xf m d n)) 120,.sl tv ((tg d).map (N .u8)) 5]) (fun k=>32-k) 0 (by omega) sbq (by rw[Sha.vl];exact sw) ?_
  intro k hk
  have hml:=Sha.mR hal k
  rw[hXl]at hml
  repeat (first|refine zt ?_|refine Z82 fun _=>?_|refine Z83 fun _=>?_|refine Z84 fun _=>?_|refine Z85 fun _=>?_)
  refine an (by rfl) (fun h=>?_) (fun h=>?_)
  ·have hg:=Sha.tq hal (i:=k) (by omega)
   have hx:=S9 hXl hfl h
   repeat (first|refine zt ?_|refine Z82 fun _=>?_|refine Z83 fun _=>?_|refine Z84 fun _=>?_|refine Z85 fun _=>?_)
   refine au (by rfl) ?_
   repeat (first|(refine Zqf (by intro _ _ _;(first|refine Z01 ?_|refine Z02 ?_|refine Z15 ?_|refine Z17 ?_|refine Z18 ?_|refine Z20 ?_|refine Z21 ?_|refine Z22 ?_|refine Z23 ?_|refine Z39 ?_|refine Z42 ?_|refine Z44 ?_|refine Z45 ?_|refine Z49 ?_|refine Z50 ?_|refine Z62 ?_|refine Z63 ?_|refine Z74 ?_);exact Zq) ?_)|(refine Zqp (by intro _ _ _;(first|refine Tg ?_);exact Zq) ?_)|refine ga ?_|refine Zqn ?_)
   refine Zq0 ?_ (by kernel_rfl)
   repeat (first|refine zt ?_|refine Z82 fun _=>?_|refine Z83 fun _=>?_|refine Z84 fun _=>?_|refine Z85 fun _=>?_)
   rw[hg,Nat.mod_eq_of_lt (hXb.getD (by decide) k),Nat.mod_eq_of_lt (hfb.getD (by decide) k),← hx,Sha.mS hal (by omega)]
   exact ao (k+1) (by omega) (by omega) sbq sw
  ·have hk32:k=32:=by omega
   subst hk32
   have hma:=Sha.mQ hal
   rw[hXl]at hma
   rw[hma]
   have hG:∀p q r:Value,dl [(p,xl (Xk m d n i) (xf m d n)),(q,[(i+1)%256]),(r,tg d)]=xl (Xk m d n i) (xf m d n)++[(i+1)%256]++tg d:=fun p q r=>Ul p q r _ _ _
   have hGb:∀p q r:Value,Lt 256 (dl [(p,xl (Xk m d n i) (xf m d n)),(q,[(i+1)%256]),(r,tg d)]):=fun p q r=>by rw[hG];exact Lt.app (Lt.app hzb (Lt.one (Nat.mod_lt _ (by decide)))) htb
   have hGl:∀p q r:Value,(dl [(p,xl (Xk m d n i) (xf m d n)),(q,[(i+1)%256]),(r,tg d)]).length<4294967296:=fun p q r=>by rw[hG];simp;omega
   have hG3:∀(p q r:Value)(xs ys zs:List Nat),[(p,xs),(q,ys),(r,zs)].length<4294967296:=fun p q r xs ys zs=>by simp
   have hXs:=K3 m d n i
   have hks:=Nz m d n i
   have hXl':=zE m d n (i+1)
   have hcut:List.drop 0 (List.take 32 (Xk m d n (i+1)))=Xk m d n (i+1):=by rw[List.drop_zero,List.take_of_length_le (by omega)]
   repeat (first|rw[hcut]|rw[← hks]|(refine iz (fun w hw=>(RdW.own (xs:=[(i+1)%256].map (N .u8)) fd w hw).one) fun hv1=>?_;refine iz (fun w hw=>(RdW.own (xs:=(tg d).map (N .u8)) fd w hw).one) fun hv2=>?_;refine br (E:=23) (vs:=[fi b11 32 0 32,_,_]) (by rfl) (by rfl) (by rfl) (by rfl) (by rfl) (by rfl) (by rfl) (by simp[hv1,hv2,JA]) (by rfl) (by rfl) fun _=>?_)|(refine ah (by rfl) (by rfl) (by rfl) (ug _ [(fi b11 32 0 32,xl (Xk m d n i) (xf m d n)),(_,[(i+1)%256]),(_,tg d)] (hGb _ _ _) (hGl _ _ _) (hG3 _ _ _ _ _ _)) (fun w hw=>⟨RdW.own fd w hw,by intro p hp;simp only[List.mem_cons,List.not_mem_nil,or_false]at hp;rcases hp with rfl | rfl | rfl;exact RdW.arrAll (m:=32) fd hzl w hw;exact RdW.own fd w hw;exact RdW.own fd w hw⟩) (by rfl) ?_;rw[hG,← hXs])|refine zt ?_|refine Z82 fun _=>?_|refine Z83 fun _=>?_|refine Z84 fun _=>?_|refine Z85 fun _=>?_)
   rename_i v'
   exact ao (i+1,v') (by simp only;omega) (by simp only;omega) sbq sw
 ·rw[hol]at h
  have hie:i=(n+31)/32:=by omega
  subst hie
  repeat (first|(refine oB (k:=n) (by rfl) (by rfl) (by rfl) (RdW.own fd) (by rfl) (by rfl) (by rw[List.length_map,hol];omega) (by rfl) ?_)|refine zt ?_|refine Z82 fun _=>?_|refine Z83 fun _=>?_|refine Z84 fun _=>?_|refine Z85 fun _=>?_)
  refine yG (s:=v) n fd (by rw[List.length_map,hol];omega) ?_
  rw[← List.map_take,← FE]
  exact Ze2 fun _ hw=>aa hw (Wout:=[.sl (cut3 v n) ((fk m d n).map (N .u8)) 5]) (by exact sw) ⟨_,rfl,rfl⟩
end
theorem s6:∀(parts:List (Nat×Value))(i:Nat)(done z:List Value),(∀j p,parts[j]?=some p→p.1=i+j∧p.2.oneCell'=true)→done.length=i→parts.length≤z.length →
  Instr.fill (fun i=>some (i*1,1)) (done++z).toArray parts=some (done++parts.map (·.2)++z.drop parts.length).toArray
 | [],i,done,z,_,_,_=>by simp[Instr.fill]
 | (q,v)::r,i,done,z,hp,hd,hl=>by
  obtain⟨h1,h2⟩:=hp 0 (q,v) rfl
  simp only[Nat.add_zero]at h1 h2
  subst h1
  cases z with
  | nil=>simp at hl
  | cons z0 zr=>
   have hc:=gd h2
   have ih:=s6 r (q+1) (done++[v]) zr (fun j p hj=>by
    have:=hp (j+1) p (by simpa using hj)
    exact⟨by omega,this.2⟩) (by simp[hd]) (by simpa using hl)
   have hset:(done++z0::zr).set q v=done++[v]++zr:=by
    subst hd
    rw[List.set_append_right _ _ (by omega)];simp
   simp only[Instr.fill,Nat.mul_one,hc]
   rw[if_neg (by simp;omega)]
   have hzi:(#[v].zipIdx) = #[(v,0)]:=by simp
   simp only[hzi]
   simp only[List.size_toArray,List.length_cons,List.length_nil,List.foldl_toArray',List.foldl_cons,List.foldl_nil,Nat.add_zero,List.setIfInBounds_toArray,hset]
   simp only[Nat.mul_one]at ih
   simpa using ih
section
variable {P:Program} {c:Cx} {n:Nn} {l:Sl} {W:List Res} {ops:Array Oper} {Q:Exit→Act→World→Prop} {rest:List Oper}
variable {d:Nat} {T:TypeId} {pos:String} {after:Array Edge}
theorem bn{t E:TypeId}{m:Nat}{ps:List (Nat×Operand)}{kk:IntKind}{vs:List Nat}(ht:P.underlying t=some (.array m E))(hz:cE P t=some (LV kk (List.replicate m 0)))(hs:az P E=some 1)
  (hq:Seq 0 ps=true) (hl:ps.length=vs.length) (hm:Nat.ble vs.length m=true) (hv:evs l (ps.map (·.2))=some (vs.map (N kk))) (hn:Nat.blt d n.sz=true)
  (hk:Go c n ((d,LV kk (vs++List.replicate (m-vs.length) 0))::l) W (wpList P ops Q rest)):
  Go c n l W (wpList P ops Q (⟨some d,.build t ps.toArray,T,pos,after,none⟩::rest)):=
 ax rfl rfl hn (fun a w ha hw=>by
   have hm':=Nat.le_of_ble_eq_true hm
   obtain⟨g1,g2⟩:=m9 ha hq hv (by simp[Value.oneCell'])
   have hfill:=s6 (ps.map fun(i,x)=>(i,a.eval x)) 0 [] ((List.replicate m 0).map (N kk)) (fun j p hj=>by have:=g2 j p hj;exact⟨by omega,this.2⟩) rfl (by simp;omega)
   rw[g1]at hfill
   simp only[List.nil_append,Nat.mul_one,List.length_map,hl]at hfill
   have e:(vs.map (N kk)++List.drop vs.length ((List.replicate m 0).map (N kk))).toArray=((vs++List.replicate (m-vs.length) 0).map (N kk)).toArray:=by
    rw[← List.map_drop,List.drop_replicate,List.map_append]
   rw[e]at hfill
   simp only[execOp,Instr.build,Sem.run_bind,run_underlying ht,cj hz,ar hs,Result.andThen_ok,List.map_toArray,Value.cells,LV,Nat.mul_one,hfill]
   rfl) hk
theorem aJ{fn:Func}{R:Ending→World→Prop}{t u:Tmp}{b m:Nat}{T U:TypeId}{k:IntKind}{ys:List Nat}{v:Value}{R0:List Res}
  (hres:fn.results = #[.cell t T,.tmp u]) (hv:lk l t=some (pt b 0)) (hu:lk l u=some v) (hf:Find W (.blk b (LV k ys) U) R0) (hs:cM P T=true) (hz:az P T=some m) (hl:ys.length=m)
  (hR:∀w,SatW c W w→R (.returned (.tuple #[LV k ys,v])) w) (hD:n.df=[]:=by rfl):Go c n l W (bodyPost P fn R .ret):=
 yu hres hv hu hf hs (by subst hl;simpa using hz) hR hD
end
end Go.Proofs.YtndhfbecpghinaaGreat.L
namespace Go.Proofs.YtndhfbecpghinaaGreat.Num
theorem jZ{P xs:List Nat}{i:Nat}(h:P.length=i):(P++xs.drop i).getD i 0=xs.getD i 0:=by
 rw[List.getD_eq_getElem?_getD,List.getElem?_append_right (by omega),h,Nat.sub_self,List.getElem?_drop,Nat.add_zero,← List.getD_eq_getElem?_getD]
theorem DV{P xs:List Nat}{i:Nat}(h:P.length=i):(P++xs.drop i).getD (i+1) 0=xs.getD (i+1) 0:=by
 rw[List.getD_eq_getElem?_getD,List.getElem?_append_right (by omega),h,show i+1-i=1 by omega,List.getElem?_drop,← List.getD_eq_getElem?_getD]
theorem mg{m X:Nat}(h:X<W^m)(i:Nat):(D m X).getD i 0=X/W^i%W:=by rw[cP (dw _ _),eU h]
theorem qp{P xs:List Nat}{i:Nat}(h:P.length=i)(hi:i<xs.length)(y:Nat):(P++xs.drop i).set i y=P++[y]++xs.drop (i+1):=by
 rw[List.set_append_right _ _ (by omega),h,Nat.sub_self,List.drop_eq_getElem_cons hi,List.set_cons_zero,List.append_assoc];rfl
theorem kG(g:Nat→Nat→Nat→Nat×Nat)(xs ys:List Nat)(i:Nat)(h:i<xs.length):
  ((cp g xs ys i).1++xs.drop i).set i (g (xs.getD i 0) (ys.getD i 0) (cp g xs ys i).2).1=(cp g xs ys (i+1)).1++xs.drop (i+1):=by
 rw[qp (gP g xs ys i) h,← mA]
theorem Ge(g:Nat→Nat→Nat→Nat×Nat)(xs ys:List Nat)(i n:Nat)(h:i<n):
  ((cp g xs ys i).1++List.replicate (n-i) 0).set i (g (xs.getD i 0) (ys.getD i 0) (cp g xs ys i).2).1=(cp g xs ys (i+1)).1++List.replicate (n-(i+1)) 0:=by
 rw[Gf g xs ys i n h,← mA]
theorem rZ(x y c:Nat):(gk x y c).1=(x+18446744073709551616-y-c)%18446744073709551616:=rfl
theorem r4(x y c:Nat):(gk x y c).2=if x<y+c then 1 else 0:=rfl
theorem wE(x y c:Nat):(iR x y c).1=(x+y+c)%18446744073709551616:=rfl
theorem wF(x y c:Nat):(iR x y c).2=(x+y+c)/18446744073709551616:=rfl
theorem FO{k A B:Nat}(h:B≤A):D k (sbn k A B)=D k (A-B):=by
 rw[sbn,show A+W^k-B=A-B+W^k by omega,← mh,Nat.add_mod_right,mh]
theorem nQ{k A B:Nat}(hA:A<W^k)(hB:B<W^k):cp gk (D k A) (D k B) k=(D k (sbn k A B),bwn A B):=by
 have h:=uH (dw k A) (dw k B) (n:=k) (by rw[ae];exact Nat.le_refl _) (by rw[ae];exact Nat.le_refl _)
 rw[eU hA,eU hB]at h;exact h
theorem sU{k A B:Nat}(hA:A<W^k)(hB:B<W^k):cp iR (D k A) (D k B) k=(D k (A+B),(A+B)/W^k):=by
 have h:=uG (dw k A) (dw k B) (n:=k) (by rw[ae];exact Nat.le_refl _) (by rw[ae];exact Nat.le_refl _)
 rw[eU hA,eU hB]at h;exact h
theorem jo(k A B i:Nat):(cp gk (D k A) (D k B) i).2≤1:=BC Nk (dw _ _) (dw _ _) i
theorem mz(k A B i:Nat):(cp iR (D k A) (D k B) i).2≤1:=BC K6 (dw _ _) (dw _ _) i
def i5(k m A c:Nat):Nat:=if A+c*W^k<m then A else A+c*W^k-m
theorem HR{k m A c:Nat}(hm:m<W^k)(hc:c≤1):(if bwn A m>c then D k A else D k (sbn k A m))=D k (i5 k m A c):=by
 have h01:c=0∨c=1:=by omega
 unfold i5 bwn
 rcases h01 with rfl | rfl
 ·by_cases h:A<m
  ·rw[if_pos h,if_pos (by decide),if_pos (by omega)]
  ·rw[if_neg h,if_neg (by decide),if_neg (by omega),Nat.zero_mul,Nat.add_zero,FO (by omega)]
 ·rw[if_neg (show ¬A+1*W^k<m by omega)]
  rw[if_neg (by split <;> omega),Nat.one_mul,sbn]
theorem Eh{k m S:Nat}(h:S<2*m)(hm:m<W^k):i5 k m (S%W^k) (S/W^k)=S%m:=by
 unfold i5
 rw[Nat.mul_comm,Nat.mod_add_div]
 by_cases hs:S<m
 ·rw[if_pos hs,Nat.mod_eq_of_lt hs,Nat.mod_eq_of_lt (by omega)]
 ·rw[if_neg hs,Nat.mod_eq_sub_mod (by omega),Nat.mod_eq_of_lt (a:=S-m) (by omega)]
end Go.Proofs.YtndhfbecpghinaaGreat.Num
namespace Go.Proofs.YtndhfbecpghinaaGreat.L.Pr
def aU(p:Nat):Prop:=1<p∧∀d,d∣p→d=1∨d=p
theorem aU.pos{p:Nat}(h:aU p):0<p:=Nat.lt_trans Nat.zero_lt_one h.1
theorem aU.cop{p a:Nat}(hp:aU p)(h:¬p∣a):Nat.Coprime p a:=by
 rcases hp.2 _ (Nat.gcd_dvd_left p a)with h1 | h1
 ·exact h1
 ·exact absurd (h1 ▸ Nat.gcd_dvd_right p a) h
theorem aU.dvd_mul{p a b:Nat}(hp:aU p)(h:p∣a*b):p∣a∨p∣b:=by
 by_cases ha:p∣a
 ·exact .inl ha
 ·exact .inr ((hp.cop ha).dvd_of_dvd_mul_left h)
theorem aU.dvd_pow{p a:Nat}(hp:aU p):∀{k:Nat},p∣a^k→p∣a
 | 0,h=>by
  rw[Nat.pow_zero]at h
  have:=Nat.le_of_dvd (by decide) h
  have:=hp.1
  omega
 | k+1,h=>by
  rw[Nat.pow_succ]at h
  rcases hp.dvd_mul h with h1 | h1
  ·exact hp.dvd_pow h1
  ·exact h1
theorem n9:∀{n:Nat},1<n→∃p,aU p∧p∣n:=by
 intro n
 induction n using Nat.strongRecOn with
 | ind n ih=>
  intro h
  by_cases hp:aU n
  ·exact⟨n,hp,Nat.dvd_refl n⟩
  ·have:∃d,d∣n∧d≠1∧d≠n:=by
    apply Classical.byContradiction
    intro hc
    refine hp ⟨h,fun d hd=>?_⟩
    apply Classical.byContradiction
    intro hd2
    exact hc ⟨d,hd,fun e=>hd2 (.inl e),fun e=>hd2 (.inr e)⟩
   obtain⟨d,hd,h1,h2⟩:=this
   have h3:=Nat.le_of_dvd (by omega) hd
   have h4:=Nat.pos_of_dvd_of_pos hd (by omega)
   obtain⟨p,hp1,hp2⟩:=ih d (by omega) (by omega)
   exact⟨p,hp1,Nat.dvd_trans hp2 hd⟩
theorem oZ{n:Nat}(h:1<n)(hn:¬aU n):∃p,aU p∧p∣n∧p*p≤n:=by
 have:∃d,d∣n∧d≠1∧d≠n:=by
  apply Classical.byContradiction
  intro hc
  refine hn ⟨h,fun d hd=>?_⟩
  apply Classical.byContradiction
  intro hd2
  exact hc ⟨d,hd,fun e=>hd2 (.inl e),fun e=>hd2 (.inr e)⟩
 obtain⟨d,⟨e,he⟩,h1,h2⟩:=this
 have hd0:d≠0:=by rintro rfl;omega
 have he0:e≠0:=by rintro rfl;omega
 have he1:e≠1:=by rintro rfl;omega
 rcases Nat.le_total d e with hle | hle
 ·obtain⟨p,hp,hpd⟩:=n9 (n:=d) (by omega)
  have:=Nat.le_of_dvd (by omega) hpd
  exact⟨p,hp,he ▸ Nat.dvd_trans hpd (Nat.dvd_mul_right d e),he ▸ Nat.mul_le_mul this (Nat.le_trans this hle)⟩
 ·obtain⟨p,hp,hpd⟩:=n9 (n:=e) (by omega)
  have:=Nat.le_of_dvd (by omega) hpd
  exact⟨p,hp,he ▸ Nat.dvd_trans hpd (Nat.dvd_mul_left e d),he ▸ Nat.mul_le_mul (Nat.le_trans this hle) this⟩
def lst(g:Nat→Nat):Nat→List Nat
 | 0=>[]
 | n+1=>g n::lst g n
def ol:List Nat→Nat
 | []=>1
 | x::r=>x*ol r
theorem pJ{g:Nat→Nat}{y:Nat}:∀{n:Nat},y∈lst g n↔∃i,i<n∧y=g i
 | 0=>by simp[lst]
 | n+1=>by
  rw[lst,List.mem_cons,pJ]
  constructor
  ·rintro(h | ⟨i,hi,h⟩)
   ·exact⟨n,by omega,h⟩
   ·exact⟨i,by omega,h⟩
  ·rintro⟨i,hi,h⟩
   by_cases hc:i=n
   ·subst hc;exact .inl h
   ·exact .inr ⟨i,by omega,h⟩
theorem vb{g:Nat→Nat}:∀{n:Nat},(lst g n).length=n
 | 0=>rfl
 | n+1=>by rw[lst,List.length_cons,vb]
theorem tA{g:Nat→Nat}:∀{n:Nat},(∀i j,i<j→j<n→g j≠g i)→(lst g n).Nodup
 | 0,_=>List.nodup_nil
 | n+1,h=>by
  rw[lst,List.nodup_cons]
  refine⟨fun hm=>?_,tA fun i j h1 h2=>h i j h1 (by omega)⟩
  obtain⟨i,hi,he⟩:=pJ.1 hm
  exact h i n hi (by omega) he
theorem EK{l m:List Nat}(h:l.Perm m):ol l=ol m:=by
 induction h with
 | nil=>rfl
 | cons x _ ih=>simp only[ol,ih]
 | swap x y l=>simp only[ol,Nat.mul_left_comm]
 | trans _ _ h1 h2=>exact h1.trans h2
theorem oV:∀{l m:List Nat},l.Nodup→(∀x∈l,x∈m)→m.length≤l.length→l.Perm m
 | [],m,_,_,hl=>by
  cases m with
  | nil=>exact .nil
  | cons x r=>simp at hl
 | x::l,m,hn,hs,hl=>by
  have hx:=hs x (List.mem_cons_self ..)
  have hn:=List.nodup_cons.1 hn
  have hp:=List.perm_cons_erase hx
  refine List.Perm.trans (List.Perm.cons x (oV hn.2 (fun y hy=>?_) ?_)) hp.symm
  ·have hne:y≠x:=by rintro rfl;exact hn.1 hy
   exact(List.mem_erase_of_ne hne).2 (hs y (List.mem_cons_of_mem _ hy))
  ·have:=hp.length_eq
   simp only[List.length_cons]at this hl
   omega
theorem ni(a p:Nat):∀n,ol (lst (fun i=>a*(i+1)%p) n)%p=a^n*ol (lst (fun i=>i+1) n)%p
 | 0=>by simp[lst,ol]
 | n+1=>by
  rw[lst,ol,lst,ol,Nat.mul_mod,ni a p n,Nat.mod_mod,← Nat.mul_mod]
  congr 1
  rw[Nat.pow_succ]
  simp only[Nat.mul_assoc,Nat.mul_left_comm,Nat.mul_comm]
theorem xY{p:Nat}(hp:aU p):∀n,n<p→¬p∣ol (lst (fun i=>i+1) n)
 | 0,_,h=>by
  rw[lst,ol]at h
  have:=Nat.le_of_dvd (by decide) h
  have:=hp.1
  omega
 | n+1,hn,h=>by
  rw[lst,ol]at h
  rcases hp.dvd_mul h with h1 | h1
  ·have:=Nat.le_of_dvd (by omega) h1
   omega
  ·exact xY hp n (by omega) h1
theorem zT{p a b q:Nat}(hp:aU p)(hq:¬p∣q)(hab:b≤a)(h:a*q%p=b*q%p):a%p=b%p:=by
 have h1:=Nat.sub_mod_eq_zero_of_mod_eq h
 rw[← Nat.sub_mul]at h1
 rcases hp.dvd_mul (Nat.dvd_of_mod_eq_zero h1)with h2 | h2
 ·obtain⟨c,hc⟩:=h2
  rw[show a=b+p*c by omega,Nat.add_mul_mod_self_left]
 ·exact absurd h2 hq
theorem z9{p a:Nat}(hp:aU p)(ha:¬p∣a):a^(p-1)%p=1:=by
 have hp1:=hp.1
 have ha0:0<a:=by
  rcases Nat.eq_zero_or_pos a with h | h
  ·subst h;exact absurd (Nat.dvd_zero p) ha
  ·exact h
 have hperm:(lst (fun i=>a*(i+1)%p) (p-1)).Perm (lst (fun i=>i+1) (p-1)):=by
  refine oV (tA fun i j hij hj he=>?_) (fun x hx=>?_) (by rw[vb,vb];exact Nat.le_refl _)
  ·have h1:=Nat.sub_mod_eq_zero_of_mod_eq he
   rw[← Nat.mul_sub]at h1
   rcases hp.dvd_mul (Nat.dvd_of_mod_eq_zero h1)with h2 | h2
   ·exact ha h2
   ·have:=Nat.le_of_dvd (by omega) h2
    omega
  ·obtain⟨i,hi,rfl⟩:=pJ.1 hx
   have hlt:a*(i+1)%p<p:=Nat.mod_lt _ hp.pos
   have hne:a*(i+1)%p≠0:=by
    intro h0
    rcases hp.dvd_mul (Nat.dvd_of_mod_eq_zero h0)with h2 | h2
    ·exact ha h2
    ·have:=Nat.le_of_dvd (by omega) h2
     omega
   exact pJ.2 ⟨a*(i+1)%p-1,by omega,by omega⟩
 have h1:=ni a p (p-1)
 rw[EK hperm]at h1
 have h2:=zT hp (xY hp (p-1) (by omega)) (Nat.pow_pos ha0:1≤a^(p-1)) (by rw[Nat.one_mul];exact h1.symm)
 rw[h2,Nat.mod_eq_of_lt hp1]
theorem oW{b k P:Nat}(hP:1<P)(h:b%P=1):b^k%P=1:=by
 rw[Nat.pow_mod,h,Nat.one_pow,Nat.mod_eq_of_lt hP]
theorem Ey{b P:Nat}(hP:1<P):∀m k,b^m%P=1→b^k%P=1→b^Nat.gcd m k%P=1:=by
 intro m k
 induction m,k using Nat.gcd.induction with
 | H0 k=>intro _ h;rw[Nat.gcd_zero_left];exact h
 | H1 m k hm ih=>
  intro h1 h2
  rw[Nat.gcd_rec]
  refine ih ?_ h1
  have h3:b^k=(b^m)^(k/m)*b^(k%m):=by rw[← Nat.pow_mul,← Nat.pow_add,Nat.div_add_mod]
  rw[h3,Nat.mul_mod,oW hP h1,Nat.one_mul,Nat.mod_mod]at h2
  exact h2
theorem zZ{q g e:Nat}(hq:aU q)(h:g∣q^(e+1)):g=q^(e+1)∨g∣q^e:=by
 obtain⟨c,hc⟩:=h
 by_cases h1:c=1
 ·subst h1;rw[Nat.mul_one]at hc;exact .inl hc.symm
 ·right
  have hc0:c≠0:=by
   rintro rfl
   have:=Nat.pow_pos (n:=e+1) hq.pos
   omega
  obtain⟨s,hs,hsc⟩:=n9 (n:=c) (by omega)
  have hsq:s∣q:=hs.dvd_pow (k:=e+1) (hc ▸ Nat.dvd_trans hsc (Nat.dvd_mul_left c g))
  have hse:s=q:=by
   rcases hq.2 s hsq with h2 | h2
   ·have:=hs.1;omega
   ·exact h2
  subst hse
  obtain⟨c',hc'⟩:=hsc
  refine⟨c',?_⟩
  rw[hc',Nat.pow_succ,Nat.mul_left_comm,Nat.mul_comm]at hc
  exact Nat.eq_of_mul_eq_mul_left hs.pos hc
theorem UX{n P q e a:Nat}(hP:aU P)(hPn:P∣n)(hn:1<n)(hq:aU q)(hd:(n-1)%q^(e+1)=0)(h1:a^(n-1)%n=1)
  (h2:Nat.gcd (a^((n-1)/q)%n+(n-1)) n=1):q^(e+1)∣P-1:=by
 obtain⟨m,hm⟩:=Nat.dvd_of_mod_eq_zero hd
 have hmod:∀x,x%n=1→x%P=1:=by
  intro x hx
  rw[← Nat.mod_mod_of_dvd x hPn,hx,Nat.mod_eq_of_lt hP.1]
 have hb1:(a^m)^(q^(e+1))%P=1:=by
  rw[← Nat.pow_mul,Nat.mul_comm,← hm];exact hmod _ h1
 have haP:¬P∣a^m:=by
  intro hc
  have:(a^m)^(q^(e+1))%P=0:=by
   rw[Nat.pow_mod,Nat.mod_eq_zero_of_dvd hc,Nat.zero_pow (Nat.pow_pos hq.pos),Nat.zero_mod]
  omega
 have hg:=Ey hP.1 _ _ hb1 (z9 hP haP)
 rcases zZ hq (Nat.gcd_dvd_left (q^(e+1)) (P-1))with h3 | ⟨c,h3⟩
 ·rw[← h3];exact Nat.gcd_dvd_right _ _
 ·exfalso
  have h4:a^((n-1)/q)%P=1:=by
   have:(n-1)/q=m*q^e:=by
    rw[hm,Nat.pow_succ,Nat.mul_comm (q^e) q,Nat.mul_assoc,Nat.mul_div_cancel_left _ hq.pos,Nat.mul_comm]
   rw[this,Nat.pow_mul,h3,Nat.pow_mul]
   exact oW hP.1 hg
  have h5:P∣a^((n-1)/q)%n+(n-1):=by
   have h6:a^((n-1)/q)%n%P=1:=by rw[Nat.mod_mod_of_dvd _ hPn];exact h4
   obtain⟨c,hc⟩:=hPn
   have h7:(a^((n-1)/q)%n+(n-1)+1)%P=1%P:=by
    rw[show a^((n-1)/q)%n+(n-1)+1=a^((n-1)/q)%n+P*c by omega,Nat.add_mul_mod_self_left,h6,Nat.mod_eq_of_lt hP.1]
   exact Nat.dvd_of_mod_eq_zero (Nat.add_right_cancel_iff.1 (rfl:0+1=0+1) ▸ (by
    have h8:=Nat.sub_mod_eq_zero_of_mod_eq h7
    rwa [Nat.add_sub_cancel]at h8))
  have h8:=Nat.dvd_gcd h5 hPn
  rw[h2]at h8
  have:=Nat.le_of_dvd (by decide) h8
  have:=hP.1
  omega
def pm(n:Nat):Nat→Nat→Nat→Nat
 | 0,_,_=>1%n
 | f+1,b,e=>cond (Nat.beq (e%2) 1) (b*pm n f (b*b%n) (e/2)%n) (pm n f (b*b%n) (e/2))
theorem tH(n:Nat):∀(f b e:Nat),e<2^f→pm n f b e=b^e%n
 | 0,b,e,h=>by
  have:e=0:=by simpa using h
  subst this;rw[pm,Nat.pow_zero]
 | f+1,b,e,h=>by
  have ih:=tH n f (b*b%n) (e/2) (by rw[Nat.pow_succ]at h;omega)
  have hs:(b*b%n)^(e/2)%n=b^(2*(e/2))%n:=by
   rw[← Nat.pow_mod,← Nat.pow_two,← Nat.pow_mul]
  rw[pm,ih,hs]
  rcases Nat.mod_two_eq_zero_or_one e with h2 | h2
  ·rw[h2]
   show b^(2*(e/2))%n=_
   rw[show 2*(e/2)=e by omega]
  ·rw[h2]
   show b*(b^(2*(e/2))%n)%n=_
   rw[Nat.mul_mod,Nat.mod_mod,← Nat.mul_mod,← Nat.pow_succ',show(2*(e/2)).succ=e by omega]
def pkF:List (Nat×Nat×Nat)→Nat
 | []=>1
 | (q,e,_)::r=>q^(e+1)*pkF r
def Mi(n f:Nat):List (Nat×Nat×Nat)→Bool
 | []=>true
 | (q,e,a)::r=>Nat.beq ((n-1)%q^(e+1)) 0&&(Nat.beq (pm n f a (n-1)) 1&&(Nat.beq (Nat.gcd (pm n f a ((n-1)/q)+(n-1)) n) 1&&(Nat.beq (Nat.gcd (q^(e+1)) (pkF r)) 1&&Mi n f r)))
theorem xW{n f P:Nat}(hP:aU P)(hPn:P∣n)(hn:1<n)(hf:n<2^f):∀{l:List (Nat×Nat×Nat)},(∀x∈l,aU x.1)→Mi n f l=true→pkF l∣P-1
 | [],_,_=>Nat.one_dvd _
 | (q,e,a)::r,hl,h=>by
  simp only[Mi,Bool.and_eq_true,Nat.beq_eq]at h
  obtain⟨h1,h2,h3,h4,h5⟩:=h
  have hq:=hl _ (List.mem_cons_self ..)
  rw[tH n f a _ (by omega)]at h2
  rw[tH n f a _ (Nat.lt_of_le_of_lt (Nat.div_le_self _ _) (by omega))]at h3
  exact Nat.Coprime.mul_dvd_of_dvd_of_dvd h4 (UX hP hPn hn hq h1 h2 h3) (xW hP hPn hn hf (fun x hx=>hl x (List.mem_cons_of_mem _ hx)) h5)
theorem lS{n f:Nat}(l:List (Nat×Nat×Nat))(hl:∀x∈l,aU x.1)
  (h:(Nat.blt 1 n&&(Nat.blt n (2^f)&&(Nat.blt n ((pkF l+1)*(pkF l+1))&&Mi n f l)))=true):aU n:=by
 simp only[Bool.and_eq_true,Nat.blt_eq]at h
 obtain⟨h1,h2,h3,h4⟩:=h
 apply Classical.byContradiction
 intro hn
 obtain⟨P,hP,hPn,hPP⟩:=oZ h1 hn
 have hd:=xW hP hPn h1 h2 hl h4
 have:=Nat.le_of_dvd (by have:=hP.1;omega) hd
 have hP1:=hP.1
 have hle:pkF l+1≤P:=by omega
 exact Nat.lt_irrefl _ (Nat.lt_of_lt_of_le h3 (Nat.le_trans (Nat.mul_le_mul hle hle) hPP))
def tx(n:Nat):Nat→Nat→Bool
 | lo,0=>!Nat.beq (n%lo) 0
 | lo,k+1=>tx n lo k&&tx n (lo+2^k) k
theorem lO{n:Nat}:∀{k lo d:Nat},tx n lo k=true→lo≤d→d<lo+2^k→n%d≠0
 | 0,lo,d,h,h1,h2=>by
  have:d=lo:=by simp at h2;omega
  subst this
  intro h0
  rw[tx,h0]at h
  exact absurd h (by decide)
 | k+1,lo,d,h,h1,h2=>by
  simp only[tx,Bool.and_eq_true]at h
  rw[Nat.pow_succ]at h2
  rcases Nat.lt_or_ge d (lo+2^k)with h3 | h3
  ·exact lO h.1 h1 h3
  ·exact lO h.2 h3 (by omega)
theorem jO{n:Nat}(k:Nat)(h:(Nat.blt 1 n&&(Nat.blt n ((2+2^k)*(2+2^k))&&tx n 2 k))=true):aU n:=by
 simp only[Bool.and_eq_true,Nat.blt_eq]at h
 obtain⟨h1,h2,h3⟩:=h
 apply Classical.byContradiction
 intro hn
 obtain⟨P,hP,hPn,hPP⟩:=oZ h1 hn
 have hlt:P<2+2^k:=by
  apply Classical.byContradiction
  intro hc
  have:=Nat.mul_le_mul (Nat.le_of_not_lt hc) (Nat.le_of_not_lt hc)
  omega
 exact lO h3 hP.1 hlt (Nat.mod_eq_zero_of_dvd hPn)
end Go.Proofs.YtndhfbecpghinaaGreat.L.Pr
namespace Go.Proofs.YtndhfbecpghinaaGreat.L.Pr
set_option maxRecDepth 100000
theorem Mv:aU 2:=⟨by decide,fun d hd=>by
 have h1:=Nat.le_of_dvd (by decide) hd
 have h2:d≠0:=by rintro rfl;exact absurd (Nat.eq_zero_of_zero_dvd hd) (by decide)
 omega⟩
theorem vH:aU 421987:=jO 10 (by decide +kernel)
theorem IP:aU 13090036741:=lS (f:=34) [(421987,0,2)] (by
 intro x hx
 simp only[List.mem_cons,List.not_mem_nil,or_false]at hx
 rcases hx with rfl
 ·exact vH) (by decide +kernel)
theorem vI:aU 755057:=jO 10 (by decide +kernel)
theorem IN:aU 3819663927398918131021:=lS (f:=72) [(13090036741,0,2),(755057,0,2)] (by
 intro x hx
 simp only[List.mem_cons,List.not_mem_nil,or_false]at hx
 rcases hx with rfl | rfl
 ·exact IP
 ·exact vI) (by decide +kernel)
theorem IM:aU 1125266252156850182658904441386709967:=lS (f:=120) [(3819663927398918131021,0,2)] (by
 intro x hx
 simp only[List.mem_cons,List.not_mem_nil,or_false]at hx
 rcases hx with rfl
 ·exact IN) (by decide +kernel)
theorem IL:aU 15778400344354997994418419698270088123916926905054652752758194827714659:=lS (f:=234) [(1125266252156850182658904441386709967,0,2)] (by
 intro x hx
 simp only[List.mem_cons,List.not_mem_nil,or_false]at hx
 rcases hx with rfl
 ·exact IM) (by decide +kernel)
theorem Mx:aU 4002409555221667393417789825735904156556882819939007885332058136124031650490837864442687629129015664037894272559787:=lS (f:=381) [(15778400344354997994418419698270088123916926905054652752758194827714659,0,2)] (by
 intro x hx
 simp only[List.mem_cons,List.not_mem_nil,or_false]at hx
 rcases hx with rfl
 ·exact IL) (by decide +kernel)
theorem px:aU 254760293:=jO 14 (by decide +kernel)
theorem ry:aU 52437899:=jO 13 (by decide +kernel)
theorem sF:aU 2529403:=jO 11 (by decide +kernel)
theorem pQ:aU 52435875175126190479447740508185965837690552500527637822603658699938581184513:=lS (f:=255) [(2,31,5),(254760293,1,2),(52437899,0,2),(2529403,0,2)] (by
 intro x hx
 simp only[List.mem_cons,List.not_mem_nil,or_false]at hx
 rcases hx with rfl | rfl | rfl | rfl
 ·exact Mv
 ·exact px
 ·exact ry
 ·exact sF) (by decide +kernel)
end Go.Proofs.YtndhfbecpghinaaGreat.L.Pr
namespace Go.Proofs.YtndhfbecpghinaaGreat.L
open Go Go.Proofs
set_option maxRecDepth 100000
section
attribute [local irreducible] Code.wp wpList Af bodyPost L.Go
open Num
attribute [local simp] ae
def p:Nat:=4002409555221667393417789825735904156556882819939007885332058136124031650490837864442687629129015664037894272559787
theorem fe:Pr.aU p:=Pr.Mx
theorem bY:0<p:=by decide +kernel
theorem lQ:p<W^6:=by decide +kernel
theorem Ot:4*p<W^6:=by decide +kernel
theorem US:([13402431016077863595,2210141511517208575,7435674573564081700,7239337960414712511,5412103778470702295,1873798617647539866]:List Nat)=D 6 p:=by decide +kernel
attribute [irreducible] p
theorem oO(a:Nat):a%p<W^6:=Nat.lt_trans (Nat.mod_lt _ bY) lQ
theorem wv{a b:Nat}(ha:a<W^6)(hb:b<W^6):(D 6 a=D 6 b)=(a=b):=by
 refine propext ⟨fun h=>?_,fun h=>by rw[h]⟩
 have:=Bp h
 rwa [Nat.mod_eq_of_lt ha,Nat.mod_eq_of_lt hb]at this
theorem cJ{a b:Prop}(k:b)(h:Rm b→a:=by intro k;refine aq (v:=LV .u64 (List.replicate 6 0)) (by rfl) (by rfl) ?_;exact k.h):a:=h ⟨k⟩
theorem Md:Spec Tryz.prog 79 [] ai [] (IsV (LV .u64 (D 6 p))):=by
 refine ad Tryz.func79 rfl rfl rfl fun w _=>?_
 repeat (first|(refine cJ ?_;intro _)|refine bn (kk:=.u64) (vs:=[13402431016077863595,2210141511517208575,7435674573564081700,7239337960414712511,5412103778470702295,1873798617647539866]) (by rfl) (by rfl) (by rfl) (by rfl) (by rfl) (by rfl) (by rfl) (by rfl) ?_|refine Z03 ?_|refine Z04 ?_|refine Z05 ?_|refine Z06 ?_|refine Z07 ?_|refine Z08 ?_|refine Z09 ?_|refine Z10 ?_|refine Z11 ?_|refine Z12 ?_|refine Z13 ?_|refine Z14 ?_|refine Z29 ?_|refine Z30 ?_|refine Z31 ?_|refine Z32 ?_|refine Z82 fun _=>?_)
 refine Zec fun _ hw=>aa hw SubW.nil ⟨?_,rfl⟩
 rw[← US];rfl
theorem KM{a b:Prop}(k:b)(h:Rm b→a:=by intro k;refine ah (by rfl) (by rfl) (by rfl) (Md) (fun _ _=>trivial) (by rfl) ?_;exact k.h):a:=h ⟨k⟩
theorem KP{a b:Prop}(k:b)(h:Rm b→a:=by intro k;(first|refine Z01 ?_|refine Z02 ?_|refine Z15 ?_|refine Z17 ?_|refine Z18 ?_|refine Z19 ?_|refine Z22 ?_|refine Z23 ?_);exact k.h):a:=h ⟨k⟩
theorem Ti{a b:Prop}(k:b)(h:Rm b→a:=by intro k;(first|refine Z24 ?_|refine Z26 ?_|refine Z27 ?_|refine Z67 ?_|refine Z23 ?_);exact k.h):a:=h ⟨k⟩
theorem sy{a b:Prop}(k:b)(h:Rm b→a:=by intro k;(first|refine Z01 ?_|refine Z02 ?_|refine Z03 ?_|refine Z04 ?_|refine Z05 ?_|refine Z06 ?_|refine Z07 ?_|refine Z08 ?_|refine Z09 ?_|refine Z10 ?_|refine Z11 ?_|refine Z12 ?_|refine Z13 ?_|refine Z14 ?_|refine Z15 ?_|refine Z17 ?_|refine Z18 ?_|refine Z19 ?_|refine Z22 ?_|refine Z23 ?_|refine Z24 ?_|refine Z26 ?_|refine Z27 ?_|refine Z29 ?_|refine Z30 ?_|refine Z31 ?_|refine Z32 ?_|refine Z67 ?_);exact k.h):a:=h ⟨k⟩
theorem Pi{a b:Prop}(k:b)(h:Rm b→a:=by intro k;(first|refine KM ?_|refine Z01 ?_|refine Z02 ?_|refine Z03 ?_|refine Z04 ?_|refine Z05 ?_|refine Z06 ?_|refine Z07 ?_|refine Z08 ?_|refine Z09 ?_|refine Z10 ?_|refine Z11 ?_|refine Z12 ?_|refine Z13 ?_|refine Z14 ?_|refine Z15 ?_|refine Z17 ?_|refine Z18 ?_|refine Z19 ?_|refine Z22 ?_|refine Z23 ?_|refine Z24 ?_|refine Z26 ?_|refine Z27 ?_|refine Z29 ?_|refine Z30 ?_|refine Z31 ?_|refine Z32 ?_|refine Z67 ?_);exact k.h):a:=h ⟨k⟩
theorem Dp{a b:Prop}(k:b)(h:Rm b→a:=by intro k;(first|refine y_8 ?_|refine Z01 ?_|refine Z02 ?_|refine Z03 ?_|refine Z04 ?_|refine Z05 ?_|refine Z06 ?_|refine Z07 ?_|refine Z08 ?_|refine Z09 ?_|refine Z10 ?_|refine Z11 ?_|refine Z12 ?_|refine Z13 ?_|refine Z14 ?_|refine Z15 ?_|refine Z17 ?_|refine Z18 ?_|refine Z19 ?_|refine Z22 ?_|refine Z23 ?_|refine Z24 ?_|refine Z26 ?_|refine Z27 ?_|refine Z29 ?_|refine Z30 ?_|refine Z31 ?_|refine Z32 ?_|refine Z67 ?_);exact k.h):a:=h ⟨k⟩
theorem Kq{a b:Prop}(k:b)(h:Rm b→a:=by intro k;refine Zqp (by intro _ _ _;(first|refine Ti ?_);exact Zq) ?_;exact k.h):a:=h ⟨k⟩
theorem Pj{a b:Prop}(k:b)(h:Rm b→a:=by intro k;(first|refine y_5 ?_|refine Z01 ?_|refine Z02 ?_|refine Z03 ?_|refine Z04 ?_|refine Z05 ?_|refine Z06 ?_|refine Z07 ?_|refine Z08 ?_|refine Z09 ?_|refine Z10 ?_|refine Z11 ?_|refine Z12 ?_|refine Z13 ?_|refine Z14 ?_|refine Z15 ?_|refine Z17 ?_|refine Z18 ?_|refine Z19 ?_|refine Z22 ?_|refine Z23 ?_|refine Z24 ?_|refine Z26 ?_|refine Z27 ?_|refine Z29 ?_|refine Z30 ?_|refine Z31 ?_|refine Z32 ?_|refine Z67 ?_);exact k.h):a:=h ⟨k⟩
theorem ut{a b:Prop}(k:b)(h:Rm b→a:=by intro k;(first|refine Kq ?_|refine ga ?_|refine Zqn ?_);exact k.h):a:=h ⟨k⟩
set_option maxHeartbeats 2000000 in
theorem gT{a c:Nat}(ha:a<W^6)(hc:c≤1):Spec Tryz.prog 100 [LV .u64 (D 6 a),N .u64 c] ai [] (IsV (LV .u64 (D 6 (i5 6 p a c)))):=by
 refine ad Tryz.func100 rfl rfl rfl fun w _=>?_
 have hla:=ae 6 a
 have hlr:=ae 6 p
 repeat (first|(refine cJ ?_;intro _)|refine Pi ?_|refine Z81 fun _=>?_|refine Z82 fun _=>?_)
 rename_i b2 b4 b5 b6
 refine ay (ι:=Nat) (fun i=>i≤6) (fun i=>[(1,N .u64 c),(2,pt b2 0),(4,pt b4 0),(5,pt b5 0),(6,pt b6 0),(7,N .u64 (cp gk (D 6 a) (D 6 p) i).2),(10,N .i64 i)])
  (fun i=>[.blk b6 (LV .u64 ((cp gk (D 6 a) (D 6 p) i).1++List.replicate (6-i) 0)) 32,.blk b2 (LV .u64 (D 6 a)) 32,.blk b5 (LV .u64 (D 6 p)) 32,.blk b4 (LV .u64 (List.replicate 6 0)) 32]) (fun i=>6-i) 0 (by omega) (by rw[iK];exact sbq) (by rw[iK];exact sw) ?_
 intro i hi
 have hc1:=jo 6 a p i
 have hl:=gP gk (D 6 a) (D 6 p) i
 have hol:((cp gk (D 6 a) (D 6 p) i).1++List.replicate (6-i) 0).length=6:=by simp;omega
 by_cases h:i<6
 ·repeat (first|refine Dp ?_|refine Z81 fun _=>?_|refine Z82 fun _=>?_)
  refine au (by rfl) ?_
  repeat (first|(refine Zqf (by intro _ _ _;(first|refine g7 (by rfl) (by rfl) (by rfl) (wh _ _ _ hc1) (by rfl) ?_|refine KP ?_);exact Zq) ?_)|refine ut ?_)
  refine Zq0 ?_ (by kernel_rfl)
  rw[← rZ,← r4,← gQ,Ge gk (D 6 a) (D 6 p) i 6 h]
  repeat (first|refine sy ?_|refine Z81 fun _=>?_|refine Z82 fun _=>?_)
  exact ao (i+1) (by omega) (by omega) sbq sw
 ·have hie:i=6:=by omega
  subst hie
  rw[nQ ha lQ]at *
  simp only at *
  have he:=HR (k:=6) (A:=a) lQ hc
  repeat (first|refine Pj ?_|refine Z81 fun _=>?_|refine Z82 fun _=>?_)
  refine an (by rfl) (fun hb=>?_) (fun hb=>?_)
  ·rw[if_pos hb]at he
   repeat (first|refine sy ?_|refine Z81 fun _=>?_|refine Z82 fun _=>?_)
   refine Zec fun _ hw=>aa hw SubW.nil ⟨?_,rfl⟩
   rw[he]
  ·rw[if_neg hb]at he
   have hl2:=ae 6 (sbn 6 a p)
   repeat (first|refine sy ?_|refine Z81 fun _=>?_|refine Z82 fun _=>?_)
   refine Zec fun _ hw=>aa hw SubW.nil ⟨?_,rfl⟩
   rw[Nat.sub_self,List.replicate_zero,List.append_nil,he]
theorem Tj{a b:Prop}(k:b)(h:Rm b→a:=by intro k;(first|refine Z03 ?_|refine Z04 ?_|refine Z05 ?_|refine Z06 ?_|refine Z07 ?_|refine Z08 ?_|refine Z09 ?_|refine Z10 ?_|refine Z11 ?_|refine Z12 ?_|refine Z13 ?_|refine Z14 ?_|refine Z24 ?_|refine Z26 ?_|refine Z27 ?_|refine Z29 ?_|refine Z30 ?_|refine Z31 ?_|refine Z32 ?_|refine Z67 ?_|refine Z77 ?_|refine Z78 ?_|refine Z79 ?_);exact k.h):a:=h ⟨k⟩
theorem bS{a:Nat}(ha:a<W^6):Spec Tryz.prog 98 [LV .u64 (D 6 a)] ai [] (IsV (LV .u64 (D 6 (a%p)))):=by
 refine ad Tryz.func98 rfl rfl rfl fun w _=>?_
 have hla:=ae 6 a
 repeat (first|(refine cJ ?_;intro _)|refine Tj ?_|refine Z81 fun _=>?_|refine Z82 fun _=>?_)
 rename_i b1 b2
 refine ay (ι:=Nat) (fun x=>x<W^6∧x%p=a%p) (fun _=>[(1,pt b1 0),(2,pt b2 0)])
  (fun x=>[.blk b1 (LV .u64 (D 6 x)) 32,.blk b2 (LV .u64 (List.replicate 6 0)) 32]) (fun x=>x) a ⟨ha,rfl⟩ sbq sw ?_
 rintro x ⟨hx,hxa⟩
 have hlx:=ae 6 x
 by_cases h:x<p
 ·have hv:i5 6 p x 0=x:=by unfold i5;rw[if_pos (by omega)]
  repeat (first|(refine cJ ?_;intro _)|(refine ah (by rfl) (by rfl) (by rfl) (gT hx (Nat.zero_le 1)) (fun _ _=>trivial) (by rfl) ?_;rw[hv])|rw[decide_eq_true (p:=D 6 x=D 6 x) rfl]|refine Tj ?_|refine Z81 fun _=>?_|refine Z82 fun _=>?_)
  refine Zec fun _ hw=>aa hw SubW.nil ⟨?_,rfl⟩
  rw[← hxa,Nat.mod_eq_of_lt h]
 ·have hv:i5 6 p x 0=x-p:=by unfold i5;rw[if_neg (by omega),Nat.zero_mul,Nat.add_zero]
  have hl2:=ae 6 (x-p)
  have hrp:=bY
  have hne:decide (D 6 (x-p)=D 6 x)=false:=decide_eq_false (by rw[wv (by omega) hx];omega)
  repeat (first|(refine cJ ?_;intro _)|(refine ah (by rfl) (by rfl) (by rfl) (gT hx (Nat.zero_le 1)) (fun _ _=>trivial) (by rfl) ?_;rw[hv])|rw[hne]|refine Tj ?_|refine Z81 fun _=>?_|refine Z82 fun _=>?_)
  exact ao (x-p) ⟨by omega,by rw[← hxa,← Nat.mod_eq_sub_mod (by omega)]⟩ (by omega) sbq sw
theorem bT{S1 a b:Prop}(s1:S1)(k:b)(h:S1→Rm b→a:=by intro s1 k;refine Zqp (by intro _ _ _;refine ah (by rfl) (by rfl) (by rfl) s1 (fun _ _=>trivial) (by rfl) ?_;exact Zq) ?_;exact k.h):a:=h s1 ⟨k⟩
set_option maxHeartbeats 2000000 in
theorem tF{a b:Nat}(ha:a<W^6)(hb:b<W^6):Spec Tryz.prog 49 [LV .u64 (D 6 a),LV .u64 (D 6 b)] ai [] (IsV (LV .u64 (D 6 ((a+b)%p)))):=by
 refine ad Tryz.func49 rfl rfl rfl fun w _=>?_
 have hl0:=fun x=>ae 6 x
 have hm:(a%p+b%p)%p=(a+b)%p:=(Nat.add_mod _ _ _).symm
 have hA:=Nat.mod_lt a bY
 have hB:=Nat.mod_lt b bY
 repeat (first|(refine cJ ?_;intro _)|refine sy ?_|refine Z81 fun _=>?_|refine Z82 fun _=>?_)
 refine au (by rfl) ?_
 repeat (first|(refine Zqf (by intro _ _ _;(first|refine KP ?_);exact Zq) ?_)|refine bT (bS ha) ?_|refine bT (bS hb) ?_|refine ut ?_)
 refine Zq0 ?_ (by kernel_rfl)
 generalize a%p=A at *
 generalize b%p=B at *
 repeat (first|refine sy ?_|refine Z81 fun _=>?_|refine Z82 fun _=>?_)
 rename_i b2 b3 b4
 refine ay (ι:=Nat) (fun i=>i≤6) (fun i=>[(2,pt b2 0),(3,pt b3 0),(4,pt b4 0),(5,N .u64 (cp iR (D 6 A) (D 6 B) i).2),(11,N .i64 i)])
  (fun i=>[.blk b2 (LV .u64 ((cp iR (D 6 A) (D 6 B) i).1++(D 6 A).drop i)) 32,.blk b3 (LV .u64 (D 6 B)) 32,.blk b4 (LV .u64 (List.replicate 6 0)) 32]) (fun i=>6-i) 0 (by omega) (by rw[iK];exact sbq) (by rw[iK];exact sw) ?_
 intro i hi
 have hc1:=mz 6 A B i
 have hl:=gP iR (D 6 A) (D 6 B) i
 have hla:=hl0 A
 have hol:((cp iR (D 6 A) (D 6 B) i).1++(D 6 A).drop i).length=6:=by simp;omega
 have hdg:=jZ (xs:=D 6 A) hl
 by_cases h:i<6
 ·repeat (first|refine Dp ?_|refine Z81 fun _=>?_|refine Z82 fun _=>?_)
  refine au (by rfl) ?_
  repeat (first|(refine Zqf (by intro _ _ _;(first|refine g7 (by rfl) (by rfl) (by rfl) (zJ _ _ _ hc1) (by rfl) ?_|refine KP ?_);exact Zq) ?_)|refine ut ?_)
  refine Zq0 ?_ (by kernel_rfl)
  rw[hdg,← wE,← wF,← gQ,kG iR (D 6 A) (D 6 B) i (by omega)]
  repeat (first|refine sy ?_|refine Z81 fun _=>?_|refine Z82 fun _=>?_)
  exact ao (i+1) (by omega) (by omega) sbq sw
 ·have hie:i=6:=by omega
  subst hie
  have hrl:=lQ
  have hdr:(D 6 A).drop 6=[]:=List.drop_eq_nil_of_le (by omega)
  rw[sU (by omega) (by omega),hdr,List.append_nil]at *
  simp only at *
  have hS:(A+B)/W^6≤1:=by
   have:(A+B)/W^6<2:=Nat.div_lt_of_lt_mul (by omega)
   omega
  have he:=Eh (k:=6) (m:=p) (S:=A+B) (by omega) lQ
  have hD:D 6 (A+B)=D 6 ((A+B)%W^6):=(mh _ _).symm
  rw[hD]
  repeat (first|refine y_5 ?_|(refine ah (by rfl) (by rfl) (by rfl) (gT (Nat.mod_lt _ (bP 6)) hS) (fun _ _=>trivial) (by rfl) ?_;rw[he])|refine sy ?_|refine Z81 fun _=>?_|refine Z82 fun _=>?_)
  refine Zec fun _ hw=>aa hw SubW.nil ⟨?_,rfl⟩
  rw[hm]
theorem V3{a b:Prop}(k:b)(h:Rm b→a:=by intro k;(first|refine Z01 ?_|refine Z02 ?_|refine Z03 ?_|refine Z04 ?_|refine Z05 ?_|refine Z06 ?_|refine Z07 ?_|refine Z08 ?_|refine Z09 ?_|refine Z10 ?_|refine Z11 ?_|refine Z12 ?_|refine Z13 ?_|refine Z14 ?_|refine Z19 ?_|refine Z24 ?_|refine Z26 ?_|refine Z27 ?_|refine Z29 ?_|refine Z30 ?_|refine Z31 ?_|refine Z32 ?_|refine Z62 ?_|refine Z63 ?_|refine Z66 ?_|refine Z67 ?_);exact k.h):a:=h ⟨k⟩
theorem AN(s:Value)(xs:List Nat)(hx:Lt 18446744073709551616 xs)(hl:xs.length<1000000):
  Spec Tryz.prog 39 [s] (fun w=>Rd w s (xs.map (N .u64))) [] (IsV (LV .u64 (D 6 (V xs%p)))):=by
 refine ad Tryz.func39 rfl rfl rfl fun w hr=>?_
 have hr:=RdC.mk0 hr
 have hrl:=ae 6 p
 have hv:=eU lQ
 have hml:=ae 6 (V xs%p)
 have htk:(D 6 (V xs%p)).take 6=D 6 (V xs%p):=List.take_of_length_le (by omega)
 repeat (first|(refine cJ ?_;intro _)|refine KM ?_|(refine aw (by rfl) (by rfl) (by rfl) (xJ s _ xs (D 6 p) hx (dw _ _) hl (by omega)) .nil (fun w hw=>⟨RdW.old hr w hw,RdW.arrAll (m:=6) fd hrl w hw⟩) (by rfl) ?_;rintro _ _ (⟨hz,_,_⟩ | ⟨_,u,rfl,rfl⟩);exact absurd hz (by rw[hv];exact Nat.ne_of_gt bY);rw[hv,hrl])|rw[htk]|refine V3 ?_|refine Z82 fun _=>?_)
 refine Zec fun _ hw=>aa hw SubW.nil ⟨?_,rfl⟩
 rfl
def fel(b:List Nat):List Nat:=D 6 (bC (b.take 64)%p)++D 6 (bC ((b.take 128).drop 64)%p)
def j2(b:List Nat):Nat→List (List Nat)
 | 0=>[]
 | i+1=>j2 b i++[fel (b.drop (128*i))]
theorem BM(b:List Nat):fel b=D 6 (bC (b.take 64)%p)++D 6 (bC ((b.take 128).drop 64)%p):=rfl
theorem BN(b:List Nat):(fel b).length=12:=by simp[fel]
theorem QQ(b:List Nat):j2 b 0=[]:=rfl
theorem sZ(b:List Nat)(i:Nat):j2 b (i+1)=j2 b i++[fel (b.drop (128*i))]:=rfl
theorem j3(b:List Nat)(i:Nat):(j2 b i).length=i:=by
 induction i with
 | zero=>rfl
 | succ i ih=>rw[j2,List.length_append,ih];rfl
theorem sX(b:List Nat)(i:Nat):∀v∈j2 b i,v.length=12:=by
 induction i with
 | zero=>intro v hv;cases hv
 | succ i ih=>
  intro v hv
  rcases List.mem_append.1 hv with hv | hv
  ·exact ih v hv
  ·rw[List.mem_singleton.1 hv];exact BN _
theorem qI{l:List (List Nat)}(h:∀v∈l,v.length=12):l.flatten.length=l.length*12:=by
 induction l with
 | nil=>rfl
 | cons a r ih=>
  rw[List.flatten_cons,List.length_append,ih fun v hv=>h v (List.mem_cons_of_mem _ hv),h a (List.mem_cons_self ..),List.length_cons]
  omega
theorem sY(b:List Nat)(i:Nat):(j2 b i).flatten.length=(j2 b i).length*12:=qI (sX b i)
theorem qD(b:List Nat):∀{k i:Nat},i<k→(j2 b k)[i]?=some (fel (b.drop (128*i)))
 | 0,_,h=>by omega
 | k+1,i,h=>by
  rw[sZ]
  rcases Nat.lt_or_ge i k with h2 | h2
  ·rw[List.getElem?_append_left (by rw[j3];exact h2)]
   exact qD b h2
  ·have:i=k:=by omega
   subst this
   rw[List.getElem?_append_right (by rw[j3];exact Nat.le_refl _),j3,Nat.sub_self]
   rfl
theorem w64{bs:List Nat}(h:Lt 256 bs)(hl:bs.length=64):V (D 8 (bC bs))=bC bs:=by
 refine eU ?_
 have:=uC h
 rw[hl]at this
 exact this
theorem Ct(s:Value)(bs:List Nat)(h:Lt 256 bs)(hl:bs.length=64):Spec Tryz.prog 39 [s] (fun w=>Rd w s ((D 8 (bC bs)).map (N .u64))) [] (IsV (LV .u64 (D 6 (bC bs%p)))):=by
 have:=AN s (D 8 (bC bs)) (dw _ _) (by rw[ae];decide)
 rwa [w64 h hl]at this
attribute [irreducible] fel j2
end
section
attribute [local irreducible] Code.wp wpList Af bodyPost L.Go
open Num
attribute [local simp] ae aD
theorem NB{a b:Prop}(k:b)(h:Rm b→a:=by intro k;(first|refine Z01 ?_|refine Z02 ?_|refine Z03 ?_|refine Z04 ?_|refine Z05 ?_|refine Z06 ?_|refine Z07 ?_|refine Z08 ?_|refine Z09 ?_|refine Z10 ?_|refine Z11 ?_|refine Z12 ?_|refine Z13 ?_|refine Z14 ?_|refine Z15 ?_|refine Z16 ?_|refine Z17 ?_|refine Z18 ?_|refine Z20 ?_|refine Z21 ?_|refine Z22 ?_|refine Z23 ?_|refine Z29 ?_|refine Z30 ?_|refine Z31 ?_|refine Z32 ?_|refine Z36 ?_|refine Z37 ?_|refine Z38 ?_|refine Z42 ?_|refine Z44 ?_|refine Z45 ?_|refine Z60 ?_|refine Z71 ?_|refine Z74 ?_);exact k.h):a:=h ⟨k⟩
set_option maxHeartbeats 1000000 in
theorem oS(s:Value)(xs:List Nat)(n:Nat)(hx:Lt 18446744073709551616 xs)(hl:xs.length<16777216)(hn:n<16777216):
  Spec Tryz.prog 74 [s,N .i64 n] (fun w=>Rd w s (xs.map (N .u64))) [] (fun v Wr=>Wr=[.sl v ((bz (V xs) n).map (N .u8)) 5]):=by
 refine ad Tryz.func74 rfl rfl rfl fun w hr=>?_
 have hr:=RdC.mk0 hr
 have hm0:max n 0=n:=Nat.max_eq_left (Nat.zero_le _)
 have hol:=aD (V xs) n
 have hal:(bz (V xs) n).length=(List.replicate n 0).length:=by rw[hol,List.length_replicate]
 repeat (first|rw[hm0]|refine NB ?_|refine Z83 fun _=>?_)
 rename_i u
 rw[List.length_replicate]
 refine ay (ι:=Nat) (fun i=>i≤n) (fun i=>[(0,s),(1,N .i64 n),(5,u),(12,N .i64 n),(13,N .i64 i)]) (fun i=>[.sl u ((Sha.ju (bz (V xs) n) (List.replicate n 0) i).map (N .u8)) 5]) (fun i=>n-i) 0 (by omega) sbq (by rw[Sha.vl];exact sw) ?_
 intro i hi
 have hml:=Sha.mR hal i
 rw[List.length_replicate]at hml
 repeat (first|refine NB ?_|refine Z83 fun _=>?_)
 refine an (by rfl) (fun h=>?_) (fun h=>?_)
 ·have hwb:=FB (V xs) (n-1-i)
  rw[← cP hx]at hwb
  repeat (first|refine ah (by rfl) (by rfl) (by rfl) (pB s xs ((n-1-i)/8) (by omega)) (RdW.old hr) (by rfl) ?_|refine ib (by rfl) (by rfl) (show 8*((n-1-i)%8)≤64 by omega) (by rfl) ?_|refine NB ?_|refine Z83 fun _=>?_)
  rw[hwb,← oi _ _ _ h,Sha.mS hal (by simp;omega)]
  exact ao (i+1) (by omega) (by omega) sbq sw
 ·have hie:i=n:=by omega
  subst hie
  rw[show Sha.ju (bz (V xs) i) (List.replicate i 0) i=bz (V xs) i by have:=Sha.mQ hal;rwa [List.length_replicate]at this]
  repeat (first|refine NB ?_|refine Z83 fun _=>?_)
  exact Ze1 fun _ hw=>aa hw (Wout:=[.sl u ((bz (V xs) i).map (N .u8)) 5]) (by exact sw) rfl
theorem kX{bs:List Nat}(h:Lt 256 bs):bC bs<Num.W^((bs.length+7)/8):=by
 refine Nat.lt_of_lt_of_le (uC h) ?_
 rw[qb,← Nat.pow_mul]
 exact Nat.pow_le_pow_right (by decide) (by omega)
theorem Rj(Y k:Nat):hi8 Y k≤Y:=by unfold hi8;omega
theorem KQ{a b:Prop}(k:b)(h:Rm b→a:=by intro k;(first|refine Z01 ?_|refine Z02 ?_|refine Z03 ?_|refine Z04 ?_|refine Z05 ?_|refine Z06 ?_|refine Z07 ?_|refine Z08 ?_|refine Z09 ?_|refine Z10 ?_|refine Z11 ?_|refine Z12 ?_|refine Z13 ?_|refine Z14 ?_|refine Z15 ?_|refine Z16 ?_|refine Z17 ?_|refine Z18 ?_|refine Z20 ?_|refine Z21 ?_|refine Z22 ?_|refine Z23 ?_|refine Z24 ?_|refine Z26 ?_|refine Z27 ?_|refine Z29 ?_|refine Z30 ?_|refine Z31 ?_|refine Z32 ?_|refine Z36 ?_|refine Z37 ?_|refine Z38 ?_|refine Z41 ?_|refine Z43 ?_|refine Z44 ?_|refine Z45 ?_|refine Z67 ?_|refine Z71 ?_|refine Z74 ?_);exact k.h):a:=h ⟨k⟩
set_option maxHeartbeats 1000000 in
theorem ie(s:Value)(bs:List Nat)(hb:Lt 256 bs)(hl:bs.length<16777216):
  Spec Tryz.prog 40 [s] (fun w=>Rd w s (bs.map (N .u8))) [] (fun v Wr=>Wr=[.sl v ((D ((bs.length+7)/8) (bC bs)).map (N .u64)) 30]):=by
 refine ad Tryz.func40 rfl rfl rfl fun w hr=>?_
 have hr:=RdC.mk0 hr
 have hfit:=kX hb
 obtain⟨n,hn⟩:∃n,n=(bs.length+7)/8:=⟨_,rfl⟩
 rw[← hn]at hfit
 repeat (first|refine KQ ?_|refine Z83 fun _=>?_)
 rename_i u
 rw[← hn]
 refine ay (ι:=Nat) (fun i=>i≤bs.length) (fun i=>[(0,s),(3,u),(12,s),(13,N .i64 bs.length),(14,N .i64 i)]) (fun i=>[.sl u ((D n (hi8 (bC bs) (bs.length-i))).map (N .u64)) 30]) (fun i=>bs.length-i) 0 (by omega) sbq (by rw[Nat.sub_zero,LC (uC hb),nP];exact sw) ?_
 intro i hi
 have hDl:=ae n (hi8 (bC bs) (bs.length-i))
 repeat (first|refine KQ ?_|refine Z83 fun _=>?_)
 refine an (by rfl) (fun h=>?_) (fun h=>?_)
 ·obtain⟨k,hk⟩:∃k,k=bs.length-1-i:=⟨_,rfl⟩
  have hk1:bs.length-i=k+1:=by omega
  rw[hk1]at hDl ⊢
  have hbi:=hb.getD (by decide) i
  have hdig:=zQ hb h
  rw[← hk]at hdig
  obtain⟨p1,p2,p3⟩:=IT (bC bs) k n (Nat.lt_of_le_of_lt (Rj _ _) hfit) (by omega)
  rw[hdig]at p1 p2 p3
  have hwd:=zy n (hi8 (bC bs) (k+1)) (k/8) (by omega)
  have hkl:k/8<n:=by omega
  have hxm:bs.getD i 0%18446744073709551616=bs.getD i 0:=Nat.mod_eq_of_lt (by omega)
  have p1':hi8 (bC bs) (k+1)/Num.W^(k/8)%Num.W%18446744073709551616 ||| (bs.getD i 0%18446744073709551616) <<< (8*(k%8))%18446744073709551616%18446744073709551616=hi8 (bC bs) (k+1)/Num.W^(k/8)%Num.W+bs.getD i 0*256^(k%8):=by
   rw[hxm,Nat.mod_mod,Nat.mod_eq_of_lt (a:=hi8 (bC bs) (k+1)/Num.W^(k/8)%Num.W) (b:=18446744073709551616) (show _<18446744073709551616 from Nat.mod_lt _ mm)];exact p1
  repeat (first|rw[← hk]|refine KQ ?_|refine Z83 fun _=>?_)
  refine au (by rfl) ?_
  repeat (first|(refine Zqf (by intro _ _ _;(first|refine Z01 ?_|refine Z02 ?_|refine Z15 ?_|refine Z16 ?_|refine Z17 ?_|refine Z18 ?_|refine Z20 ?_|refine Z21 ?_|refine Z22 ?_|refine Z23 ?_|refine Z36 ?_|refine Z37 ?_|refine Z38 ?_|refine Z41 ?_|refine Z43 ?_|refine Z44 ?_|refine Z45 ?_|refine Z71 ?_|refine Z74 ?_);exact Zq) ?_)|refine Do ?_|refine ga ?_|refine Zqn ?_)
  refine Zq0 ?_ (by kernel_rfl)
  rw[hwd,p1',← p3]
  repeat (first|refine KQ ?_|refine Z83 fun _=>?_)
  refine ao (i+1) (by omega) (by omega) sbq ?_
  rw[show bs.length-(i+1)=k by omega]
  exact sw
 ·have hie:i=bs.length:=by omega
  subst hie
  rw[Nat.sub_self,Uy]
  repeat (first|refine KQ ?_|refine Z83 fun _=>?_)
  refine Ze1 fun _ hw=>aa hw (Wout:=[.sl u ((D n (bC bs)).map (N .u64)) 30]) ?_ rfl
  exact sw
end
end Go.Proofs.YtndhfbecpghinaaGreat.L
