/- What the proof of the statement about TopApart stands on, part B. Conditions: as each statement says. -/
import Derived.Test.YtndhfbecpghinaaGreatTopApartA
import Derived.KernelRfl
import Derived.Laws.BytesArg
import Derived.Laws.Strings
import Derived.Scope
import Derived.Tactics
import Derived.Test.YtndhfbecpghinaaGreatProg
namespace Go.Proofs.YtndhfbecpghinaaGreat.Num
theorem qd(A p:Nat):A%p+p*(A/p)=A:=Nat.mod_add_div A p
theorem D3(A B i:Nat):(A+B)/W^i%W=(A/W^i%W+B/W^i%W+(A%W^i+B%W^i)/W^i)%W:=by
 have hp:=bP i
 generalize W^i=p at *
 have hA:=qd A p
 have hB:=qd B p
 have e:A+B=(A%p+B%p)+p*(A/p+B/p):=by rw[Nat.mul_add];omega
 conv=>lhs;rw[e,Nat.add_mul_div_left _ _ hp]
 generalize A/p=x
 generalize B/p=y
 generalize (A%p+B%p)/p=c
 simp only[W];omega
theorem D2(A B i:Nat):(A%W^(i+1)+B%W^(i+1))/W^(i+1)=(A/W^i%W+B/W^i%W+(A%W^i+B%W^i)/W^i)/W:=by
 rw[cZ,cZ,Nat.pow_succ,← Nat.div_div_eq_div_mul]
 have hp:=bP i
 generalize W^i=p at *
 have e:A%p+p*(A/p%W)+(B%p+p*(B/p%W))=(A%p+B%p)+p*(A/p%W+B/p%W):=by rw[Nat.mul_add];omega
 rw[e,Nat.add_mul_div_left _ _ hp,Nat.add_comm ((A%p+B%p)/p)]
theorem Gb(A B i:Nat):D (i+1) (A+B)=D i (A+B)++[(A/W^i%W+B/W^i%W+(A%W^i+B%W^i)/W^i)%W]:=by
 rw[uB,D3]
def bw(A B i:Nat):Nat:=if A%W^i<B%W^i then 1 else 0
def sb(A B i:Nat):Nat:=A%W^i+W^i-B%W^i
theorem N4(A B i:Nat):bw A B i≤1:=by unfold bw;split <;> omega
theorem Ud(A B:Nat):bw A B 0=0:=by simp[bw,Nat.mod_one]
theorem t9(A B i:Nat):bw A B (i+1)=if A/W^i%W<B/W^i%W+bw A B i then 1 else 0:=by
 unfold bw
 rw[cZ,cZ]
 have hp:=bP i
 generalize W^i=p at *
 have h1:=Nat.mod_lt A hp
 have h2:=Nat.mod_lt B hp
 generalize A/p%W=x
 generalize B/p%W=y
 generalize A%p=a at *
 generalize B%p=b at *
 rcases Nat.lt_trichotomy x y with h | h | h
 ·have:=Nat.mul_le_mul_left p (show x+1≤y from h)
  rw[Nat.mul_add]at this
  rw[if_pos (show a+p*x<b+p*y by omega),if_pos (by split <;> omega)]
 ·subst h
  by_cases hab:a<b
  ·rw[if_pos (by omega),if_pos (by rw[if_pos hab];omega)]
  ·rw[if_neg (by omega),if_neg (by rw[if_neg hab];omega)]
 ·have:=Nat.mul_le_mul_left p (show y+1≤x from h)
  rw[Nat.mul_add]at this
  rw[if_neg (show ¬a+p*x<b+p*y by omega),if_neg (by split <;> omega)]
theorem yY(A B i:Nat):D (i+1) (sb A B (i+1))=D i (sb A B i)++[(A/W^i%W+18446744073709551616-B/W^i%W-bw A B i)%W]:=by
 have hp:=bP i
 have h1:=Nat.mod_lt A hp
 have h2:=Nat.mod_lt B hp
 have hx:A/W^i%W<W:=Nat.mod_lt _ mv
 have hy:B/W^i%W<W:=Nat.mod_lt _ mv
 have hW:W=18446744073709551616:=rfl
 have e:sb A B (i+1)=sb A B i+W^i*(A/W^i%W+W-B/W^i%W-1):=by
  unfold sb
  rw[cZ,cZ,Nat.pow_succ]
  generalize W^i=p at *
  generalize A/p%W=x at *
  generalize B/p%W=y at *
  have e2:p*(x+W-y-1)+p*y+p=p*x+p*W:=by
   rw[← Nat.mul_add,← Nat.mul_succ,← Nat.mul_add];congr 1;omega
  omega
 rw[uB,e]
 have e3:D i (sb A B i+W^i*(A/W^i%W+W-B/W^i%W-1))=D i (sb A B i):=by
  rw[← mj,Nat.add_mul_mod_self_left,mj]
 rw[e3,Nat.add_mul_div_left _ _ hp]
 have e4:sb A B i/W^i=1-bw A B i:=by
  unfold sb bw
  by_cases hab:A%W^i<B%W^i
  ·rw[if_pos hab,Nat.div_eq_of_lt (by omega)]
  ·rw[if_neg hab]
   generalize W^i=p at *
   generalize A%p=a at *
   generalize B%p=b at *
   rw[show a+p-b=(a-b)+p*1 by omega,Nat.add_mul_div_left _ _ hp,Nat.div_eq_of_lt (by omega)]
 rw[e4]
 have:=N4 A B i
 congr 2
 generalize A/W^i%W=x at *
 generalize B/W^i%W=y at *
 generalize bw A B i=b at *
 rw[hW]at *
 rw[show 1-b+(x+18446744073709551616-y-1)=x+18446744073709551616-y-b by omega]
def cp(g:Nat→Nat→Nat→Nat×Nat)(xs ys:List Nat):Nat→List Nat×Nat
 | 0=>([],0)
 | i+1=>((cp g xs ys i).1++[(g (xs.getD i 0) (ys.getD i 0) (cp g xs ys i).2).1],(g (xs.getD i 0) (ys.getD i 0) (cp g xs ys i).2).2)
theorem gT(g:Nat→Nat→Nat→Nat×Nat)(xs ys:List Nat)(i:Nat):(cp g xs ys i).1.length=i:=by
 induction i with
 | zero=>rfl
 | succ i ih=>simp[cp,ih]
theorem iK(g:Nat→Nat→Nat→Nat×Nat)(xs ys:List Nat):cp g xs ys 0=([],0):=rfl
theorem mD(g:Nat→Nat→Nat→Nat×Nat)(xs ys:List Nat)(i:Nat):(cp g xs ys (i+1)).1=(cp g xs ys i).1++[(g (xs.getD i 0) (ys.getD i 0) (cp g xs ys i).2).1]:=rfl
theorem gU(g:Nat→Nat→Nat→Nat×Nat)(xs ys:List Nat)(i:Nat):(cp g xs ys (i+1)).2=(g (xs.getD i 0) (ys.getD i 0) (cp g xs ys i).2).2:=rfl
theorem BP{g:Nat→Nat→Nat→Nat×Nat}(hg:∀x y c,x<18446744073709551616→y<18446744073709551616→c≤1→(g x y c).2≤1){xs ys:List Nat}(hx:Lt 18446744073709551616 xs)(hy:Lt 18446744073709551616 ys)(i:Nat):(cp g xs ys i).2≤1:=by
 induction i with
 | zero=>exact Nat.zero_le _
 | succ i ih=>exact hg _ _ _ (hx.getD (by decide) i) (hy.getD (by decide) i) ih
def iQ(x y c:Nat):Nat×Nat:=((x+y+c)%18446744073709551616,(x+y+c)/18446744073709551616)
def gp(x y c:Nat):Nat×Nat:=((x+18446744073709551616-y-c)%18446744073709551616,if x<y+c then 1 else 0)
theorem Lj(x y c:Nat)(hx:x<18446744073709551616)(hy:y<18446744073709551616)(hc:c≤1):(iQ x y c).2≤1:=by
 simp only[iQ];omega
theorem Nz(x y c:Nat)(_:x<18446744073709551616)(_:y<18446744073709551616)(_:c≤1):(gp x y c).2≤1:=by
 simp only[gp];split <;> omega
theorem Gp{xs ys:List Nat}(hx:Lt 18446744073709551616 xs)(hy:Lt 18446744073709551616 ys)(i:Nat):
  cp iQ xs ys i=(D i (V xs+V ys),(V xs%W^i+V ys%W^i)/W^i):=by
 induction i with
 | zero=>simp[cp,D_0,Nat.mod_one]
 | succ i ih=>
  have e1:=mD iQ xs ys i
  have e2:=gU iQ xs ys i
  rw[ih]at e1 e2
  rw[Gb,D2]
  refine Prod.ext ?_ ?_
  ·rw[e1,cR hx,cR hy];rfl
  ·rw[e2,cR hx,cR hy];rfl
theorem Gs{xs ys:List Nat}(hx:Lt 18446744073709551616 xs)(hy:Lt 18446744073709551616 ys)(i:Nat):
  cp gp xs ys i=(D i (sb (V xs) (V ys) i),bw (V xs) (V ys) i):=by
 induction i with
 | zero=>simp[cp,D_0,Ud]
 | succ i ih=>
  have e1:=mD gp xs ys i
  have e2:=gU gp xs ys i
  rw[ih]at e1 e2
  rw[yY,t9]
  refine Prod.ext ?_ ?_
  ·rw[e1,cR hx,cR hy];rfl
  ·rw[e2,cR hx,cR hy];rfl
theorem kC{xs:List Nat}(h:Lt 18446744073709551616 xs){n:Nat}(hn:xs.length≤n):V xs<W^n:=Nat.lt_of_lt_of_le (uD h) (Lf hn)
theorem uK{xs ys:List Nat}(hx:Lt 18446744073709551616 xs)(hy:Lt 18446744073709551616 ys){n:Nat}(h1:xs.length≤n)(h2:ys.length≤n):
  cp iQ xs ys n=(D n (V xs+V ys),(V xs+V ys)/W^n):=by
 rw[Gp hx hy,Nat.mod_eq_of_lt (kC hx h1),Nat.mod_eq_of_lt (kC hy h2)]
def sbn(n A B:Nat):Nat:=A+W^n-B
def bwn(A B:Nat):Nat:=if A<B then 1 else 0
theorem uL{xs ys:List Nat}(hx:Lt 18446744073709551616 xs)(hy:Lt 18446744073709551616 ys){n:Nat}(h1:xs.length≤n)(h2:ys.length≤n):
  cp gp xs ys n=(D n (sbn n (V xs) (V ys)),bwn (V xs) (V ys)):=by
 rw[Gs hx hy];unfold sb bw sbn bwn
 rw[Nat.mod_eq_of_lt (kC hx h1),Nat.mod_eq_of_lt (kC hy h2)]
theorem Gr(g:Nat→Nat→Nat→Nat×Nat)(xs ys:List Nat)(i n:Nat)(h:i<n)(y:Nat):((cp g xs ys i).1++List.replicate (n-i) 0).set i y=(cp g xs ys i).1++[y]++List.replicate (n-(i+1)) 0:=by
 have hl:=gT g xs ys i
 rw[List.set_append_right _ _ (by omega),hl,Nat.sub_self,show n-i=(n-(i+1))+1 by omega,List.replicate_succ,List.set_cons_zero,List.append_assoc];rfl
attribute [irreducible] cp
def vH(A B:Nat):Int:=if A<B then -1 else if A=B then 0 else 1
theorem pU{A B:Nat}(h:A<B):vH A B = -1:=if_pos h
theorem vI{A B:Nat}(h:A=B):vH A B=0:=by unfold vH;rw[if_neg (by omega),if_pos h]
theorem pT{A B:Nat}(h:B<A):vH A B=1:=by unfold vH;rw[if_neg (by omega),if_neg (by omega)]
theorem mG(A j:Nat):A/W^j=W*(A/W^(j+1))+A/W^j%W:=by
 rw[Nat.pow_succ,← Nat.div_div_eq_div_mul];exact(Nat.div_add_mod _ _).symm
theorem IB{A B j:Nat}(h:A/W^(j+1)=B/W^(j+1))(hd:A/W^j%W=B/W^j%W):A/W^j=B/W^j:=by
 rw[mG A,mG B,h,hd]
theorem x5{A B j:Nat}(h:A/W^(j+1)=B/W^(j+1))(hd:A/W^j%W<B/W^j%W):A<B:=by
 have h1:A/W^j<B/W^j:=by rw[mG A,mG B,h];omega
 rcases Nat.lt_or_ge A B with h2 | h2
 ·exact h2
 ·have:=Nat.div_le_div_right (c:=W^j) h2;omega
theorem oo{x y:Nat}(hx:x<18446744073709551616)(hy:y<18446744073709551616):x*y≤340282366920938463426481119284349108225:=
 Nat.mul_le_mul (show x≤18446744073709551615 by omega) (show y≤18446744073709551615 by omega)
theorem Ij(x y:Nat)(hx:x<18446744073709551616)(hy:y<18446744073709551616):
  (x%4294967296)*(y%4294967296)<18446744073709551616 ∧
  (x/4294967296)*(y%4294967296)+(x%4294967296)*(y%4294967296)/4294967296<18446744073709551616 ∧
  ((x/4294967296)*(y%4294967296)+(x%4294967296)*(y%4294967296)/4294967296)%4294967296+(x%4294967296)*(y/4294967296)<18446744073709551616 ∧
  (x/4294967296)*(y/4294967296)+((x/4294967296)*(y%4294967296)+(x%4294967296)*(y%4294967296)/4294967296)/4294967296 +
   (((x/4294967296)*(y%4294967296)+(x%4294967296)*(y%4294967296)/4294967296)%4294967296+(x%4294967296)*(y/4294967296))/4294967296=x*y/18446744073709551616:=by
 have hx1:x/4294967296≤4294967295:=by omega
 have hx0:x%4294967296≤4294967295:=by omega
 have hy1:y/4294967296≤4294967295:=by omega
 have hy0:y%4294967296≤4294967295:=by omega
 have e:x*y=x/4294967296*(y/4294967296)*18446744073709551616+(x/4294967296*(y%4294967296)+x%4294967296*(y/4294967296))*4294967296+x%4294967296*(y%4294967296):=by
  have h1:x=x/4294967296*4294967296+x%4294967296:=by omega
  have h2:y=y/4294967296*4294967296+y%4294967296:=by omega
  generalize x/4294967296=p at *
  generalize x%4294967296=q at *
  generalize y/4294967296=r at *
  generalize y%4294967296=s at *
  subst h1;subst h2
  grind
 have ha:=Nat.mul_le_mul hx1 hy1
 have hb:=Nat.mul_le_mul hx1 hy0
 have hc:=Nat.mul_le_mul hx0 hy1
 have hd:=Nat.mul_le_mul hx0 hy0
 rw[e]
 generalize x/4294967296*(y/4294967296)=a at *
 generalize x/4294967296*(y%4294967296)=b at *
 generalize x%4294967296*(y/4294967296)=c at *
 generalize x%4294967296*(y%4294967296)=d at *
 refine⟨by omega,by omega,by omega,by omega⟩
theorem Il{p c s:Nat}(hp:p<18446744073709551616)(hc:c<18446744073709551616)(hs:s≤340282366920938463426481119284349108225):
  (p+(s%18446744073709551616+c)%18446744073709551616)%18446744073709551616+18446744073709551616*((((s/18446744073709551616+(s%18446744073709551616+c)/18446744073709551616)%18446744073709551616) +
   (p+(s%18446744073709551616+c)%18446744073709551616)/18446744073709551616)%18446744073709551616)=p+s+c ∧
  (((s/18446744073709551616+(s%18446744073709551616+c)/18446744073709551616)%18446744073709551616)+(p+(s%18446744073709551616+c)%18446744073709551616)/18446744073709551616)%18446744073709551616<18446744073709551616:=by
 omega
end Go.Proofs.YtndhfbecpghinaaGreat.Num
namespace Go.Proofs.YtndhfbecpghinaaGreat.Num
theorem EI{a b d e H:Nat}(h1:e<18446744073709551616)(h2:b+e/4294967296<18446744073709551616)(h3:(b+e/4294967296)%4294967296+d<18446744073709551616)
  (h4:a+(b+e/4294967296)/4294967296+((b+e/4294967296)%4294967296+d)/4294967296=H) (h5:H<18446744073709551616):
  ((a%18446744073709551616+(b%18446744073709551616+e%18446744073709551616/4294967296)%18446744073709551616/4294967296)%18446744073709551616 +
   ((b%18446744073709551616+e%18446744073709551616/4294967296)%18446744073709551616%4294967296+d%18446744073709551616)%18446744073709551616/4294967296)%18446744073709551616=H:=by
 have hb:b<18446744073709551616:=Nat.lt_of_le_of_lt (Nat.le_add_right _ _) h2
 have hd:d<18446744073709551616:=Nat.lt_of_le_of_lt (Nat.le_add_left _ _) h3
 have h6:a+(b+e/4294967296)/4294967296<18446744073709551616:=Nat.lt_of_le_of_lt (Nat.le_add_right _ _) (h4 ▸ h5)
 have ha:a<18446744073709551616:=Nat.lt_of_le_of_lt (Nat.le_add_right _ _) h6
 rw[Nat.mod_eq_of_lt h1,Nat.mod_eq_of_lt hb,Nat.mod_eq_of_lt h2,Nat.mod_eq_of_lt hd,Nat.mod_eq_of_lt h3,Nat.mod_eq_of_lt ha,Nat.mod_eq_of_lt h6,h4,Nat.mod_eq_of_lt h5]
def bb:Nat:=4294967296
theorem CO{u u1 v1 v0:Nat}(hv1:0<v1)(h1:u1<4294967296):(u*4294967296+u1)/(v1*4294967296+v0)≤u/v1:=by
 rw[Nat.le_div_iff_mul_le hv1]
 have h:=Nat.div_mul_le_self (u*4294967296+u1) (v1*4294967296+v0)
 generalize (u*4294967296+u1)/(v1*4294967296+v0)=q at *
 rw[Nat.mul_add q,← Nat.mul_assoc q v1]at h
 omega
theorem Xq{A B r u u1:Nat}(h:A+r=u)(h2:r*4294967296+u1<B):u*4294967296+u1<A*4294967296+B:=by
 subst h;rw[Nat.add_mul,Nat.add_assoc];exact Nat.add_lt_add_left h2 _
theorem kQ{u u1 v1 v0 q r:Nat}(hu:u<v1*4294967296+v0)(hqr:q*v1+r=u)(h1:u1<4294967296)(hc:4294967296≤q∨r*4294967296+u1<q*v0):
  (u*4294967296+u1)/(v1*4294967296+v0)<q:=by
 have hp:0<v1*4294967296+v0:=by omega
 rw[Nat.div_lt_iff_lt_mul hp]
 rcases hc with hc | hc
 ·have h2:=Nat.mul_le_mul_right (v1*4294967296+v0) hc
  have h3:=Nat.mul_le_mul_left 4294967296 (show u+1≤v1*4294967296+v0 from hu)
  omega
 ·rw[Nat.mul_add q,← Nat.mul_assoc q v1]
  exact Xq hqr hc
theorem gO{u u1 v1 v0 q r:Nat}(hp:0<v1*4294967296+v0)(hqr:q*v1+r=u)(hc:q*v0≤r*4294967296+u1)(hq:(u*4294967296+u1)/(v1*4294967296+v0)≤q):
  q=(u*4294967296+u1)/(v1*4294967296+v0):=by
 refine Nat.le_antisymm ?_ hq
 rw[Nat.le_div_iff_mul_le hp,Nat.mul_add q,← Nat.mul_assoc q v1]
 omega
theorem jv{u u1 v1 v0 q r:Nat}(hv0:v0<4294967296)(hu:u<v1*4294967296+v0)(hqr:q*v1+r=u)(hr:4294967296≤r):q*v0≤r*4294967296+u1:=by
 have hq:q≤4294967296:=by
  rcases Nat.lt_or_ge 4294967296 q with h | h
  ·exfalso
   have h2:=Nat.mul_le_mul_right v1 (show 4294967297≤q from h)
   omega
  ·exact h
 have h3:q*v0≤4294967296*4294967296:=Nat.mul_le_mul hq (by omega)
 have h4:4294967296*4294967296≤r*4294967296:=Nat.mul_le_mul_right _ hr
 omega
theorem CP{u u1 y:Nat}(hu:u<y)(h1:u1<4294967296):(u*4294967296+u1)/y<4294967296:=by
 rw[Nat.div_lt_iff_lt_mul (by omega)]
 have:=Nat.mul_le_mul_left 4294967296 (show u+1≤y from hu)
 omega
theorem Lv{u u1 u0 y:Nat}(hy:0<y):
  ((u*4294967296+u1)/y)*4294967296+(((u*4294967296+u1)%y)*4294967296+u0)/y=(u*18446744073709551616+(u1*4294967296+u0))/y ∧
  (((u*4294967296+u1)%y)*4294967296+u0)%y=(u*18446744073709551616+(u1*4294967296+u0))%y:=by
 have h1:=Nat.div_add_mod (u*4294967296+u1) y
 have h2:=Nat.div_add_mod (((u*4294967296+u1)%y)*4294967296+u0) y
 have h3:=Nat.mod_lt (((u*4294967296+u1)%y)*4294967296+u0) hy
 obtain⟨a,ha⟩:∃a,a=(u*4294967296+u1)/y:=⟨_,rfl⟩
 obtain⟨b,hb⟩:∃b,b=(u*4294967296+u1)%y:=⟨_,rfl⟩
 rw[← ha,← hb]at h1
 rw[← hb]at h2 h3
 rw[← ha,← hb]
 obtain⟨d,hd⟩:∃d,d=(b*4294967296+u0)/y:=⟨_,rfl⟩
 obtain⟨e,he⟩:∃e,e=(b*4294967296+u0)%y:=⟨_,rfl⟩
 rw[← hd,← he]at h2
 rw[← he]at h3
 rw[← hd,← he]
 have e1:u*18446744073709551616+(u1*4294967296+u0)=y*(a*4294967296+d)+e:=by
  rw[Nat.mul_add y,← Nat.mul_assoc y a]
  omega
 rw[e1]
 have e2:(y*(a*4294967296+d)+e)/y=a*4294967296+d:=by rw[Nat.mul_add_div hy,Nat.div_eq_of_lt h3,Nat.add_zero]
 have e3:(y*(a*4294967296+d)+e)%y=e:=by rw[Nat.mul_add_mod y,Nat.mod_eq_of_lt h3]
 exact⟨e2.symm,e3.symm⟩
theorem Ir{hi lo y s:Nat}(hy:hi<y)(hlo:lo<18446744073709551616)(hs:s≤64):
  (hi*2^s+lo/2^(64-s))*18446744073709551616+lo*2^s%18446744073709551616=(hi*18446744073709551616+lo)*2^s∧hi*2^s+lo/2^(64-s)<y*2^s:=by
 have hW:(18446744073709551616:Nat)=2^(64-s)*2^s:=by rw[← Nat.pow_add,show 64-s+s=64 by omega]
 have hq:lo*2^s/18446744073709551616=lo/2^(64-s):=by rw[hW,Nat.mul_div_mul_right _ _ (Nat.two_pow_pos s)]
 have hd:=Nat.div_add_mod (lo*2^s) 18446744073709551616
 rw[hq]at hd
 have hl:lo/2^(64-s)<2^s:=by
  rw[Nat.div_lt_iff_lt_mul (Nat.two_pow_pos _),Nat.mul_comm,← hW];exact hlo
 have hm:=Nat.mul_le_mul_right (2^s) (show hi+1≤y from hy)
 rw[Nat.add_mul,Nat.one_mul]at hm
 refine⟨?_,by omega⟩
 rw[Nat.add_mul,Nat.add_mul (hi*18446744073709551616),show hi*18446744073709551616*2^s=hi*2^s*18446744073709551616 by rw[Nat.mul_assoc,Nat.mul_comm 18446744073709551616,Nat.mul_assoc],Nat.add_assoc,Nat.mul_comm (lo/2^(64-s)),hd]
theorem Mr{a b s:Nat}(hb:b<2^s):a*2^s ||| b=a*2^s+b:=by
 rw[Nat.mul_comm,Nat.two_pow_add_eq_or_of_lt hb]
theorem zj{a b c d:Nat}(h:a+b=c+d)(hd:d<18446744073709551616):
  ((a%18446744073709551616+b)%18446744073709551616+(18446744073709551616-c%18446744073709551616%18446744073709551616))%18446744073709551616=d:=by
 have e1:(a%18446744073709551616+b)%18446744073709551616=(a+b)%18446744073709551616:=by omega
 rw[e1,h];omega
theorem ug{a c d:Nat}(h:a=c+d)(hd:d<18446744073709551616):
  (a+(18446744073709551616-c%18446744073709551616%18446744073709551616))%18446744073709551616=d:=by
 subst h;omega
theorem nM{q:Nat}(h:0<q)(hq:q<18446744073709551616):(q+(18446744073709551616-1%18446744073709551616))%18446744073709551616=q-1:=by omega
theorem fx(a b:Nat):a=a/b*b+a%b:=by rw[Nat.mul_comm];exact(Nat.div_add_mod a b).symm
def bl(x:Nat):Nat:=if x=0 then 0 else x.log2+1
theorem Lm(x:Nat)(h:0<x):x<2^bl x∧2^(bl x-1)≤x∧0<bl x:=by
 unfold bl
 rw[if_neg (by omega)]
 exact⟨Nat.lt_log2_self,by simpa using Nat.log2_self_le (by omega),by omega⟩
theorem gS(x k:Nat)(h:2^k≤x):bl x=k+bl (x >>> k):=by
 have hp:0<2^k:=Nat.two_pow_pos k
 have hq:0<x/2^k:=Nat.div_pos h hp
 have hx:x≠0:=by omega
 rw[Nat.shiftRight_eq_div_pow]
 unfold bl
 rw[if_neg hx,if_neg (by omega)]
 have h1:=Nat.log2_self_le (show x/2^k≠0 by omega)
 have h2:x/2^k<2^((x/2^k).log2+1):=Nat.lt_log2_self
 have e:x.log2=(x/2^k).log2+k:=(Nat.log2_eq_iff hx).2
  ⟨by rw[Nat.pow_add];exact(Nat.le_div_iff_mul_le hp).1 h1,by rw[show(x/2^k).log2+k+1=((x/2^k).log2+1)+k by omega,Nat.pow_add];exact(Nat.div_lt_iff_lt_mul hp).1 h2⟩
 omega
theorem ll(x k:Nat)(h:x<2^k):bl x≤k:=by
 unfold bl
 split
 ·omega
 ·rename_i h0
  have:=(Nat.log2_lt h0).2 h
  omega
attribute [irreducible] bl
theorem E4{X M a b t n:Nat}(hM:M<t*W^n)(hX:(a*W+b)*W^n≤X):(a*W+b)/t*M≤X:=by
 refine Nat.le_trans ?_ hX
 refine Nat.le_trans (Nat.mul_le_mul_left _ (Nat.le_of_lt hM)) ?_
 rw[← Nat.mul_assoc]
 exact Nat.mul_le_mul_right _ (Nat.div_mul_le_self _ _)
theorem FK(X n:Nat):((X/W^(n+1)%W)*W+X/W^n%W)*W^n≤X:=by
 have h:(X/W^(n+1)%W)*W+X/W^n%W≤X/W^n:=by
  have e:X/W^(n+1)=X/W^n/W:=by rw[Nat.pow_succ,Nat.div_div_eq_div_mul]
  rw[e]
  generalize X/W^n=z
  simp only[W]
  omega
 exact Nat.le_trans (Nat.mul_le_mul_right _ h) (Nat.div_mul_le_self _ _)
theorem J0{M n:Nat}(hM:M<W^(n+1)):M<(M/W^n%W+1)*W^n:=by
 have hp:=bP n
 have h1:M/W^n<W:=by
  rw[Nat.div_lt_iff_lt_mul hp]
  rw[Nat.pow_succ,Nat.mul_comm]at hM;exact hM
 rw[Nat.mod_eq_of_lt h1]
 have:=Nat.lt_div_mul_add hp (a:=M)
 rw[Nat.add_mul,Nat.one_mul];exact this
theorem Mi{X M q:Nat}(h:q*M≤X):(X-q*M)%M=X%M:=by
 have e:X=(X-q*M)+M*q:=by rw[Nat.mul_comm M q];omega
 conv=>rhs;rw[e]
 rw[Nat.add_mul_mod_self_left]
theorem AL(q M i:Nat):(q*(M/W^i%W))+(q*(M%W^i))/W^i=q*(M%W^(i+1))/W^i:=by
 rw[cZ,Nat.mul_add,show q*(W^i*(M/W^i%W))=W^i*(q*(M/W^i%W)) by rw[← Nat.mul_assoc,Nat.mul_comm q,Nat.mul_assoc],Nat.add_mul_div_left _ _ (bP i)]
 omega
theorem EJ(q M i:Nat):q*(M%W^(i+1))/W^(i+1)=((q*(M/W^i%W))+(q*(M%W^i))/W^i)/W:=by
 rw[AL,Nat.pow_succ,← Nat.div_div_eq_div_mul]
theorem EK(q M i:Nat):(q*M)/W^i%W=((q*(M/W^i%W))+(q*(M%W^i))/W^i)%W:=by
 have hp:=bP i
 have e:q*M=q*(M%W^i)+W^i*(q*(M/W^i)):=by
  have:=qd M (W^i)
  conv=>lhs;rw[← this]
  rw[Nat.mul_add,← Nat.mul_assoc,Nat.mul_comm q (W^i),Nat.mul_assoc]
 rw[e,Nat.add_mul_div_left _ _ hp,Nat.add_comm]
 rw[Nat.add_mod,Nat.mul_mod,← Nat.mod_mod (M/W^i) W,← Nat.mul_mod,← Nat.add_mod]
 simp
theorem Mm(q M i:Nat)(hq:q<W):q*(M%W^i)/W^i<W:=by
 rw[Nat.div_lt_iff_lt_mul (bP i)]
 exact Nat.mul_lt_mul_of_lt_of_le hq (Nat.le_of_lt (Nat.mod_lt _ (bP i))) (bP i)
theorem uA{P:List Nat}{n v:Nat}(h:Lt 18446744073709551616 P)(hl:P.length=n)(hv:V P=v):P=D n v:=by
 rw[← hv,← hl,D_V h]
theorem FI{X q M i L:Nat}{ls:List Nat}(hls:Lt 18446744073709551616 ls)(_:ls.length=L)(hX:V ls=X)(_:i<L):(D i (sb X (q*M) i)++ls.drop i).getD i 0=X/W^i%W:=by
 have h:=ae i (sb X (q*M) i)
 rw[List.getD_eq_getElem?_getD,List.getElem?_append_right (by omega),h,Nat.sub_self,List.getElem?_drop,Nat.add_zero,← List.getD_eq_getElem?_getD,cR hls,hX]
theorem JR{X Y i L y:Nat}{ls:List Nat}(hl:ls.length=L)(hi:i<L)(hy:y=(X/W^i%W+18446744073709551616-Y/W^i%W-bw X Y i)%18446744073709551616):
  (D i (sb X Y i)++ls.drop i).set i y=D (i+1) (sb X Y (i+1))++ls.drop (i+1):=by
 have h:=ae i (sb X Y i)
 rw[List.set_append_right _ _ (by omega),h,Nat.sub_self,List.drop_eq_getElem_cons (by omega),List.set_cons_zero,yY,hy,List.append_assoc];rfl
theorem JQ{X Y L:Nat}(h:Y≤X)(hX:X<W^L):D L (sb X Y L)=D L (X-Y):=by
 unfold sb
 rw[Nat.mod_eq_of_lt hX,Nat.mod_eq_of_lt (by omega),show X+W^L-Y=(X-Y)+W^L by omega,← mj,Nat.add_mod_right,mj]
theorem Fg{ls:List Nat}{L a:Nat}(_:ls.length=L+1)(h:Lt 18446744073709551616 ls)(hv:V ls<W^L):V (a::ls.take L)=a+W*V ls:=by
 rw[fu,de,← fu,F9 h,Nat.mod_eq_of_lt hv]
theorem Ie(A M i:Nat):(A/W^i%W+W*(A/W^(i+1)%M))%M=A/W^i%M:=by
 conv=>rhs;rw[mG A i]
 rw[Nat.add_comm,Nat.add_mod,Nat.mul_mod,Nat.mod_mod,← Nat.mul_mod,← Nat.add_mod]
theorem Sv{a b t:Nat}(ha:a<t)(hb:b<18446744073709551616):(a*18446744073709551616+b)/t<18446744073709551616:=by
 rw[Nat.div_lt_iff_lt_mul (by omega)]
 have:=Nat.mul_le_mul_left 18446744073709551616 (show a+1≤t from ha)
 omega
theorem Hx{ms:List Nat}(hm:Lt 18446744073709551616 ms){n:Nat}(ht:ms.getD (n-1) 0≠0):W^(n-1)≤V ms:=by
 have h:=cR hm (n-1)
 rcases Nat.lt_or_ge (V ms) (W^(n-1))with h1 | h1
 ·rw[Nat.div_eq_of_lt h1]at h;exact absurd (by simpa using h) ht
 ·exact h1
end Go.Proofs.YtndhfbecpghinaaGreat.Num
namespace Go.Proofs.YtndhfbecpghinaaGreat.Num
theorem qh:W=256^8:=by decide
theorem FP(A k:Nat):(A/W^(k/8)%W) >>> (8*(k%8))%256=A/256^k%256:=by
 have hk:=Nat.div_add_mod k 8
 have hr:k%8<8:=Nat.mod_lt _ (by decide)
 have e1:A/256^k=A/W^(k/8)/256^(k%8):=by
  conv=>lhs;rw[← hk,Nat.pow_add,Nat.pow_mul,← qh,← Nat.div_div_eq_div_mul]
 rw[e1]
 generalize A/W^(k/8)=z
 have e2:2^(8*(k%8))=256^(k%8):=by rw[Nat.pow_mul]
 rw[Nat.shiftRight_eq_div_pow,e2]
 have e3:W=256^(k%8)*(256*256^(7-k%8)):=by
  rw[qh,← Nat.pow_succ',← Nat.pow_add,show k%8+(7-k%8+1)=8 by omega]
 rw[e3,Nat.mod_mul_right_div_self,Nat.mod_mul_right_mod]
def bq(A n:Nat):List Nat:=(List.range n).map fun i=>A/256^(n-1-i)%256
theorem aD(A n:Nat):(bq A n).length=n:=by simp[bq]
theorem pS(A n:Nat):Lt 256 (bq A n):=by
 intro x hx
 simp only[bq,List.mem_map]at hx
 obtain⟨i,_,rfl⟩:=hx
 exact Nat.mod_lt _ (by decide)
theorem ot(A n i:Nat)(h:i<n):(bq A n).getD i 0=A/256^(n-1-i)%256:=by
 simp[bq,List.getD_eq_getElem?_getD,h]
def bA(bs:List Nat):Nat:=val 256 bs.reverse
theorem uG{bs:List Nat}(h:Lt 256 bs):bA bs<256^bs.length:=by
 have:Lt 256 bs.reverse:=fun x hx=>h x (List.mem_reverse.1 hx)
 have:=ap (by decide) this
 simpa[bA]using this
theorem z3{bs:List Nat}(h:Lt 256 bs){i:Nat}(hi:i<bs.length):bA bs/256^(bs.length-1-i)%256=bs.getD i 0:=by
 have h':Lt 256 bs.reverse:=fun x hx=>h x (List.mem_reverse.1 hx)
 have:=xv h' (bs.length-1-i)
 rw[bA,← this,List.getD_eq_getElem?_getD,List.getD_eq_getElem?_getD,List.getElem?_reverse (by omega),show bs.length-1-(bs.length-1-i)=i by omega]
theorem kP(A n:Nat)(h:A<256^n):bA (bq A n)=A:=by
 have e:(bq A n).reverse=dig 256 n A:=by
  apply List.ext_getElem?
  intro i
  rcases Nat.lt_or_ge i n with hi | hi
  ·have h1:=xr (B:=256) n A i hi
   have h2:=ot A n (n-1-i) (by omega)
   have hl:=aD A n
   have hd:=uQ (B:=256) n A
   rw[List.getElem?_reverse (by omega),hl]
   rw[List.getD_eq_getElem?_getD,List.getElem?_eq_getElem (by omega)]at h1 h2
   rw[List.getElem?_eq_getElem (by omega),List.getElem?_eq_getElem (by omega)]
   simp only[Option.getD_some]at h1 h2
   rw[h1,h2,show n-1-(n-1-i)=i by omega]
  ·rw[List.getElem?_eq_none (by simp[aD];omega),List.getElem?_eq_none (by simp[uQ];omega)]
 rw[bA,e,Dn,Nat.mod_eq_of_lt h]
attribute [irreducible] bq bA
def hi8(Y k:Nat):Nat:=Y-Y%256^k
theorem xG(Y k:Nat):hi8 Y k=hi8 Y (k+1)+256^k*(Y/256^k%256):=by
 unfold hi8
 have h:=lq (B:=256) Y k
 have h1:=Nat.mod_le Y (256^(k+1))
 rw[h]at h1 ⊢
 omega
theorem LS{Y n:Nat}(h:Y<256^n):hi8 Y n=0:=by unfold hi8;rw[Nat.mod_eq_of_lt h];omega
theorem US(Y:Nat):hi8 Y 0=Y:=by simp[hi8,Nat.mod_one]
theorem LU(Y k:Nat):hi8 Y k=256^k*(Y/256^k):=by
 unfold hi8
 have:=qd Y (256^k)
 omega
theorem I0(Y k n:Nat)(hY:hi8 Y k<W^n)(hk:k<8*n):
  let w:=hi8 Y (k+1)/W^(k/8)%W
  let x:=Y/256^k%256
  (w ||| (x <<< (8*(k%8))%18446744073709551616))=w+x*256^(k%8)∧w+x*256^(k%8)<W ∧
  D n (hi8 Y k)=(D n (hi8 Y (k+1))).set (k/8) (w+x*256^(k%8)):=by
 intro w x
 have hkd:=Nat.div_add_mod k 8
 have hr:k%8<8:=Nat.mod_lt _ (by decide)
 have hx:x<256:=Nat.mod_lt _ (by decide)
 have e2:2^(8*(k%8))=256^(k%8):=by rw[Nat.pow_mul]
 have hw:w=256^(k%8+1)*(Y/256^(k+1)%256^(7-k%8)):=by
  show hi8 Y (k+1)/W^(k/8)%W=_
  rw[LU]
  have e3:256^(k+1)=W^(k/8)*256^(k%8+1):=by
   rw[qh,← Nat.pow_mul,← Nat.pow_add,show 8*(k/8)+(k%8+1)=k+1 by omega]
  have e4:256^(k+1)*(Y/256^(k+1))/W^(k/8)=256^(k%8+1)*(Y/256^(k+1)):=by
   conv=>lhs;rw[show 256^(k+1)*(Y/256^(k+1))=W^(k/8)*(256^(k%8+1)*(Y/256^(k+1))) by rw[← Nat.mul_assoc,← e3]]
   exact Nat.mul_div_cancel_left _ (bP _)
  rw[e4]
  have e5:W=256^(k%8+1)*256^(7-k%8):=by rw[qh,← Nat.pow_add,show k%8+1+(7-k%8)=8 by omega]
  rw[e5,Nat.mul_mod_mul_left]
 have hlt:w+x*256^(k%8)<W:=by
  have h1:Y/256^(k+1)%256^(7-k%8)+1≤256^(7-k%8):=Nat.mod_lt _ (Nat.pow_pos (by decide))
  have h2:=Nat.mul_le_mul_left (256^(k%8+1)) h1
  have e5:256^(k%8+1)*256^(7-k%8)=W:=by rw[qh,← Nat.pow_add,show k%8+1+(7-k%8)=8 by omega]
  rw[e5,Nat.mul_add,← hw,Nat.mul_one]at h2
  have h3:=Nat.mul_le_mul_right (256^(k%8)) (show x+1≤256 from hx)
  rw[Nat.add_mul,Nat.one_mul,← Nat.pow_succ']at h3
  have h4:0<256^(k%8):=Nat.pow_pos (by decide)
  have h5:k%8+1=(k%8).succ:=rfl
  rw[h5]at h2
  omega
 have hsl:x*256^(k%8)<256^(k%8+1):=by
  rw[Nat.pow_succ,Nat.mul_comm];exact Nat.mul_lt_mul_of_pos_left hx (Nat.pow_pos (by decide))
 refine⟨?_,hlt,?_⟩
 ·have hxl:x*256^(k%8)<18446744073709551616:=Nat.lt_of_le_of_lt (Nat.le_add_left _ _) hlt
  rw[Nat.shiftLeft_eq,e2,Nat.mod_eq_of_lt hxl,hw]
  have e6:256^(k%8+1)=2^(8*(k%8+1)):=by rw[Nat.pow_mul]
  rw[e6]at hsl ⊢
  rw[Nat.two_pow_add_eq_or_of_lt hsl]
 ·have hle:hi8 Y (k+1)<W^n:=Nat.lt_of_le_of_lt (by rw[xG Y k];exact Nat.le_add_right _ _) hY
  refine T4 (dv _ _) ((dv _ _).set hlt _) (by simp[ae]) ?_
  have hvs:=N0 (dv n (hi8 Y (k+1))) (k/8) (w+x*256^(k%8)) (by rw[ae];omega)
  rw[zQ _ _ _ (by omega),eU hle]at hvs
  rw[eU hY,xG Y k]
  have e7:W^(k/8)*(x*256^(k%8))=256^k*x:=by
   rw[qh,← Nat.pow_mul,Nat.mul_comm x,← Nat.mul_assoc,← Nat.pow_add,hkd]
  have e10:W^(k/8)*(w+x*256^(k%8))=W^(k/8)*w+256^k*x:=by rw[Nat.mul_add,e7]
  have e8:W^(k/8)*(hi8 Y (k+1)/W^(k/8)%W)=W^(k/8)*w:=rfl
  rw[e10,e8]at hvs
  have e9:hi8 Y (k+1)+256^k*(Y/256^k%256)=hi8 Y (k+1)+256^k*x:=rfl
  rw[e9]
  generalize W^(k/8)*w=p1 at *
  generalize 256^k*x=p2 at *
  omega
end Go.Proofs.YtndhfbecpghinaaGreat.Num
namespace Go.Proofs.YtndhfbecpghinaaGreat.Num
theorem W_2:W=2^64:=by decide
theorem J6(A i:Nat):((A/W^(i/64)%W) >>> (i%64))%2=A/2^i%2:=by
 have hk:=Nat.div_add_mod i 64
 have hr:i%64<64:=Nat.mod_lt _ (by decide)
 have e1:A/2^i=A/W^(i/64)/2^(i%64):=by
  conv=>lhs;rw[← hk,Nat.pow_add,Nat.pow_mul,← W_2,← Nat.div_div_eq_div_mul]
 rw[e1]
 generalize A/W^(i/64)=z
 rw[Nat.shiftRight_eq_div_pow]
 have e3:W=2^(i%64)*(2*2^(63-i%64)):=by
  rw[W_2,← Nat.pow_succ',← Nat.pow_add,show i%64+(63-i%64+1)=64 by omega]
 rw[e3,Nat.mod_mul_right_div_self,Nat.mod_mul_right_mod]
theorem mz(A i:Nat):A/2^i=2*(A/2^(i+1))+A/2^i%2:=by
 have:=Nat.div_add_mod (A/2^i) 2
 rw[Nat.div_div_eq_div_mul,← Nat.pow_succ]at this
 exact this.symm
end Go.Proofs.YtndhfbecpghinaaGreat.Num
namespace Go.Proofs.YtndhfbecpghinaaGreat.L
open Go Go.Proofs
set_option maxRecDepth 100000
section
variable {P:Program} {c:Cx} {n:Nn} {l:Sl} {W:List Res} {B Q:Exit→Act→World→Prop}
theorem ja{x:Code}(h:Go c n l W (x.wp P (Af P (Exit.noGoto B) []))):Go c n l W ((Code.scope x).wp P (Af P B [])):=
 fun a w ha hw=>wp_scope_straight (wp_mono (h a w ha hw) fun e a w hq=>by cases e <;> exact hq)
theorem di(h:Go c n l W (Q .ret)):Go c n l W (Exit.noGoto Q .ret):=h
variable {ops:Array Oper} {rest:List Oper} {d:Nat} {T:TypeId} {pos:String} {after:Array Edge}
theorem wl{k:IntKind}{m:Nat}{x y:Operand}{a0 b0:Nat}{xt yt:TypeId}(hx:ev l x=some (N k a0))(hy:ev l y=some (N k b0))(hm:ub k=some m)(h0:0<b0)(hb:a0<m)
  (hn:Nat.blt d n.sz=true) (hk:Go c n ((d,N k (a0/b0))::l) W (wpList P ops Q rest)):
  Go c n l W (wpList P ops Q (⟨some d,.binOp .quo xt x y yt,T,pos,after,none⟩::rest)):=
 aw rfl rfl hn (fun a w ha _=>by
  have e:(a0:Int).tdiv b0=((a0/b0:Nat):Int):=by rw[Int.tdiv_eq_ediv_of_nonneg (by omega)];simp
  have hq:a0/b0≤a0:=Nat.div_le_self _ _
  have h:k.wrap ((a0:Int)/(b0:Int))=(a0:Int)/b0:=by
   have:=eL hm (a0/b0)
   rw[Nat.mod_eq_of_lt (by omega)]at this
   simpa using this
  have hz':¬(b0=0):=by omega
  simp[execOp,ha.ev hx,ha.ev hy,eqGuard,binOp,Op.intDiv,hz',e,h]) hk
theorem Nv{k:IntKind}{x y:Operand}{a0 b0:Nat}{xt yt:TypeId}(hx:ev l x=some (N k a0))(hy:ev l y=some (N k b0))(h0:0<b0)
  (hn:Nat.blt d n.sz=true) (hk:Go c n ((d,N k (a0%b0))::l) W (wpList P ops Q rest)):
  Go c n l W (wpList P ops Q (⟨some d,.binOp .rem xt x y yt,T,pos,after,none⟩::rest)):=
 aw rfl rfl hn (fun a w ha _=>by
  have e:(a0:Int).tmod b0=((a0%b0:Nat):Int):=by rw[Int.tmod_eq_emod_of_nonneg (by omega)];simp
  have hz':¬(b0=0):=by omega
  simp[execOp,ha.ev hx,ha.ev hy,eqGuard,binOp,Op.intDiv,hz',e]) hk
theorem wa{x y:Operand}{s:ByteArray}{k:IntKind}{i:Nat}{t:TypeId}(f:Nat→Nat)(hx:ev l x=some (.string s))(hy:ev l y=some (N k i))(ht:P.underlying t=some .string)(hi:i<256)(hs:s.size=256)
  (hv:(List.range 256).all (fun j=>(s.data.getD j 0).toNat==f j)=true) (hn:Nat.blt d n.sz=true) (hk:Go c n ((d,N .u8 (f i))::l) W (wpList P ops Q rest)):
  Go c n l W (wpList P ops Q (⟨some d,.index t x y,T,pos,after,none⟩::rest)):=
 aw rfl rfl hn (fun a w ha _=>by
  have h:=run_index_string (P:=P) w t s k (Int.ofNat i) ht
  have h1:(0:Int)≤Int.ofNat i∧Int.ofNat i<s.size:=⟨Int.natCast_nonneg i,by rw[hs];show(i:Int)<256;omega⟩
  rw[dif_pos h1]at h
  have hf:=List.all_eq_true.1 hv i (List.mem_range.2 hi)
  have e:(s[(Int.ofNat i).toNat]'(by have:=h1.2;rw[hs]at this ⊢;simp at this ⊢;omega)).toNat=f i:=by
   rw[← eq_of_beq hf]
   have hd:i<s.data.size:=by have:s.data.size=s.size:=rfl;omega
   rw[Array.getD_eq_getD_getElem?,Array.getElem?_eq_getElem hd];rfl
  simp only[execOp,ha.ev hx,ha.ev hy,Sem.run_bind,h,Result.andThen_ok,e];rfl) hk
theorem wg(h:Go c n l W (Q .normal)):Go c n l W (Exit.noGoto Q .normal):=h
end
section
variable {P:Program} {c:Cx} {n:Nn} {l:Sl} {W:List Res} {B:Exit→Act→World→Prop} {k:List Fr}
theorem FB{x:Code}(h:Go c n l W (x.wp P (Af P (Exit.noGoto (Af P B k)) []))):Go c n l W ((Code.scope x).wp P (Af P B k)):=
 fun a w ha hw=>wp_scope_straight (wp_mono (h a w ha hw) fun e a w hq=>by cases e <;> exact hq)
theorem Bj(h:Go c n l W (B .ret)):Go c n l W (Exit.noGoto (Af P B k) .ret):=by
 show Go c n l W (Af P B k .ret)
 rw[qf];exact h
theorem Xr{fn:Func}{t u v:Tmp}(h:fn.results = #[.tmp t,.tmp u,.tmp v])(tmps:Array Value)(P:Program)(w:World):
  (results fn tmps).run P w = .ok (.tuple #[tmps.getD t undef,tmps.getD u undef,tmps.getD v undef]) w:=by
 simp[results,h]
theorem Ze3{t u x:Nat}{fn:Func}{R:Ending→World→Prop}{v v' v2:Value}(hR:∀w,SatW c W w→R (.returned (.tuple #[v,v',v2])) w)
  (hres:fn.results = #[.tmp t,.tmp u,.tmp x]:=by rfl) (hv:lk l t=some v:=by rfl) (hv':lk l u=some v':=by rfl) (hv2:lk l x=some v2:=by rfl) (hD:n.df=[]:=by rfl):Go c n l W (bodyPost P fn R .ret):=
 fun a w ha hw=>bodyPost_ret (Xr hres _ _ _) (ha.dfr.trans hD) (by
  have h1:=ha.at_ t v hv
  have h2:=ha.at_ u v' hv'
  have h3:=ha.at_ x v2 hv2
  rw[Array.getD_eq_getD_getElem?,Array.getD_eq_getD_getElem?,Array.getD_eq_getD_getElem?,h1,h2,h3];exact hR w hw)
end
theorem RdC.subC{c:Cx}{s:Value}{k:IntKind}{ys:List Nat}{lo hi:Nat}(h:RdC c s (ys.map (N k)))(h1:lo≤hi)(h2:hi≤ys.length):RdC c (L.sub s lo hi) (((ys.take hi).drop lo).map (N k)):=by
 have hs:=h.rd.sub (lo:=lo) (hi:=hi) h1 (by simpa using h2)
 have e:((ys.map (N k)).take hi).drop lo=((ys.take hi).drop lo).map (N k):=by rw[← List.map_take,← List.map_drop]
 rw[e]at hs
 refine⟨hs,fun i hi'=>?_⟩
 obtain⟨a,cap,hse,hc,hn,hsp⟩:=h.rd.shape
 have hl:((ys.take hi).drop lo).length=hi-lo:=by simp;omega
 rw[List.length_map,hl]at hi'
 simp only[List.length_map]at hc hn hse
 have ho:=h.out (lo+i) (by simp;omega)
 subst hse
 cases a with
 | none=>have:=(hn rfl).1;simp at this;subst this;simp at h2;omega
 | some a0=>
  have hne:¬cap=lo:=by omega
  have hb:∀(x:Addr)(j:Nat),(x.add j).block=x.block:=fun x j=>by unfold Addr.add;split <;> rfl
  simp only[ea,hb]at ho
  simp only[L.sub,if_neg hne,Option.map_some,ea,hb]
  exact ho
section
variable {P:Program} {c:Cx} {n:Nn} {l:Sl} {W:List Res} {B:Exit→Act→World→Prop} {k:List Fr}
theorem fW{ι:Type}{id:Nat}{x:Code}(I:ι→Prop)(lm:ι→Sl)(Wm:ι→List Res)
  (h1:Go c n l W (x.wp P (Af P B (.blk id :: .inv (Met c n I lm Wm)::k))))
  (h2:∀j,I j→Go c n (lm j) (Wm j) (Af P B k .normal)):Go c n l W ((Code.block id x).wp P (Af P B k)):=
 fun a w ha hw=>wp_block (wp_mono (h1 a w ha hw) fun e a w hq=>by
  have key:∀a w,Met c n I lm Wm a w→Af P B k .normal a w:=fun a w ⟨j,hj,hA,hW⟩=>h2 j hj a w hA hW
  cases e with
  | exit id'=>
   simp only[Exit.inBlock]
   split
   ·rename_i h;exact key _ _ (hq.1 h)
   ·rename_i h;exact hq.2 h
  | normal=>exact key _ _ hq
  | _=>exact hq)
variable {ops:Array Oper} {Q:Exit→Act→World→Prop} {rest:List Oper} {d:Nat} {T:TypeId} {pos:String} {after:Array Edge}
theorem v7{x y:Operand}{s:Value}{xs:List Value}{lo:Nat}{dT sT E U:TypeId}{R:List Res}(hx:ev l x=some (sub s lo xs.length))(hy:ev l y=some s)(hf:Find W (.sl s xs U) R)(hlo:lo<xs.length)
  (ht:P.underlying dT=some (.slice E)) (hs:ay P E=some 1) (hys:∀v∈xs,v.oneCell'=true) (hn:Nat.blt d n.sz=true)
  (hk:Go c n ((d,N .i64 (xs.length-lo))::l) (.sl s (xs.take lo++xs.take (xs.length-lo)) U::R) (wpList P ops Q rest)):
  Go c n l W (wpList P ops Q (⟨some d,.call { callee:=.builtin .copy,args:=#[x,y],argTypes:=#[dT,sT] },T,pos,after,none⟩::rest)):=
 fi rfl rfl hn (Φ:=fun u V=>u=N .i64 (xs.length-lo)∧V = .sl s (xs.take lo++xs.take (xs.length-lo)) U::R)
  (fun a w ha hw=>by
   have hY:=RdW.own (c:=c) hf w hw
   have hw:=hw.perm hf.perm
   rcases hw.holds _ (List.mem_cons_self ..)with⟨rfl,rfl⟩ | ⟨b,off,cap,pre,post,fz,hs'⟩
   ·simp at hlo
   ·obtain⟨rfl,g1,g2,g3,g4,g5⟩:=hs'
    have hfY:=eD (P:=P) hY (k:=xs.length-lo) (by omega)
    have hne:¬cap=lo:=by omega
    have hfz:¬fz.1<fz.2∨(pre++xs++post).length≤fz.1:=by
     by_cases hf:fz.1<fz.2
     ·exact .inr (g5 (by omega))
     ·exact .inl hf
    have hst:∀(vs:List Value)(i0:Nat)(cur:List Value)(w:World),w.heap[b]?=some (.cells cur.toArray U fz)→cur.length=(pre++xs++post).length→off+lo+i0+vs.length≤cur.length→(∀v∈vs,v.oneCell'=true) →
      (storeCells ⟨b,off+lo,none⟩ vs i0).run P w = .ok () (w.setRow b (cur.take (off+lo+i0)++vs++cur.drop (off+lo+i0+vs.length)).toArray):=by
     intro vs
     induction vs with
     | nil=>
      intro i0 cur w hh hl hle h1v
      simp only[List.append_nil,List.length_nil,Nat.add_zero,List.take_append_drop]
      rw[setRow_self w b _ U fz hh];rfl
     | cons v r ih=>
      intro i0 cur w hh hl hle h1v
      simp only[List.length_cons]at hle
      have hlt:off+lo+i0<cur.length:=by omega
      have hcell:w.cell? ⟨b,off+lo+i0,none⟩=some cur[off+lo+i0]:=by simp[World.cell?,hh,hlt]
      have hfro:w.frozen? ⟨b,off+lo+i0,none⟩=false:=by
       simp only[World.frozen?,hh]
       rcases hfz with h | h
       ·simp;omega
       ·simp;omega
      have hs1:(store ((⟨b,off+lo,none⟩:Addr).add i0) v).run P w = .ok () (w.setRow b (cur.set (off+lo+i0) v).toArray):=by
       rw[cz,run_store P w _ v _ (h1v v (by simp)),hcell]
       simp[hfro,setCell_eq_setRow w b _ cur.toArray U fz v hh]
      have hr:=ih (i0+1) (cur.set (off+lo+i0) v) (w.setRow b (cur.set (off+lo+i0) v).toArray) (setRow_heap w b _ _ U fz hh) (by simpa using hl) (by simp;omega) (fun u hu=>h1v u (by simp[hu]))
      have e:=list_seg_step cur (off+lo+i0) v r (by omega)
      simp only[storeCells,Sem.run_bind,hs1,Result.andThen_ok,hr,setRow_setRow]
      congr 3
    have htl:(xs.take (xs.length-lo)).length=xs.length-lo:=by simp
    have hst':=hst (xs.take (xs.length-lo)) 0 (pre++xs++post) w g4 rfl (by rw[htl];simp;omega) (fun v hv=>hys v (List.mem_of_mem_take hv))
    rw[htl]at hst'
    have hcur:(pre++xs++post).take (off+lo+0)++xs.take (xs.length-lo)++(pre++xs++post).drop (off+lo+0+(xs.length-lo))=pre++(xs.take lo++xs.take (xs.length-lo))++post:=by
     subst g3
     rw[show pre.length+lo+0+(xs.length-lo)=(pre++xs).length by simp;omega,List.drop_left' rfl,Nat.add_zero,List.append_assoc pre xs,List.take_append,List.take_of_length_le (by omega),Nat.add_sub_cancel_left,List.take_append_of_le_length (by omega)]
     simp
    rw[hcur]at hst'
    have hl2:(xs.take lo++xs.take (xs.length-lo)).length=xs.length:=by simp;omega
    refine⟨_,_,_,?_,ce hw (r':=.sl (.slice (some ⟨b,off,none⟩) xs.length cap) (xs.take lo++xs.take (xs.length-lo)) U) rfl rfl g4 (fun w' h=>.inr ⟨b,off,cap,pre,post,fz,by rw[hl2],by rw[hl2];exact g1,by rw[hl2];exact g2,g3,h,fun hf=>by have:=g5 (by omega);simp only[List.length_append,hl2]at this ⊢;exact this⟩),rfl,rfl⟩
    have hlenY:(Builtin.lenOf (Value.slice (some ⟨b,off,none⟩) xs.length cap)).run P w = .ok xs.length w:=rfl
    have hmin:min xs.length (xs.length-lo)=xs.length-lo:=by omega
    simp[execOp,ha.ev hx,ha.ev hy,resolve,invoke,builtin,Builtin.copy_,run_underlying ht,aq hs,hlenY,sub,hne,cz,hmin,hfY,hst',goInt])
  (fun u V ⟨hu,hV⟩=>by subst hu;subst hV;exact hk)
theorem sL{x y:Operand}{s:Value}{kk:IntKind}{xs:List Nat}{lo:Nat}{dT sT E U:TypeId}{R:List Res}(hx:ev l x=some (sub s lo xs.length))(hy:ev l y=some s)(hf:Find W (.sl s (xs.map (N kk)) U) R)(hlo:lo<xs.length)
  (ht:P.underlying dT=some (.slice E)) (hs:ay P E=some 1) (hn:Nat.blt d n.sz=true)
  (hk:Go c n ((d,N .i64 (xs.length-lo))::l) (.sl s ((xs.take lo++xs.take (xs.length-lo)).map (N kk)) U::R) (wpList P ops Q rest)):
  Go c n l W (wpList P ops Q (⟨some d,.call { callee:=.builtin .copy,args:=#[x,y],argTypes:=#[dT,sT] },T,pos,after,none⟩::rest)):=
 v7 (xs:=xs.map (N kk)) (lo:=lo) (by simpa using hx) hy hf (by simpa using hlo) ht hs (by simp[Value.oneCell']) hn (by simpa[List.map_take]using hk)
end
section
attribute [local irreducible] Code.wp wpList Af bodyPost L.Go
open Num
theorem zV(x y c:Nat)(hc:c≤1):D0 Tryz.prog 99 [N .u64 x,N .u64 y,N .u64 c] (.tuple [N .u64 ((x+y+c)%18446744073709551616),N .u64 ((x+y+c)/18446744073709551616)].toArray):=
 Eb Tryz.func99 (by kernel_rfl) (by kernel_rfl) (by kernel_rfl) (by kernel_rfl) x y c hc
theorem wn(x y c:Nat)(hc:c≤1):D0 Tryz.prog 104 [N .u64 x,N .u64 y,N .u64 c] (.tuple [N .u64 ((x+18446744073709551616-y-c)%18446744073709551616),N .u64 (if x<y+c then 1 else 0)].toArray):=
 Ec Tryz.func104 (by kernel_rfl) (by kernel_rfl) (by kernel_rfl) (by kernel_rfl) x y c hc
theorem Lh(x y:Nat):D0 Tryz.prog 99 [N .u64 x,N .u64 y,N .u64 0] (.tuple [N .u64 ((x+y)%18446744073709551616),N .u64 ((x+y)/18446744073709551616)].toArray):=zV x y 0 (by decide)
theorem Gg(x:Nat):x%18446744073709551616 &&& 4294967295%18446744073709551616=x%4294967296:=by
 have:=Nat.and_two_pow_sub_one_eq_mod (x%18446744073709551616) 32
 rw[show(4294967295:Nat)%18446744073709551616=2^32-1 from rfl,this];omega
theorem Jl(x:Nat):x >>> 32=x/4294967296:=Nat.shiftRight_eq_div_pow x 32
set_option maxHeartbeats 1000000 in
theorem rk(x y:Nat)(hx:x<18446744073709551616)(hy:y<18446744073709551616):
  Spec Tryz.prog 131 [N .u64 x,N .u64 y] ai [] (IsV (.tuple [N .u64 (x*y/18446744073709551616),N .u64 (x*y%18446744073709551616)].toArray)):=by
 refine ad Tryz.func131 rfl rfl rfl fun w _=>?_
 obtain⟨h1,h2,h3,h4⟩:=Ij x y hx hy
 have hxm:x%18446744073709551616=x:=Nat.mod_eq_of_lt hx
 have hym:y%18446744073709551616=y:=Nat.mod_eq_of_lt hy
 repeat (first|refine Z01 ?_|refine Z02 ?_|refine Z03 ?_|refine Z04 ?_|refine Z05 ?_|refine Z06 ?_|refine Z07 ?_|refine Z08 ?_|refine Z09 ?_|refine Z10 ?_|refine Z11 ?_|refine Z12 ?_|refine Z13 ?_|refine Z14 ?_|refine Z33 ?_|refine Z35 ?_|refine Z40 ?_|refine Z42 ?_)
 refine Ze2 fun _ hw=>aa hw SubW.nil ⟨?_,rfl⟩
 refine congrArg (fun z=>Value.tuple [N .u64 z,N .u64 (x*y%18446744073709551616)].toArray) ?_
 simp only[Gg,Jl]
 have h5:x*y/18446744073709551616<18446744073709551616:=by have:=oo hx hy;omega
 exact EI h1 h2 h3 h4 h5
/-- What is left to show. -/
structure Rm (p:Prop):Prop where
 h:p
theorem y_0{a b:Prop}(k:b)(h:Rm b→a:=by intro k;(first|refine Z01 ?_|refine Z02 ?_|refine Z03 ?_|refine Z04 ?_|refine Z05 ?_|refine Z06 ?_|refine Z07 ?_|refine Z08 ?_|refine Z09 ?_|refine Z10 ?_|refine Z11 ?_|refine Z12 ?_|refine Z13 ?_|refine Z14 ?_|refine Z17 ?_|refine Z18 ?_|refine Z20 ?_|refine Z21 ?_|refine Z22 ?_|refine Z23 ?_|refine Z24 ?_|refine Z26 ?_|refine Z27 ?_|refine Z67 ?_);exact k.h):a:=h ⟨k⟩
theorem pF(s:Value)(xs:List Nat)(i:Nat)(_:xs.length<4294967296):
  Spec Tryz.prog 122 [s,N .i64 i] (fun w=>Rd w s (xs.map (N .u64))) [] (IsV (N .u64 (xs.getD i 0))):=by
 refine ad Tryz.func122 rfl rfl rfl fun w hr=>?_
 have hr:=RdC.mk0 hr
 repeat (first|refine y_0 ?_)
 refine an (by rfl) (fun h=>?_) (fun h=>?_)
 ·repeat (first|refine y_0 ?_)
  refine Ze1 fun _ hw=>aa hw SubW.nil ⟨?_,rfl⟩
  rfl
 ·repeat (first|refine y_0 ?_)
  refine Ze1 fun _ hw=>aa hw SubW.nil ⟨?_,rfl⟩
  rw[xu (by omega)]
end
section
attribute [local irreducible] Code.wp wpList Af bodyPost L.Go
open Num
attribute [local irreducible] W
theorem y_1{a b:Prop}(k:b)(h:Rm b→a:=by intro k;(first|refine Z01 ?_|refine Z02 ?_|refine Z03 ?_|refine Z04 ?_|refine Z05 ?_|refine Z06 ?_|refine Z07 ?_|refine Z08 ?_|refine Z09 ?_|refine Z10 ?_|refine Z11 ?_|refine Z12 ?_|refine Z13 ?_|refine Z14 ?_|refine Z16 ?_|refine Z17 ?_|refine Z18 ?_|refine Z20 ?_|refine Z21 ?_|refine Z60 ?_|refine Z71 ?_);exact k.h):a:=h ⟨k⟩
set_option maxHeartbeats 1000000 in
theorem mA(s t:Value)(xs ys:List Nat)(hx:Lt 18446744073709551616 xs)(hy:Lt 18446744073709551616 ys)(hl1:xs.length<16777216)(hl2:ys.length<16777216):
  Spec Tryz.prog 103 [s,t] (fun w=>Rd w s (xs.map (N .u64))∧Rd w t (ys.map (N .u64))) [] (IsV (.int .i64 (vH (V xs) (V ys)))):=by
 refine ad Tryz.func103 rfl rfl rfl fun w hr=>?_
 have hr1:=RdC.mk0 hr.1
 have hr2:=RdC.mk0 hr.2
 repeat (first|refine ja ?_|refine ic ?_|refine Z01 ?_|refine Z02 ?_|refine Z03 ?_|refine Z04 ?_|refine Z05 ?_|refine Z06 ?_|refine Z07 ?_|refine Z08 ?_|refine Z09 ?_|refine Z10 ?_|refine Z11 ?_|refine Z12 ?_|refine Z13 ?_|refine Z14 ?_|refine Z16 ?_|refine Z17 ?_|refine Z18 ?_|refine Z20 ?_|refine Z21 ?_|refine Z60 ?_|refine Z71 ?_)
 obtain⟨n,hn⟩:∃n,n=max xs.length ys.length:=⟨_,rfl⟩
 rw[← hn]
 have hA:V xs<W^n:=kC hx (by omega)
 have hB:V ys<W^n:=kC hy (by omega)
 refine az (ι:=Nat) (fun j=>j≤n∧V xs/W^j=V ys/W^j) (fun j=>[(0,s),(1,t),(5,.int .i64 ((j:Int)-1))]) (fun j=>[]) (fun j=>j) n ⟨Nat.le_refl _,by rw[Nat.div_eq_of_lt hA,Nat.div_eq_of_lt hB]⟩ sbq sw ?_
 rintro j ⟨hj,he⟩
 repeat (first|refine y_1 ?_)
 refine an (by rfl) (fun h=>?_) (fun h=>?_)
 ·have h0:(0:Int)≤(j:Int)-1:=h
  obtain⟨i,rfl⟩:∃i,j=i+1:=⟨j-1,by omega⟩
  rw[show((i+1:Nat):Int)-1=Int.ofNat i by simp]
  repeat (first|refine af (by rfl) (by rfl) (by rfl) (pF s xs i (by omega)) (RdW.old hr1) (by rfl) ?_|refine af (by rfl) (by rfl) (by rfl) (pF t ys i (by omega)) (RdW.old hr2) (by rfl) ?_|refine y_1 ?_)
  rw[cR hx,cR hy]
  refine an (by rfl) (fun h1=>?_) (fun h1=>?_)
  ·repeat (first|refine y_1 ?_)
   refine ao i ⟨by omega,IB he h1⟩ (by omega) ?_ sw
   rw[show((i:Int)-1)=Int.ofNat i-Int.ofNat 1 from rfl]
   exact sbq
  ·repeat (first|refine y_1 ?_)
   refine an (by rfl) (fun h2=>?_) (fun h2=>?_)
   ·repeat (first|with_reducible refine di ?_|refine y_1 ?_)
    refine Ze1 fun _ hw=>aa hw SubW.nil ⟨?_,rfl⟩
    rw[pU (x5 he h2)]
   ·repeat (first|with_reducible refine di ?_|refine y_1 ?_)
    refine Ze1 fun _ hw=>aa hw SubW.nil ⟨?_,rfl⟩
    rw[pT (x5 he.symm (by omega))];rfl
 ·have h0:¬(0:Int)≤(j:Int)-1:=h
  have hj0:j=0:=by omega
  subst hj0
  repeat (first|with_reducible refine di ?_|refine y_1 ?_)
  refine Ze1 fun _ hw=>aa hw SubW.nil ⟨?_,rfl⟩
  rw[vI (by simpa using he)];rfl
end
section
attribute [local irreducible] Code.wp wpList Af bodyPost L.Go
open Num
theorem y_2{a b:Prop}(k:b)(h:Rm b→a:=by intro k;(first|refine Z01 ?_|refine Z02 ?_|refine Z03 ?_|refine Z04 ?_|refine Z05 ?_|refine Z06 ?_|refine Z07 ?_|refine Z08 ?_|refine Z09 ?_|refine Z10 ?_|refine Z11 ?_|refine Z12 ?_|refine Z13 ?_|refine Z14 ?_|refine Z15 ?_|refine Z17 ?_|refine Z18 ?_|refine Z42 ?_|refine Z44 ?_|refine Z45 ?_|refine Z57 ?_|refine Z74 ?_);exact k.h):a:=h ⟨k⟩
theorem y_3{a b:Prop}(k:b)(h:Rm b→a:=by intro k;refine wa bl (by rfl) (by rfl) (by rfl) (by omega) (by kernel_rfl) (by kernel_rfl) (by rfl) ?_;exact k.h):a:=h ⟨k⟩
theorem px{a b:Prop}(k:b)(h:Rm b→a:=by intro k;(first|refine y_3 ?_|refine Z01 ?_|refine Z02 ?_|refine Z03 ?_|refine Z04 ?_|refine Z05 ?_|refine Z06 ?_|refine Z07 ?_|refine Z08 ?_|refine Z09 ?_|refine Z10 ?_|refine Z11 ?_|refine Z12 ?_|refine Z13 ?_|refine Z14 ?_|refine Z15 ?_|refine Z17 ?_|refine Z18 ?_|refine Z42 ?_|refine Z44 ?_|refine Z45 ?_|refine Z57 ?_|refine Z74 ?_);exact k.h):a:=h ⟨k⟩
theorem AA(x:Nat)(hx:x<18446744073709551616):Spec Tryz.prog 167 [N .u64 x] ai [] (IsV (N .i64 (bl x))):=by
 refine ad Tryz.func167 rfl rfl rfl fun w _=>?_
 repeat (first|refine y_2 ?_)
 refine an (by rfl) (fun h32=>?_) (fun h32=>?_)
 ·have e32:=gS x 32 h32
  have l32:x >>> 32<4294967296:=by rw[Nat.shiftRight_eq_div_pow];omega
  repeat (first|refine y_2 ?_)
  refine an (by rfl) (fun h16=>?_) (fun h16=>?_)
  ·have e16:=gS (x >>> 32) 16 h16
   have l16:x >>> 32 >>> 16<65536:=by rw[Nat.shiftRight_eq_div_pow (x >>> 32)];omega
   repeat (first|refine y_2 ?_)
   refine an (by rfl) (fun h8=>?_) (fun h8=>?_)
   ·have e8:=gS (x >>> 32 >>> 16) 8 (by omega)
    have l8:(x >>> 32 >>> 16) >>> 8<256:=by rw[Nat.shiftRight_eq_div_pow];omega
    have hx8:(x >>> 32 >>> 16) >>> 8%256=(x >>> 32 >>> 16) >>> 8:=Nat.mod_eq_of_lt (by omega)
    have hbl:=ll ((x >>> 32 >>> 16) >>> 8) 8 (by omega)
    repeat (first|rw[hx8]|refine px ?_)
    refine Ze1 fun _ hw=>aa hw SubW.nil ⟨?_,rfl⟩
    exact congrArg (N .i64) (by omega)
   ·have hx8:x >>> 32 >>> 16%256=x >>> 32 >>> 16:=Nat.mod_eq_of_lt (by omega)
    have hbl:=ll (x >>> 32 >>> 16) 8 (by omega)
    repeat (first|rw[hx8]|refine px ?_)
    refine Ze1 fun _ hw=>aa hw SubW.nil ⟨?_,rfl⟩
    exact congrArg (N .i64) (by omega)
  ·repeat (first|refine y_2 ?_)
   refine an (by rfl) (fun h8=>?_) (fun h8=>?_)
   ·have e8:=gS (x >>> 32) 8 (by omega)
    have l8:(x >>> 32) >>> 8<256:=by rw[Nat.shiftRight_eq_div_pow];omega
    have hx8:(x >>> 32) >>> 8%256=(x >>> 32) >>> 8:=Nat.mod_eq_of_lt (by omega)
    have hbl:=ll ((x >>> 32) >>> 8) 8 (by omega)
    repeat (first|rw[hx8]|refine px ?_)
    refine Ze1 fun _ hw=>aa hw SubW.nil ⟨?_,rfl⟩
    exact congrArg (N .i64) (by omega)
   ·have hx8:x >>> 32%256=x >>> 32:=Nat.mod_eq_of_lt (by omega)
    have hbl:=ll (x >>> 32) 8 (by omega)
    repeat (first|rw[hx8]|refine px ?_)
    refine Ze1 fun _ hw=>aa hw SubW.nil ⟨?_,rfl⟩
    exact congrArg (N .i64) (by omega)
 ·repeat (first|refine y_2 ?_)
  refine an (by rfl) (fun h16=>?_) (fun h16=>?_)
  ·have e16:=gS x 16 h16
   have l16:x >>> 16<65536:=by rw[Nat.shiftRight_eq_div_pow];omega
   repeat (first|refine y_2 ?_)
   refine an (by rfl) (fun h8=>?_) (fun h8=>?_)
   ·have e8:=gS (x >>> 16) 8 (by omega)
    have l8:(x >>> 16) >>> 8<256:=by rw[Nat.shiftRight_eq_div_pow];omega
    have hx8:(x >>> 16) >>> 8%256=(x >>> 16) >>> 8:=Nat.mod_eq_of_lt (by omega)
    have hbl:=ll ((x >>> 16) >>> 8) 8 (by omega)
    repeat (first|rw[hx8]|refine px ?_)
    refine Ze1 fun _ hw=>aa hw SubW.nil ⟨?_,rfl⟩
    exact congrArg (N .i64) (by omega)
   ·have hx8:x >>> 16%256=x >>> 16:=Nat.mod_eq_of_lt (by omega)
    have hbl:=ll (x >>> 16) 8 (by omega)
    repeat (first|rw[hx8]|refine px ?_)
    refine Ze1 fun _ hw=>aa hw SubW.nil ⟨?_,rfl⟩
    exact congrArg (N .i64) (by omega)
  ·repeat (first|refine y_2 ?_)
   refine an (by rfl) (fun h8=>?_) (fun h8=>?_)
   ·have e8:=gS (x) 8 (by omega)
    have l8:(x) >>> 8<256:=by rw[Nat.shiftRight_eq_div_pow];omega
    have hx8:(x) >>> 8%256=(x) >>> 8:=Nat.mod_eq_of_lt (by omega)
    have hbl:=ll ((x) >>> 8) 8 (by omega)
    repeat (first|rw[hx8]|refine px ?_)
    refine Ze1 fun _ hw=>aa hw SubW.nil ⟨?_,rfl⟩
    exact congrArg (N .i64) (by omega)
   ·have hx8:x%256=x:=Nat.mod_eq_of_lt (by omega)
    have hbl:=ll (x) 8 (by omega)
    repeat (first|rw[hx8]|refine px ?_)
    refine Ze1 fun _ hw=>aa hw SubW.nil ⟨?_,rfl⟩
    exact congrArg (N .i64) (by omega)
theorem y_4{S1 a b:Prop}(s1:S1)(k:b)(h:S1→Rm b→a:=by intro s1 k;refine af (by rfl) (by rfl) (by rfl) s1 (fun _ _=>trivial) (by rfl) ?_;exact k.h):a:=h s1 ⟨k⟩
theorem EB(x:Nat)(hx:x<18446744073709551616):Spec Tryz.prog 155 [N .u64 x] ai [] (IsV (N .i64 (64-bl x))):=by
 refine ad Tryz.func155 rfl rfl rfl fun w _=>?_
 have hb:=ll x 64 hx
 repeat (first|refine y_4 (AA x hx) ?_|refine Z01 ?_|refine Z02 ?_|refine Z03 ?_|refine Z04 ?_|refine Z05 ?_|refine Z06 ?_|refine Z07 ?_|refine Z08 ?_|refine Z09 ?_|refine Z10 ?_|refine Z11 ?_|refine Z12 ?_|refine Z13 ?_|refine Z14 ?_|refine Z16 ?_|refine Z71 ?_)
 refine Ze1 fun _ hw=>aa hw SubW.nil ⟨?_,rfl⟩
 rfl
theorem y_5{a b:Prop}(k:b)(h:Rm b→a:=by intro k;refine rY (r:=false) (by rfl) (by rfl) (Gm (by first | (simp only[D7];done) | (simp only[D7];omega))) (by rfl) ?_;exact k.h):a:=h ⟨k⟩
theorem y_6{a b:Prop}(k:b)(h:Rm b→a:=by intro k;(first|refine Z01 ?_|refine Z02 ?_|refine Z03 ?_|refine Z04 ?_|refine Z05 ?_|refine Z06 ?_|refine Z07 ?_|refine Z08 ?_|refine Z09 ?_|refine Z10 ?_|refine Z11 ?_|refine Z12 ?_|refine Z13 ?_|refine Z14 ?_|refine Z17 ?_|refine Z18 ?_|refine Z24 ?_|refine Z26 ?_|refine Z27 ?_|refine Z33 ?_|refine Z34 ?_|refine Z35 ?_|refine Z37 ?_|refine Z38 ?_|refine Z40 ?_|refine Z41 ?_|refine Z42 ?_|refine Z43 ?_|refine Z44 ?_|refine Z45 ?_|refine Z49 ?_|refine Z50 ?_|refine Z51 ?_|refine Z52 ?_|refine Z67 ?_|refine Z74 ?_);exact k.h):a:=h ⟨k⟩
theorem y_7{a b:Prop}(k:b)(h:Rm b→a:=by intro k;(first|refine Z24 ?_|refine Z26 ?_|refine Z27 ?_|refine Z67 ?_);exact k.h):a:=h ⟨k⟩
theorem y_8{a b:Prop}(k:b)(h:Rm b→a:=by intro k;refine rY (r:=true) (by rfl) (by rfl) (Gn (by first | (simp only[D6];done) | (simp only[D6];omega))) (by rfl) ?_;exact k.h):a:=h ⟨k⟩
theorem sy{a b:Prop}(k:b)(h:Rm b→a:=by intro k;refine Zqp (by intro _ _ _;(first|refine y_7 ?_);exact Zq) ?_;exact k.h):a:=h ⟨k⟩
set_option maxHeartbeats 4000000 in
theorem Ae(hi lo y:Nat)(hy:hi<y)(hlo:lo<18446744073709551616)(hyW:y<18446744073709551616):
  Spec Tryz.prog 138 [N .u64 hi,N .u64 lo,N .u64 y] ai [] (IsV (.tuple [N .u64 ((hi*18446744073709551616+lo)/y),N .u64 ((hi*18446744073709551616+lo)%y)].toArray)):=by
 refine ad Tryz.func138 rfl rfl rfl fun w _=>?_
 repeat (first|refine y_5 ?_|refine Z01 ?_|refine Z02 ?_|refine Z03 ?_|refine Z04 ?_|refine Z05 ?_|refine Z06 ?_|refine Z07 ?_|refine Z08 ?_|refine Z09 ?_|refine Z10 ?_|refine Z11 ?_|refine Z12 ?_|refine Z13 ?_|refine Z14 ?_|refine Z17 ?_|refine Z18 ?_|refine Z24 ?_|refine Z26 ?_|refine Z27 ?_|refine Z33 ?_|refine Z34 ?_|refine Z35 ?_|refine Z37 ?_|refine Z38 ?_|refine Z40 ?_|refine Z41 ?_|refine Z42 ?_|refine Z43 ?_|refine Z44 ?_|refine Z45 ?_|refine Z49 ?_|refine Z50 ?_|refine Z51 ?_|refine Z52 ?_|refine Z67 ?_|refine Z74 ?_)
 refine an (by rfl) (fun h0=>?_) (fun h0=>?_)
 ·subst h0
  repeat (first|refine y_6 ?_)
  refine au (by rfl) ?_
  repeat (first|(refine Zqf (by intro _ _ _;(first|refine wl (by rfl) (by rfl) (by rfl) (by omega) (by omega) (by rfl) ?_|refine Nv (by rfl) (by rfl) (by omega) (by rfl) ?_|refine Z01 ?_|refine Z02 ?_|refine Z17 ?_|refine Z18 ?_|refine Z33 ?_|refine Z34 ?_|refine Z35 ?_|refine Z37 ?_|refine Z38 ?_|refine Z40 ?_|refine Z41 ?_|refine Z42 ?_|refine Z43 ?_|refine Z44 ?_|refine Z45 ?_|refine Z49 ?_|refine Z50 ?_|refine Z74 ?_);exact Zq) ?_)|refine sy ?_|refine Zqn ?_)
  refine Zq0 ?_ (by kernel_rfl)
  repeat (first|refine y_6 ?_)
  refine Ze2 fun _ hw=>aa hw SubW.nil ⟨?_,rfl⟩
  rw[Nat.zero_mul,Nat.zero_add]
 obtain⟨hb1,hb2,hb3⟩:=Lm y (by omega)
 have hb4:=ll y 64 hyW
 obtain⟨s,hs⟩:∃s,s=64-bl y:=⟨_,rfl⟩
 have hsl:s≤63:=by omega
 obtain⟨Y,hYs⟩:∃Y,Y=y*2^s:=⟨_,rfl⟩
 have hYW:Y<18446744073709551616:=by
  have:=Nat.mul_lt_mul_of_pos_right hb1 (Nat.two_pow_pos s)
  rw[← Nat.pow_add,show bl y+s=64 by omega]at this
  rw[hYs];exact this
 have hYb:9223372036854775808≤Y:=by
  have:=Nat.mul_le_mul_right (2^s) hb2
  rw[← Nat.pow_add,show bl y-1+s=63 by omega]at this
  rw[hYs];exact this
 have hYp:0<Y:=by omega
 obtain⟨v1,hv1⟩:∃v1,v1=Y/4294967296:=⟨_,rfl⟩
 obtain⟨v0,hv0⟩:∃v0,v0=Y%4294967296:=⟨_,rfl⟩
 have hYv:Y=v1*4294967296+v0:=by omega
 have hv1p:0<v1:=by omega
 have hv1l:v1<4294967296:=by omega
 have hv0l:v0<4294967296:=by omega
 obtain⟨u,hu⟩:∃u,u=hi*2^s+lo/2^(64-s):=⟨_,rfl⟩
 obtain⟨u10,hu10'⟩:∃u10,u10=lo*2^s%18446744073709551616:=⟨_,rfl⟩
 obtain⟨hN,huY⟩:=Ir (s:=s) hy hlo (by omega)
 rw[← hu,← hu10']at hN
 rw[← hu,← hYs]at huY
 obtain⟨u1,hu1'⟩:∃u1,u1=u10/4294967296:=⟨_,rfl⟩
 obtain⟨u0,hu0'⟩:∃u0,u0=u10%4294967296:=⟨_,rfl⟩
 have hu10l:u10<18446744073709551616:=by rw[hu10'];exact Nat.mod_lt _ (by decide)
 have hu1:u1<4294967296:=by omega
 have hu0:u0<4294967296:=by omega
 have hu10:u1*4294967296+u0=u10:=by rw[hu1',hu0',Nat.mul_comm];exact Nat.div_add_mod _ _
 have e1:(64-bl y)%18446744073709551616=s:=by omega
 have e2:y <<< s%18446744073709551616=Y:=by rw[Nat.shiftLeft_eq,← hYs,Nat.mod_eq_of_lt hYW]
 have e3:Y >>> 32=v1:=by rw[Jl,hv1]
 have e4:Y%18446744073709551616 &&& 4294967295%18446744073709551616=v0:=by rw[Gg,hv0]
 have hlq:lo/2^(64-s)<2^s:=by
  rw[Nat.div_lt_iff_lt_mul (Nat.two_pow_pos _),← Nat.pow_add,show s+(64-s)=64 by omega];exact hlo
 have hhs:hi*2^s<18446744073709551616:=Nat.lt_of_le_of_lt (by rw[hu];exact Nat.le_add_right _ _) (Nat.lt_trans huY hYW)
 have e5:(64+(18446744073709551616-s%18446744073709551616))%18446744073709551616=64-s:=by omega
 have e6:hi <<< s%18446744073709551616%18446744073709551616 ||| lo >>> (64-s)%18446744073709551616=u:=by
  rw[Nat.shiftLeft_eq,Nat.shiftRight_eq_div_pow,Nat.mod_mod,Nat.mod_eq_of_lt hhs,Nat.mod_eq_of_lt (a:=lo/2^(64-s)) (Nat.lt_of_le_of_lt (Nat.div_le_self _ _) hlo),Mr hlq,hu]
 have e7:lo <<< s%18446744073709551616=u10:=by rw[Nat.shiftLeft_eq,hu10']
 have e8:u10 >>> 32=u1:=by rw[Jl,hu1']
 have e9:u10%18446744073709551616 &&& 4294967295%18446744073709551616=u0:=by rw[Gg,hu0']
 have hwr:=ug (a:=u) (c:=u/v1*v1) (d:=u%v1) (fx _ _) (Nat.lt_trans (Nat.mod_lt _ hv1p) (by omega))
 obtain⟨q1,hq1⟩:∃q1,q1=(u*4294967296+u1)/Y:=⟨_,rfl⟩
 repeat (first|refine y_4 (EB y hyW) ?_|refine ii (by rfl) (by rfl) (show 64-s≤64 by omega) (by rfl) ?_|rw[e1]|rw[e2]|rw[e3]|rw[e4]|rw[e5]|rw[e6]|rw[e7]|rw[e8]|rw[e9]|refine wl (by rfl) (by rfl) (by rfl) hv1p (by omega) (by rfl) ?_|rw[hwr]|refine fW (ι:=Unit) (fun _=>True) (fun _=>[(2,N .u64 Y),(8,N .u64 s),(9,N .u64 v1),(10,N .u64 v0),(11,N .u64 u),(13,N .u64 u1),(14,N .u64 u0),(15,N .u64 q1)]) (fun _=>[]) ?_ ?_|refine y_6 ?_)
 ·clear e1 e2 e3 e4 e5 e6 e7 e8 e9 hwr hN hu10' hu1' hu0' hlq hhs hu hs hb1 hb2 hb3 hb4 hYs hu10 hu10l
  refine az (ι:=Nat×Nat) (fun p=>p.1*v1+p.2=u∧p.2<4294967296∧(u*4294967296+u1)/Y≤p.1)
   (fun p=>[(2,N .u64 Y),(8,N .u64 s),(9,N .u64 v1),(10,N .u64 v0),(11,N .u64 u),(13,N .u64 u1),(14,N .u64 u0),(15,N .u64 p.1),(16,N .u64 p.2)]) (fun p=>[]) (fun p=>p.1) (u/v1,u%v1)
   ⟨(fx _ _).symm,by simp only;have:=Nat.mod_lt u hv1p;omega,by simp only;rw[hYv];exact CO hv1p hu1⟩ sbq sw ?_
  rintro⟨q,r⟩ ⟨hqr,hr,hqq⟩
  simp only at hqr hr hqq ⊢
  have hqle:q≤u:=Nat.le_trans (Nat.le_mul_of_pos_right q hv1p) (by omega)
  by_cases hbig:4294967296≤q
  ·have hlt:=kQ (v0:=v0) (u1:=u1) (by rw[← hYv];exact huY) hqr hu1 (.inl hbig)
   rw[← hYv]at hlt
   have hqpos:0<q:=Nat.lt_of_le_of_lt (Nat.zero_le _) hlt
   have hdq:=nM (q:=q) hqpos (by omega)
   have hrr:(r+v1)%18446744073709551616=r+v1:=Nat.mod_eq_of_lt (by omega)
   have hqr':(q-1)*v1+(r+v1)=u:=by
    obtain⟨k,rfl⟩:∃k,q=k+1:=⟨q-1,by omega⟩
    rw[Nat.add_mul,Nat.one_mul]at hqr
    simp only[Nat.add_sub_cancel];omega
   repeat (first|refine y_8 ?_|refine y_5 ?_|rw[hdq]|rw[hrr]|rw[hp2]|rw[hp3]|refine y_6 ?_)
   refine an (by rfl) (fun hbr=>?_) (fun hbr=>?_)
   ·have hend:q-1=q1:=by rw[hq1,hYv];rw[hYv]at hlt;exact gO (by omega) hqr' (jv (by omega) (by rw[← hYv];exact huY) hqr' hbr) (by omega)
    repeat (first|refine y_6 ?_)
    rw[hend]
    exact ig () trivial sbq sw
   ·repeat (first|refine y_6 ?_)
    exact ao (q-1,r+v1) ⟨hqr',by simp only;omega,by simp only;omega⟩ (by simp only;omega) sbq sw
  ·have hp1:q*v0<18446744073709551616:=Nat.lt_of_le_of_lt (Nat.mul_le_mul (show q≤4294967295 by omega) (show v0≤4294967295 by omega)) (by decide)
   have hp2:q*v0%18446744073709551616=q*v0:=Nat.mod_eq_of_lt hp1
   have hp3:(4294967296*r%18446744073709551616+u1)%18446744073709551616=r*4294967296+u1:=by omega
   by_cases hc:r*4294967296+u1<q*v0
   ·have hlt:=kQ (v0:=v0) (u1:=u1) (by rw[← hYv];exact huY) hqr hu1 (.inr hc)
    rw[← hYv]at hlt
    have hqpos:0<q:=Nat.lt_of_le_of_lt (Nat.zero_le _) hlt
    have hdq:=nM (q:=q) hqpos (by omega)
    have hrr:(r+v1)%18446744073709551616=r+v1:=Nat.mod_eq_of_lt (by omega)
    have hqr':(q-1)*v1+(r+v1)=u:=by
     obtain⟨k,rfl⟩:∃k,q=k+1:=⟨q-1,by omega⟩
     rw[Nat.add_mul,Nat.one_mul]at hqr
     simp only[Nat.add_sub_cancel];omega
    repeat (first|refine y_8 ?_|refine y_5 ?_|rw[hdq]|rw[hrr]|rw[hp2]|rw[hp3]|refine y_6 ?_)
    refine an (by rfl) (fun hbr=>?_) (fun hbr=>?_)
    ·have hend:q-1=q1:=by rw[hq1,hYv];rw[hYv]at hlt;exact gO (by omega) hqr' (jv (by omega) (by rw[← hYv];exact huY) hqr' hbr) (by omega)
     repeat (first|refine y_6 ?_)
     rw[hend]
     exact ig () trivial sbq sw
    ·repeat (first|refine y_6 ?_)
     exact ao (q-1,r+v1) ⟨hqr',by simp only;omega,by simp only;omega⟩ (by simp only;omega) sbq sw
   ·have hend:q=q1:=by rw[hq1,hYv];rw[hYv]at hqq;exact gO (by omega) hqr (by omega) hqq
    repeat (first|refine y_5 ?_|rw[hp2]|rw[hp3]|refine y_6 ?_)
    rw[hend]
    exact ig () trivial sbq sw
 intro _ _
 clear e1 e2 e3 e4 e5 e6 e7 e8 e9 hwr
 have hq1l:q1<4294967296:=by rw[hq1];exact CP huY hu1
 obtain⟨un21,hun21⟩:∃z,z=(u*4294967296+u1)%Y:=⟨_,rfl⟩
 have h21Y:un21<Y:=by rw[hun21];exact Nat.mod_lt _ hYp
 have hw21:=zj (a:=u*4294967296) (b:=u1) (c:=q1*Y) (d:=un21) (by rw[hq1,hun21];exact fx _ _) (by omega)
 have hd1:un21/v1<18446744073709551616:=Nat.lt_of_le_of_lt (Nat.div_le_self _ _) (by omega)
 have hwr:=ug (a:=un21) (c:=un21/v1*v1) (d:=un21%v1) (fx _ _) (Nat.lt_trans (Nat.mod_lt _ hv1p) (by omega))
 obtain⟨q0,hq0⟩:∃q0,q0=(un21*4294967296+u0)/Y:=⟨_,rfl⟩
 repeat (first|rw[hw21]|refine wl (by rfl) (by rfl) (by rfl) hv1p (by omega) (by rfl) ?_|rw[hwr]|refine fW (ι:=Unit) (fun _=>True) (fun _=>[(2,N .u64 Y),(8,N .u64 s),(14,N .u64 u0),(15,N .u64 q1),(17,N .u64 un21),(18,N .u64 q0)]) (fun _=>[]) ?_ ?_|refine y_6 ?_)
 ·clear hwr hN hu10' hu1' hu0' hlq hhs hu hs hb1 hb2 hb3 hb4 hYs hu10 hu10l hq1 hun21 hw21 huY
  refine az (ι:=Nat×Nat) (fun p=>p.1*v1+p.2=un21∧p.2<4294967296∧(un21*4294967296+u0)/Y≤p.1)
   (fun p=>[(2,N .u64 Y),(8,N .u64 s),(9,N .u64 v1),(10,N .u64 v0),(14,N .u64 u0),(15,N .u64 q1),(16,N .u64 p.2),(17,N .u64 un21),(18,N .u64 p.1)]) (fun p=>[]) (fun p=>p.1) (un21/v1,un21%v1)
   ⟨(fx _ _).symm,by simp only;have:=Nat.mod_lt un21 hv1p;omega,by simp only;rw[hYv];exact CO hv1p hu0⟩ sbq sw ?_
  rintro⟨q,r⟩ ⟨hqr,hr,hqq⟩
  simp only at hqr hr hqq ⊢
  have hqle:q≤un21:=Nat.le_trans (Nat.le_mul_of_pos_right q hv1p) (by omega)
  by_cases hbig:4294967296≤q
  ·have hlt:=kQ (v0:=v0) (u1:=u0) (by rw[← hYv];exact h21Y) hqr hu0 (.inl hbig)
   rw[← hYv]at hlt
   have hqpos:0<q:=Nat.lt_of_le_of_lt (Nat.zero_le _) hlt
   have hdq:=nM (q:=q) hqpos (by omega)
   have hrr:(r+v1)%18446744073709551616=r+v1:=Nat.mod_eq_of_lt (by omega)
   have hqr':(q-1)*v1+(r+v1)=un21:=by
    obtain⟨k,rfl⟩:∃k,q=k+1:=⟨q-1,by omega⟩
    rw[Nat.add_mul,Nat.one_mul]at hqr
    simp only[Nat.add_sub_cancel];omega
   repeat (first|refine y_8 ?_|refine y_5 ?_|rw[hdq]|rw[hrr]|rw[hp2]|rw[hp3]|refine y_6 ?_)
   refine an (by rfl) (fun hbr=>?_) (fun hbr=>?_)
   ·have hend:q-1=q0:=by rw[hq0,hYv];rw[hYv]at hlt;exact gO (by omega) hqr' (jv (by omega) (by rw[← hYv];exact h21Y) hqr' hbr) (by omega)
    repeat (first|refine y_6 ?_)
    rw[hend]
    exact ig () trivial sbq sw
   ·repeat (first|refine y_6 ?_)
    exact ao (q-1,r+v1) ⟨hqr',by simp only;omega,by simp only;omega⟩ (by simp only;omega) sbq sw
  ·have hp1:q*v0<18446744073709551616:=Nat.lt_of_le_of_lt (Nat.mul_le_mul (show q≤4294967295 by omega) (show v0≤4294967295 by omega)) (by decide)
   have hp2:q*v0%18446744073709551616=q*v0:=Nat.mod_eq_of_lt hp1
   have hp3:(4294967296*r%18446744073709551616+u0)%18446744073709551616=r*4294967296+u0:=by omega
   by_cases hc:r*4294967296+u0<q*v0
   ·have hlt:=kQ (v0:=v0) (u1:=u0) (by rw[← hYv];exact h21Y) hqr hu0 (.inr hc)
    rw[← hYv]at hlt
    have hqpos:0<q:=Nat.lt_of_le_of_lt (Nat.zero_le _) hlt
    have hdq:=nM (q:=q) hqpos (by omega)
    have hrr:(r+v1)%18446744073709551616=r+v1:=Nat.mod_eq_of_lt (by omega)
    have hqr':(q-1)*v1+(r+v1)=un21:=by
     obtain⟨k,rfl⟩:∃k,q=k+1:=⟨q-1,by omega⟩
     rw[Nat.add_mul,Nat.one_mul]at hqr
     simp only[Nat.add_sub_cancel];omega
    repeat (first|refine y_8 ?_|refine y_5 ?_|rw[hdq]|rw[hrr]|rw[hp2]|rw[hp3]|refine y_6 ?_)
    refine an (by rfl) (fun hbr=>?_) (fun hbr=>?_)
    ·have hend:q-1=q0:=by rw[hq0,hYv];rw[hYv]at hlt;exact gO (by omega) hqr' (jv (by omega) (by rw[← hYv];exact h21Y) hqr' hbr) (by omega)
     repeat (first|refine y_6 ?_)
     rw[hend]
     exact ig () trivial sbq sw
    ·repeat (first|refine y_6 ?_)
     exact ao (q-1,r+v1) ⟨hqr',by simp only;omega,by simp only;omega⟩ (by simp only;omega) sbq sw
   ·have hend:q=q0:=by rw[hq0,hYv];rw[hYv]at hqq;exact gO (by omega) hqr (by omega) hqq
    repeat (first|refine y_5 ?_|rw[hp2]|rw[hp3]|refine y_6 ?_)
    rw[hend]
    exact ig () trivial sbq sw
 intro _ _
 have hr2:=zj (a:=un21*4294967296) (b:=u0) (c:=q0*Y) (d:=(un21*4294967296+u0)%Y) (by rw[hq0];exact fx _ _) (Nat.lt_trans (Nat.mod_lt _ hYp) hYW)
 have hQ0:q0<4294967296:=by rw[hq0];exact CP h21Y hu0
 have hqq:q1*4294967296%18446744073709551616=q1*4294967296:=Nat.mod_eq_of_lt (by omega)
 have hqs:(q1*4294967296+q0)%18446744073709551616=q1*4294967296+q0:=Nat.mod_eq_of_lt (by omega)
 repeat (first|rw[hr2]|rw[hqq]|rw[hqs]|refine ii (by rfl) (by rfl) (show s≤64 by omega) (by rfl) ?_|refine y_6 ?_)
 refine Ze2 fun _ hw=>aa hw SubW.nil ⟨?_,rfl⟩
 obtain⟨g1,g2⟩:=Lv (u:=u) (u1:=u1) (u0:=u0) hYp
 rw[← hq1,← hun21]at g1
 rw[← hun21]at g2
 rw[← hq0]at g1
 rw[hu10,hN,hYs,Nat.mul_div_mul_right _ _ (Nat.two_pow_pos s)]at g1
 rw[hu10,hN,hYs,Nat.mul_mod_mul_right]at g2
 rw[g1,hYs,g2,Nat.shiftRight_eq_div_pow,Nat.mul_div_cancel _ (Nat.two_pow_pos s)]
end
section
attribute [local irreducible] Code.wp wpList Af bodyPost L.Go
open Num
attribute [local simp] ae
theorem y_9{a b:Prop}(k:b)(h:Rm b→a:=by intro k;(first|refine Z01 ?_|refine Z02 ?_|refine Z03 ?_|refine Z04 ?_|refine Z05 ?_|refine Z06 ?_|refine Z07 ?_|refine Z08 ?_|refine Z09 ?_|refine Z10 ?_|refine Z11 ?_|refine Z12 ?_|refine Z13 ?_|refine Z14 ?_|refine Z15 ?_|refine Z16 ?_|refine Z17 ?_|refine Z18 ?_|refine Z19 ?_|refine Z20 ?_|refine Z21 ?_|refine Z22 ?_|refine Z23 ?_|refine Z24 ?_|refine Z26 ?_|refine Z27 ?_|refine Z29 ?_|refine Z30 ?_|refine Z31 ?_|refine Z32 ?_|refine Z33 ?_|refine Z60 ?_|refine Z67 ?_|refine Z71 ?_);exact k.h):a:=h ⟨k⟩
theorem VS{a b:Prop}(k:b)(h:Rm b→a:=by intro k;(first|refine Z24 ?_|refine Z26 ?_|refine Z27 ?_|refine Z67 ?_|refine Z23 ?_|refine Z20 ?_|refine Z21 ?_);exact k.h):a:=h ⟨k⟩
theorem nO{a b:Prop}(k:b)(h:Rm b→a:=by intro k;(first|refine Z29 ?_|refine Z30 ?_|refine Z31 ?_|refine Z32 ?_);exact k.h):a:=h ⟨k⟩
theorem Tz{a b:Prop}(k:b)(h:Rm b→a:=by intro k;refine hO (by rfl) (by rfl) (by rfl) (Lh _ _) (by rfl) ?_;exact k.h):a:=h ⟨k⟩
theorem zJ{a b:Prop}(k:b)(h:Rm b→a:=by intro k;refine Zqp (by intro _ _ _;(first|refine VS ?_);exact Zq) ?_;exact k.h):a:=h ⟨k⟩
theorem fq{a b:Prop}(k:b)(h:Rm b→a:=by intro k;refine Zqe (by intro _ _ _;(first|refine nO ?_);exact Zqq) ?_;exact k.h):a:=h ⟨k⟩
set_option maxHeartbeats 4000000 in
theorem FH(sl sm:Value)(T:TypeId)(ls0 ms:List Nat)(L n M:Nat)(hls0:Lt 18446744073709551616 ls0)(hL0:ls0.length=L)(hm:Lt 18446744073709551616 ms)(hml:ms.length=n)(hn:0<n)(hnL:n<L)(hLb:L<16777216)(hmv':V ms=M)
  (htop:ms.getD (n-1) 0≠0) (hX0W:V ls0<Num.W*M):
  Spec Tryz.prog 125 [sl,sm,N .i64 n] (fun w=>RdC ⟨w,fps [.sl sl (ls0.map (N .u64)) T]⟩ sm (ms.map (N .u64))) [.sl sl (ls0.map (N .u64)) T]
   (fun _ Wr=>Wr=[.sl sl ((D L (V ls0%M)).map (N .u64)) T]):=by
 refine ad Tryz.func125 rfl rfl rfl fun w hrm=>?_
 have hMlo:Num.W^(n-1)≤M:=by rw[← hmv'];exact Hx hm htop
 have hMp:0<M:=Nat.lt_of_lt_of_le (bP _) hMlo
 have hMhi:M<Num.W^n:=by rw[← hmv',← hml];exact uD hm
 repeat (first|refine ja ?_|refine ic ?_|refine Z01 ?_|refine Z02 ?_|refine Z03 ?_|refine Z04 ?_|refine Z05 ?_|refine Z06 ?_|refine Z07 ?_|refine Z08 ?_|refine Z09 ?_|refine Z10 ?_|refine Z11 ?_|refine Z12 ?_|refine Z13 ?_|refine Z14 ?_|refine Z15 ?_|refine Z16 ?_|refine Z17 ?_|refine Z18 ?_|refine Z19 ?_|refine Z20 ?_|refine Z21 ?_|refine Z22 ?_|refine Z23 ?_|refine Z24 ?_|refine Z26 ?_|refine Z27 ?_|refine Z29 ?_|refine Z30 ?_|refine Z31 ?_|refine Z32 ?_|refine Z33 ?_|refine Z60 ?_|refine Z67 ?_|refine Z71 ?_)
 refine az (ι:=List Nat) (fun ls=>ls.length=L∧Lt 18446744073709551616 ls∧V ls%M=V ls0%M∧V ls<Num.W*M) (fun ls=>[(0,sl),(1,sm),(2,N .i64 n)]) (fun ls=>[.sl sl (ls.map (N .u64)) T]) (fun ls=>V ls) ls0 ⟨hL0,hls0,rfl,hX0W⟩ sbq sw ?_
 rintro ls ⟨hL,hls,hX0,hXW⟩
 obtain⟨X,hX⟩:∃X,V ls=X:=⟨_,rfl⟩
 rw[hX]at hX0 hXW
 repeat (first|refine ic ?_|refine af (by rfl) (by rfl) (by rfl) (mA sl sm ls ms hls hm (by omega) (by omega)) (fun w hw=>⟨RdW.own fd w hw,RdW.old hrm w hw⟩) (by rfl) ?_|refine y_9 ?_)
 rw[hX,hmv']
 refine an (by rfl) (fun hge=>?_) (fun hlt=>?_)
 ·have hge:M≤X:=by
   rcases Nat.lt_or_ge X M with h | h
   ·rw[pU h]at hge;exact absurd hge (by decide)
   ·exact h
  have hone:1*M≤X:=by omega
  have htb:=hm.getD (by decide) (n-1)
  have htl:n-1<ms.length:=by omega
  have hnl:n<ls.length:=by omega
  have hn1:n-1<ls.length:=by omega
  have hlb:=hls.getD (by decide) n
  have hlb1:=hls.getD (by decide) (n-1)
  have hlv:=cR hls n
  have hlv1:=cR hls (n-1)
  have hmt:=cR hm (n-1)
  rw[hX]at hlv hlv1
  rw[hmv']at hmt
  have hMtop:M<(ms.getD (n-1) 0+1)*Num.W^(n-1):=by rw[hmt];exact J0 (by rw[show n-1+1=n by omega];exact hMhi)
  have hB1:True:=trivial
  repeat (first|(refine yF ?_;clear hB1)|refine fW (ι:=Nat) (fun q=>q*M≤X∧q<18446744073709551616) (fun q=>[(0,sl),(1,sm),(2,N .i64 n),(6,N .u64 q)]) (fun _=>[.sl sl (ls.map (N .u64)) T]) ?_ ?_|refine y_9 ?_)
  ·repeat (first|refine y_9 ?_)
   refine an (by rfl) (fun h0=>?_) (fun h0=>?_)
   ·repeat (first|refine y_9 ?_)
    exact ig (ls.getD n 0) ⟨by rw[hlv];exact Nat.le_trans (Nat.mul_le_mul (Nat.mod_le _ _) (Nat.le_of_lt hMhi)) (Nat.div_mul_le_self _ _),hlb⟩ sbq sw
   ·have ht1:(ms.getD (n-1) 0+1)%18446744073709551616=ms.getD (n-1) 0+1:=by omega
    repeat (first|rw[ht1]|refine y_9 ?_)
    refine an (by rfl) (fun h1=>?_) (fun h1=>?_)
    ·have hqb:=Sv h1 hlb1
     have hq2:(ls.getD n 0*18446744073709551616+ls.getD (n-1) 0)/(ms.getD (n-1) 0+1)*M≤X:=by
      refine E4 (n:=n-1) hMtop ?_
      have:=FK X (n-1)
      rw[show n-1+1=n by omega,← hlv,← hlv1]at this
      exact this
     repeat (first|refine y_9 ?_)
     refine au (by rfl) ?_
     repeat (first|(refine Zqf (by intro _ _ _;(first|refine af (by rfl) (by rfl) (by rfl) (Ae (ls.getD n 0) (ls.getD (n-1) 0) (ms.getD (n-1) 0+1) h1 hlb1 (by omega)) (fun _ _=>trivial) (by rfl) ?_|refine Z01 ?_|refine Z02 ?_|refine Z15 ?_|refine Z16 ?_|refine Z17 ?_|refine Z18 ?_|refine Z19 ?_|refine Z20 ?_|refine Z21 ?_|refine Z22 ?_|refine Z23 ?_|refine Z33 ?_|refine Z60 ?_|refine Z71 ?_);exact Zq) ?_)|refine zJ ?_|refine fq ?_|refine Zqn ?_)
     refine Zq0 ?_ (by kernel_rfl)
     repeat (first|refine y_9 ?_)
     exact ig _ ⟨hq2,hqb⟩ sbq sw
    ·repeat (first|refine y_9 ?_)
     exact ig 0 ⟨by omega,by decide⟩ sbq sw
  ·rintro q0 ⟨hq0M,hq0W⟩
   obtain⟨q,hqd⟩:∃q,q=max q0 1:=⟨_,rfl⟩
   have hqM:q*M≤X:=by
    rcases Nat.le_total q0 1 with h | h
    ·rw[hqd,Nat.max_eq_right h];exact hone
    ·rw[hqd,Nat.max_eq_left h];exact hq0M
   have hqW:q<18446744073709551616:=by omega
   have hq1:1≤q:=by rw[hqd];exact Nat.le_max_right _ _
   repeat (first|rw[← hqd]|refine y_9 ?_)
   refine az (ι:=Nat) (fun i=>i≤L) (fun i=>[(0,sl),(1,sm),(2,N .i64 n),(6,N .u64 q),(8,N .u64 (bw X (q*M) i)),(9,N .i64 i),(10,N .u64 (q*(M%Num.W^i)/Num.W^i))])
    (fun i=>[.sl sl ((D i (sb X (q*M) i)++ls.drop i).map (N .u64)) T]) (fun i=>L-i) 0 (by omega) (by simp only[Nat.pow_zero,Nat.mod_one,Nat.mul_zero,Nat.zero_div,Ud];exact sbq) (by simp only[D_0,List.drop_zero,List.nil_append];exact sw) ?_
   intro i hi
   have hll:(D i (sb X (q*M) i)++ls.drop i).length=L:=by rw[List.length_append,ae,List.length_drop];omega
   repeat (first|refine y_9 ?_)
   refine an (by rfl) (fun h=>?_) (fun h=>?_)
   ·rw[hll]at h
    have hmi:=hm.getD (by decide) i
    have hmv:=cR hm i
    have hcl:=Mm q M i hqW
    have hc1:=EJ q M i
    have hc2:=EK q M i
    have hbl:=N4 X (q*M) i
    have hgw:=FI (q:=q) (M:=M) hls hL hX h
    have hb1:=oo hqW hmi
    rw[hmv']at hmv
    rw[← hmv]at hc1 hc2
    have hw1:(q*ms.getD i 0%18446744073709551616+q*(M%Num.W^i)/Num.W^i)%18446744073709551616=q*M/Num.W^i%Num.W:=by rw[hc2];show _=_%18446744073709551616;omega
    have hw2:(q*ms.getD i 0/18446744073709551616+(q*ms.getD i 0%18446744073709551616+q*(M%Num.W^i)/Num.W^i)/18446744073709551616)%18446744073709551616=q*(M%Num.W^(i+1))/Num.W^(i+1):=by
     rw[hc1]
     have:q*(M%Num.W^i)/Num.W^i<18446744073709551616:=hcl
     show _=_/18446744073709551616
     generalize q*(M%Num.W^i)/Num.W^i=c at *
     generalize q*ms.getD i 0=z at *
     omega
    have hsc:=t9 X (q*M) i
    repeat (first|refine af (by rfl) (by rfl) (by rfl) (pF sm ms i (by omega)) (RdW.old hrm) (by rfl) ?_|refine y_4 (rk q (ms.getD i 0) hqW hmi) ?_|refine Tz ?_|rw[hw1]|rw[hw2]|rw[hgw]|refine hO (by rfl) (by rfl) (by rfl) (wn _ _ _ hbl) (by rfl) ?_|refine y_9 ?_)
    rw[JR hL h rfl]
    refine ao (i+1) (by omega) (by omega) (by rw[hsc];exact sbq) sw
   ·rw[hll]at h
    have hie:i=L:=by omega
    subst hie
    have hXL:X<Num.W^i:=by rw[← hX,← hL];exact uD hls
    have hval:X-q*M<Num.W^i:=by omega
    rw[JQ hqM hXL,List.drop_eq_nil_of_le (by omega),List.append_nil]
    repeat (first|refine y_9 ?_)
    refine ao (D i (X-q*M)) ⟨ae _ _,dv _ _,by rw[eU hval,Mi hqM,hX0],by rw[eU hval];omega⟩ ?_ sbq sw
    rw[eU hval]
    have:M≤q*M:=Nat.le_mul_of_pos_left M hq1
    omega
 ·have hlt:X<M:=by
   rcases Nat.lt_or_ge X M with h | h
   ·exact h
   ·rcases Nat.eq_or_lt_of_le h with h | h
    ·rw[vI h.symm]at hlt;exact absurd (by decide) hlt
    ·rw[pT h]at hlt;exact absurd (by decide) hlt
  have hfin:ls=D L (V ls0%M):=by
   refine uA hls hL ?_
   rw[hX,← hX0,Nat.mod_eq_of_lt hlt]
  rw[hfin]
  repeat (first|with_reducible refine wg ?_|refine y_9 ?_)
  exact gE rfl fun _ hw=>aa hw (Wout:=[.sl sl ((D L (V ls0%M)).map (N .u64)) T]) (by exact sw) rfl
theorem yZ{ms:List Nat}{n:Nat}(hn:n≤ms.length)(h:∀j,n≤j→ms.getD j 0=0):V (ms.take n)=V ms:=by
 have e:ms=ms.take n++List.replicate (ms.length-n) 0:=by
  apply List.ext_getElem?
  intro i
  rcases Nat.lt_or_ge i n with hi | hi
  ·rw[List.getElem?_append_left (by simp;omega),List.getElem?_take,if_pos hi]
  ·rw[List.getElem?_append_right (by simp;omega),List.getElem?_replicate]
   rcases Nat.lt_or_ge i ms.length with hl | hl
   ·have:=h i hi
    rw[List.getD_eq_getElem?_getD,List.getElem?_eq_getElem hl]at this
    rw[List.getElem?_eq_getElem hl,if_pos (by simp;omega)]
    simpa using this
   ·rw[List.getElem?_eq_none hl,if_neg (by simp;omega)]
 conv=>rhs;rw[e]
 rw[mr,Qp,Nat.mul_zero,Nat.add_zero]
theorem Ka{a b:Prop}(k:b)(h:Rm b→a:=by intro k;(first|refine Z01 ?_|refine Z02 ?_|refine Z03 ?_|refine Z04 ?_|refine Z05 ?_|refine Z06 ?_|refine Z07 ?_|refine Z08 ?_|refine Z09 ?_|refine Z10 ?_|refine Z11 ?_|refine Z12 ?_|refine Z13 ?_|refine Z14 ?_|refine Z15 ?_|refine Z16 ?_|refine Z17 ?_|refine Z18 ?_|refine Z20 ?_|refine Z21 ?_|refine Z22 ?_|refine Z23 ?_|refine Z24 ?_|refine Z26 ?_|refine Z27 ?_|refine Z29 ?_|refine Z30 ?_|refine Z31 ?_|refine Z32 ?_|refine Z49 ?_|refine Z50 ?_|refine Z51 ?_|refine Z52 ?_|refine Z62 ?_|refine Z63 ?_|refine Z67 ?_|refine Z71 ?_|refine Z75 ?_|refine Z76 ?_);exact k.h):a:=h ⟨k⟩
theorem PE{a b:Prop}(k:b)(h:Rm b→a:=by intro k;(first|refine y_5 ?_|refine Z01 ?_|refine Z02 ?_|refine Z03 ?_|refine Z04 ?_|refine Z05 ?_|refine Z06 ?_|refine Z07 ?_|refine Z08 ?_|refine Z09 ?_|refine Z10 ?_|refine Z11 ?_|refine Z12 ?_|refine Z13 ?_|refine Z14 ?_|refine Z15 ?_|refine Z16 ?_|refine Z17 ?_|refine Z18 ?_|refine Z20 ?_|refine Z21 ?_|refine Z22 ?_|refine Z23 ?_|refine Z24 ?_|refine Z26 ?_|refine Z27 ?_|refine Z29 ?_|refine Z30 ?_|refine Z31 ?_|refine Z32 ?_|refine Z49 ?_|refine Z50 ?_|refine Z51 ?_|refine Z52 ?_|refine Z62 ?_|refine Z63 ?_|refine Z67 ?_|refine Z71 ?_|refine Z75 ?_|refine Z76 ?_);exact k.h):a:=h ⟨k⟩
theorem PF{a b:Prop}(k:b)(h:Rm b→a:=by intro k;(first|refine y_8 ?_|refine Z01 ?_|refine Z02 ?_|refine Z03 ?_|refine Z04 ?_|refine Z05 ?_|refine Z06 ?_|refine Z07 ?_|refine Z08 ?_|refine Z09 ?_|refine Z10 ?_|refine Z11 ?_|refine Z12 ?_|refine Z13 ?_|refine Z14 ?_|refine Z15 ?_|refine Z16 ?_|refine Z17 ?_|refine Z18 ?_|refine Z20 ?_|refine Z21 ?_|refine Z22 ?_|refine Z23 ?_|refine Z24 ?_|refine Z26 ?_|refine Z27 ?_|refine Z29 ?_|refine Z30 ?_|refine Z31 ?_|refine Z32 ?_|refine Z49 ?_|refine Z50 ?_|refine Z51 ?_|refine Z52 ?_|refine Z62 ?_|refine Z63 ?_|refine Z67 ?_|refine Z71 ?_|refine Z75 ?_|refine Z76 ?_);exact k.h):a:=h ⟨k⟩
set_option maxHeartbeats 4000000 in
theorem xW(s t:Value)(xs ms:List Nat)(hx:Lt 18446744073709551616 xs)(hm:Lt 18446744073709551616 ms)(hl1:xs.length<1000000)(hl2:ms.length<1000000):
  Spec Tryz.prog 80 [s,t] (fun w=>Rd w s (xs.map (N .u64))∧Rd w t (ms.map (N .u64))) []
   (fun v Wr=>(V ms=0∧v = .tuple [.slice none 0 0,N .i64 30].toArray∧Wr=[])∨(0<V ms∧∃u,v = .tuple [u,N .i64 0].toArray∧Wr=[.sl u ((D ms.length (V xs%V ms)).map (N .u64)) 30])):=by
 refine ad Tryz.func80 rfl rfl rfl fun w hr=>?_
 have hr1:=RdC.mk0 hr.1
 have hr2:=RdC.mk0 hr.2
 repeat (first|refine fW (ι:=Nat) (fun n=>n≤ms.length∧(∀j,n≤j→ms.getD j 0=0)∧(n=0∨ms.getD (n-1) 0≠0)) (fun n=>[(0,s),(1,t),(6,N .i64 n)]) (fun _=>[]) ?_ ?_|refine Ka ?_|refine Z83 fun _=>?_)
 ·refine az (ι:=Nat) (fun n=>n≤ms.length∧∀j,n≤j→ms.getD j 0=0) (fun n=>[(0,s),(1,t),(6,N .i64 n)]) (fun _=>[]) (fun n=>n) ms.length ⟨Nat.le_refl _,fun j hj=>xu hj⟩ sbq sw ?_
  rintro n ⟨hn,hz⟩
  by_cases h0:n=0
  ·repeat (first|refine PE ?_|refine Z83 fun _=>?_)
   exact ig n ⟨hn,hz,.inl h0⟩ sbq sw
  ·have hnl:n-1<ms.length:=by omega
   by_cases hw:ms.getD (n-1) 0=0
   ·repeat (first|refine PF ?_|refine Z83 fun _=>?_)
    refine ao (n-1) ⟨by omega,fun j hj=>?_⟩ (by omega) sbq sw
    rcases Nat.eq_or_lt_of_le hj with h | h
    ·rw[← h];exact hw
    ·exact hz j (by omega)
   ·repeat (first|refine y_8 ?_|rw[decide_eq_false hw]|refine Ka ?_|refine Z83 fun _=>?_)
    exact ig n ⟨hn,hz,.inr hw⟩ sbq sw
 rintro n ⟨hn,hz,htop⟩
 by_cases h0:n=0
 ·repeat (first|refine PF ?_|refine Z83 fun _=>?_)
  refine Ze2 fun _ hw=>aa hw SubW.nil (.inl ⟨?_,rfl,rfl⟩)
  have:=yZ hn hz
  rw[h0,List.take_zero,T5]at this
  exact this.symm
 have htop:ms.getD (n-1) 0≠0:=by rcases htop with h | h;exact absurd h h0;exact h
 obtain⟨M,hM⟩:∃M,V ms=M:=⟨_,rfl⟩
 have hMt:V (ms.take n)=M:=by rw[yZ hn hz,hM]
 have htl:(ms.take n).length=n:=by rw[List.length_take];omega
 have htt:(ms.take n).getD (n-1) 0≠0:=by
  rw[List.getD_eq_getElem?_getD,List.getElem?_take,if_pos (by omega),← List.getD_eq_getElem?_getD];exact htop
 have htb:=hm.take n
 have hMp:0<M:=by rw[← hMt];exact Nat.lt_of_lt_of_le (bP _) (Hx htb htt)
 have hMW:M<Num.W^ms.length:=by rw[← hM];exact uD hm
 rw[hM]
 repeat (first|refine PE ?_|refine Z83 fun _=>?_)
 rename_i u
 obtain⟨L,hL⟩:∃L,L=ms.length:=⟨_,rfl⟩
 refine az (ι:=Nat) (fun j=>j≤xs.length) (fun j=>[(0,s),(1,t),(6,N .i64 n),(7,u),(8,.int .i64 ((j:Int)-1))]) (fun j=>[.sl u ((D (ms.length+1) (V xs/Num.W^j%M)).map (N .u64)) 30]) (fun j=>j) xs.length (Nat.le_refl _) sbq ?_ ?_
 ·rw[Nat.div_eq_of_lt (uD hx),Nat.zero_mod,nS]
  exact sw
 intro j hj
 have hDl:=ae (ms.length+1) (V xs/Num.W^j%M)
 repeat (first|refine Ka ?_|refine Z83 fun _=>?_)
 refine an (by rfl) (fun h=>?_) (fun h=>?_)
 ·have hp:(0:Int)≤(j:Int)-1:=h
  obtain⟨i,rfl⟩:∃i,j=i+1:=⟨j-1,by omega⟩
  rw[show((i+1:Nat):Int)-1=Int.ofNat i by simp]
  obtain⟨R,hR⟩:∃R,R=V xs/Num.W^(i+1)%M:=⟨_,rfl⟩
  rw[← hR]at hDl ⊢
  have hRM:R<M:=by rw[hR];exact Nat.mod_lt _ hMp
  have hRW:R<Num.W^(ms.length+1):=Nat.lt_of_lt_of_le (Nat.lt_trans hRM hMW) (Lf (Nat.le_succ _))
  have hxi:=hx.getD (by decide) i
  have hil:i<xs.length:=by omega
  have hDb:=dv (ms.length+1) R
  have hcl:(List.take 1 (D (ms.length+1) R)++List.take ((D (ms.length+1) R).length-1) (D (ms.length+1) R)).length=ms.length+1:=by rw[List.length_append,List.length_take,List.length_take,hDl];omega
  repeat (first|rw[List.length_map]|refine sL (lo:=1) (by rfl) (by rfl) fd (by omega) (by rfl) (by rfl) (by rfl) ?_|refine Z01 ?_|refine Z02 ?_|refine Z03 ?_|refine Z04 ?_|refine Z05 ?_|refine Z06 ?_|refine Z07 ?_|refine Z08 ?_|refine Z09 ?_|refine Z10 ?_|refine Z11 ?_|refine Z12 ?_|refine Z13 ?_|refine Z14 ?_|refine Z15 ?_|refine Z16 ?_|refine Z17 ?_|refine Z18 ?_|refine Z20 ?_|refine Z21 ?_|refine Z22 ?_|refine Z23 ?_|refine Z24 ?_|refine Z26 ?_|refine Z27 ?_|refine Z29 ?_|refine Z30 ?_|refine Z31 ?_|refine Z32 ?_|refine Z49 ?_|refine Z50 ?_|refine Z51 ?_|refine Z52 ?_|refine Z62 ?_|refine Z63 ?_|refine Z67 ?_|refine Z71 ?_|refine Z75 ?_|refine Z76 ?_|refine Z83 fun _=>?_)
  have hset:(List.take 1 (D (ms.length+1) R)++List.take ((D (ms.length+1) R).length-1) (D (ms.length+1) R)).set 0 (xs.getD i 0)=xs.getD i 0::(D (ms.length+1) R).take ms.length:=by
   rw[hDl,Nat.add_sub_cancel]
   cases hd:D (ms.length+1) R with
   | nil=>rw[hd]at hDl;simp at hDl
   | cons a r=>simp
  rw[hset]
  have hnb:Lt 18446744073709551616 (xs.getD i 0::(D (ms.length+1) R).take ms.length):=Num.Lt.cons hxi (hDb.take _)
  have hnl:(xs.getD i 0::(D (ms.length+1) R).take ms.length).length=ms.length+1:=by rw[List.length_cons,List.length_take,hDl];omega
  have hnv:V (xs.getD i 0::(D (ms.length+1) R).take ms.length)=xs.getD i 0+Num.W*R:=by
   rw[Fg hDl hDb (by rw[eU hRW];exact Nat.lt_trans hRM hMW),eU hRW]
  have hnW:V (xs.getD i 0::(D (ms.length+1) R).take ms.length)<Num.W*M:=by
   rw[hnv]
   have:=Nat.mul_le_mul_left Num.W (show R+1≤M from hRM)
   rw[Nat.mul_add,Nat.mul_one]at this
   have h2:xs.getD i 0<Num.W:=hxi
   omega
  have hrv:V (xs.getD i 0::(D (ms.length+1) R).take ms.length)%M=V xs/Num.W^i%M:=by
   rw[hnv,hR,cR hx,Ie]
  have hcut:List.drop 0 (List.take n ms)=ms.take n:=List.drop_zero
  have hsub:RdC ⟨w,fps []⟩ (sub t 0 n) ((ms.take n).map (N .u64)):=by
   have h:=RdC.subC (lo:=0) (hi:=n) (k:=.u64) hr2 (by omega) hn
   rw[hcut]at h;exact h
  repeat (first|(refine ax (by rfl) (by rfl) (by rfl) (FH u _ 30 _ (ms.take n) (ms.length+1) n M hnb hnl htb htl (by omega) (by omega) (by omega) hMt htt hnW) (.cons fd .nil) (fun w' hw'=>RdC.toWin hsub hw' (.cons Find.here .nil)) (by rfl) ?_;rintro v _ rfl;rw[hrv])|refine Ka ?_|refine Z83 fun _=>?_)
  refine ao i (by omega) (by omega) ?_ sw
  rw[show((i:Int)-1)=Int.ofNat i-Int.ofNat 1 from rfl]
  exact sbq
 ·have hp:¬(0:Int)≤(j:Int)-1:=h
  have hj0:j=0:=by omega
  subst hj0
  rw[Nat.pow_zero,Nat.div_one]at hDl ⊢
  have hRM:V xs%M<M:=Nat.mod_lt _ hMp
  repeat (first|refine Ka ?_|refine Z83 fun _=>?_)
  refine nH (s:=u) 0 ms.length fd (by omega) (by rw[List.length_map,hDl];omega) ?_
  have hcut:List.drop 0 (List.take ms.length (List.map (N .u64) (D (ms.length+1) (V xs%M))))=(D ms.length (V xs%M)).map (N .u64):=by
   rw[List.drop_zero,← List.map_take]
   congr 1
   refine uA ((dv _ _).take _) (by rw[List.length_take,hDl];omega) ?_
   rw[F9 (dv _ _),V_D,Nat.mod_eq_of_lt (a:=V xs%M) (Nat.lt_of_lt_of_le (Nat.lt_trans hRM hMW) (Lf (Nat.le_succ _))),Nat.mod_eq_of_lt (Nat.lt_trans hRM hMW)]
  rw[hcut]
  exact Ze2 fun _ hw=>aa hw (Wout:=[.sl (sub u 0 ms.length) ((D ms.length (V xs%M)).map (N .u64)) 30]) (by exact sw) (.inr ⟨hMp,_,rfl,rfl⟩)
end
end Go.Proofs.YtndhfbecpghinaaGreat.L
namespace Go.Proofs.YtndhfbecpghinaaGreat.Sha
def rr(x k:Nat):Nat:=(x >>> k) ||| ((x <<< (32-k))%4294967296)
def s0(x:Nat):Nat:=rr x 7 ^^^ rr x 18 ^^^ (x >>> 3)
def s1(x:Nat):Nat:=rr x 17 ^^^ rr x 19 ^^^ (x >>> 10)
def S1(x:Nat):Nat:=rr x 6 ^^^ rr x 11 ^^^ rr x 25
def S0(x:Nat):Nat:=rr x 2 ^^^ rr x 13 ^^^ rr x 22
def ch(e f g:Nat):Nat:=g ^^^ (e &&& (f ^^^ g))
def maj(a b c:Nat):Nat:=(a &&& b) ||| (c &&& (a ||| b))
def Kt:List Nat:=[
 0x428a2f98,0x71374491,0xb5c0fbcf,0xe9b5dba5,0x3956c25b,0x59f111f1,0x923f82a4,0xab1c5ed5,
 0xd807aa98,0x12835b01,0x243185be,0x550c7dc3,0x72be5d74,0x80deb1fe,0x9bdc06a7,0xc19bf174,
 0xe49b69c1,0xefbe4786,0x0fc19dc6,0x240ca1cc,0x2de92c6f,0x4a7484aa,0x5cb0a9dc,0x76f988da,
 0x983e5152,0xa831c66d,0xb00327c8,0xbf597fc7,0xc6e00bf3,0xd5a79147,0x06ca6351,0x14292967,
 0x27b70a85,0x2e1b2138,0x4d2c6dfc,0x53380d13,0x650a7354,0x766a0abb,0x81c2c92e,0x92722c85,
 0xa2bfe8a1,0xa81a664b,0xc24b8b70,0xc76c51a3,0xd192e819,0xd6990624,0xf40e3585,0x106aa070,
 0x19a4c116,0x1e376c08,0x2748774c,0x34b0bcb5,0x391c0cb3,0x4ed8aa4a,0x5b9cca4f,0x682e6ff3,
 0x748f82ee,0x78a5636f,0x84c87814,0x8cc70208,0x90befffa,0xa4506ceb,0xbef9a3f7,0xc67178f2]
def H0:List Nat:=[0x6a09e667,0xbb67ae85,0x3c6ef372,0xa54ff53a,0x510e527f,0x9b05688c,0x1f83d9ab,0x5be0cd19]
def be4(blk:List Nat)(t:Nat):Nat:=blk.getD (4*t) 0*16777216+blk.getD (4*t+1) 0*65536+blk.getD (4*t+2) 0*256+blk.getD (4*t+3) 0
def FO(blk ws:List Nat)(t:Nat):Nat:=
 if t<16 then be4 blk t
 else(s1 (ws.getD (t-2) 0)+ws.getD (t-7) 0+s0 (ws.getD (t-15) 0)+ws.getD (t-16) 0)%4294967296
def sch(blk:List Nat):Nat→List Nat
 | 0=>[]
 | t+1=>sch blk t++[FO blk (sch blk t) t]
def rnd(k w:Nat):List Nat→List Nat
 | [a,b,c,d,e,f,g,h]=>
  let t1:=(h+S1 e+ch e f g+k+w)%4294967296
  [(t1+(S0 a+maj a b c)%4294967296)%4294967296,a,b,c,(d+t1)%4294967296,e,f,g]
 | s=>s
def jV(ws h:List Nat):Nat→List Nat
 | 0=>h
 | t+1=>rnd (Kt.getD t 0) (ws.getD t 0) (jV ws h t)
def lG:List Nat→List Nat→List Nat
 | x::xs,y::ys=>(x+y)%4294967296::lG xs ys
 | _,_=>[]
def wm(h blk:List Nat):List Nat:=lG (jV (sch blk 64) h 64) h
def be8(x:Nat):List Nat:=[x >>> 56%256,x >>> 48%256,x >>> 40%256,x >>> 32%256,x >>> 24%256,x >>> 16%256,x >>> 8%256,x%256]
def bz(n:Nat):Nat:=(n+9+63)/64*64
def pad(b:List Nat):List Nat:=b++128::List.replicate (bz b.length-b.length-9) 0++be8 (8*b.length)
def kZ(p:List Nat):Nat→List Nat
 | 0=>H0
 | k+1=>wm (kZ p k) ((p.drop (64*k)).take 64)
def bytes(h:List Nat):List Nat:=(List.range 32).map fun i=>(h.getD (i/4) 0 >>> (24-8*(i%4)))%256
def sum(b:List Nat):List Nat:=bytes (kZ (pad b) (bz b.length/64))
def Lt(m:Nat)(xs:List Nat):Prop:=∀x∈xs,x<m
theorem Lt.getD{m:Nat}{xs:List Nat}(h:Lt m xs)(hm:0<m)(i:Nat):xs.getD i 0<m:=by
 rw[List.getD_eq_getElem?_getD]
 cases hi:xs[i]? with
 | none=>simpa using hm
 | some v=>exact h v (List.mem_of_getElem? hi)
theorem nt{x:Nat}(k:Nat)(h:x<4294967296):rr x k<4294967296:=by
 unfold rr
 refine Nat.or_lt_two_pow (n:=32) ?_ (Nat.mod_lt _ (by decide))
 rw[Nat.shiftRight_eq_div_pow]
 exact Nat.lt_of_le_of_lt (Nat.div_le_self _ _) h
theorem Jm{x:Nat}(k:Nat)(h:x<4294967296):x >>> k<4294967296:=by
 rw[Nat.shiftRight_eq_div_pow]
 exact Nat.lt_of_le_of_lt (Nat.div_le_self _ _) h
theorem Bt{x y:Nat}(hx:x<4294967296)(hy:y<4294967296):x ^^^ y<4294967296:=Nat.xor_lt_two_pow (n:=32) hx hy
theorem Vd{x y:Nat}(hx:x<4294967296)(hy:y<4294967296):x ||| y<4294967296:=Nat.or_lt_two_pow (n:=32) hx hy
theorem zX{x y:Nat}(hx:x<4294967296):x &&& y<4294967296:=Nat.lt_of_le_of_lt Nat.and_le_left hx
theorem Qs{blk:List Nat}(h:Lt 256 blk)(t:Nat):be4 blk t<4294967296:=by
 unfold be4
 have h0:=h.getD (by decide) (4*t)
 have h1:=h.getD (by decide) (4*t+1)
 have h2:=h.getD (by decide) (4*t+2)
 have h3:=h.getD (by decide) (4*t+3)
 omega
theorem NL{blk ws:List Nat}(h:Lt 256 blk)(t:Nat):FO blk ws t<4294967296:=by
 unfold FO;split
 ·exact Qs h t
 ·exact Nat.mod_lt _ (by decide)
theorem nw(blk:List Nat):∀t,(sch blk t).length=t
 | 0=>rfl
 | t+1=>by simp[sch,nw blk t]
theorem A5{blk:List Nat}(h:Lt 256 blk):∀t,Lt 4294967296 (sch blk t)
 | 0=>by simp[sch,Lt]
 | t+1=>by
  intro x hx
  simp only[sch,List.mem_append,List.mem_singleton]at hx
  rcases hx with hx | rfl
  ·exact A5 h t x hx
  ·exact NL h t
theorem oe(xs ys:List Nat){i:Nat}(h:i<xs.length):(xs++ys).getD i 0=xs.getD i 0:=by
 simp[List.getD_eq_getElem?_getD,List.getElem?_append_left h]
theorem MY(k w:Nat):∀s:List Nat,(rnd k w s).length=s.length
 | []=>rfl | [_]=>rfl | [_,_]=>rfl | [_,_,_]=>rfl | [_,_,_,_]=>rfl | [_,_,_,_,_]=>rfl | [_,_,_,_,_,_]=>rfl | [_,_,_,_,_,_,_]=>rfl
 | [_,_,_,_,_,_,_,_]=>rfl
 | _::_::_::_::_::_::_::_::_::_=>rfl
theorem UZ{s:List Nat}(h:s.length=8):∃a b c d e f g i,s=[a,b,c,d,e,f,g,i]:=by
 match s,h with
 | [a,b,c,d,e,f,g,i],_=>exact⟨a,b,c,d,e,f,g,i,rfl⟩
theorem SE{k w:Nat}{s:List Nat}(hl:s.length=8)(h:Lt 4294967296 s):Lt 4294967296 (rnd k w s):=by
 obtain⟨a,b,c,d,e,f,g,i,rfl⟩:=UZ hl
 simp only[Lt,rnd,List.mem_cons,List.not_mem_nil,or_false,forall_eq_or_imp,forall_eq]at h ⊢
 obtain⟨h1,h2,h3,h4,h5,h6,h7,h8⟩:=h
 exact⟨Nat.mod_lt _ (by decide),h1,h2,h3,Nat.mod_lt _ (by decide),h5,h6,h7⟩
theorem kr(ws h:List Nat):∀t,(jV ws h t).length=h.length
 | 0=>rfl
 | t+1=>by simp[jV,MY,kr ws h t]
theorem CV{ws h:List Nat}(hl:h.length=8)(hh:Lt 4294967296 h):∀t,Lt 4294967296 (jV ws h t)
 | 0=>hh
 | t+1=>SE (by rw[kr,hl]) (CV hl hh t)
theorem qk:∀{xs ys:List Nat},xs.length=ys.length→(lG xs ys).length=xs.length
 | [],[],_=>rfl
 | x::xs,y::ys,h=>by simp[lG,qk (xs:=xs) (ys:=ys) (by simpa using h)]
 | [],_::_,h=>by simp at h
 | _::_,[],h=>by simp at h
theorem BG:∀xs ys:List Nat,Lt 4294967296 (lG xs ys)
 | [],_=>by simp[lG,Lt]
 | _::_,[]=>by simp[lG,Lt]
 | x::xs,y::ys=>by
  intro z hz
  simp only[lG,List.mem_cons]at hz
  rcases hz with rfl | hz
  ·exact Nat.mod_lt _ (by decide)
  ·exact BG xs ys z hz
theorem yX{h blk:List Nat}(hl:h.length=8):(wm h blk).length=8:=by
 unfold wm;rw[qk (by rw[kr]),kr,hl]
theorem Ny(h blk:List Nat):Lt 4294967296 (wm h blk):=BG _ _
theorem qL(p:List Nat):∀k,(kZ p k).length=8
 | 0=>rfl
 | k+1=>yX (qL p k)
theorem TT:Lt 4294967296 H0:=by unfold Lt H0;decide
theorem LC(p:List Nat):∀k,Lt 4294967296 (kZ p k)
 | 0=>TT
 | _+1=>Ny _ _
theorem sR(h:List Nat):(bytes h).length=32:=by simp[bytes]
theorem kV(b:List Nat):(sum b).length=32:=sR _
theorem Gj(h:List Nat):Lt 256 (bytes h):=by
 intro x hx
 simp only[bytes,List.mem_map]at hx
 obtain⟨i,_,rfl⟩:=hx
 exact Nat.mod_lt _ (by decide)
theorem JM(b:List Nat):Lt 256 (sum b):=Gj _
theorem Qi:Kt.length=64:=by decide
theorem Ll(x:Nat):(be8 x).length=8:=rfl
theorem fE(n:Nat):n+9≤bz n∧bz n≤n+72∧bz n%64=0:=by unfold bz;omega
theorem Mu(b:List Nat):(pad b).length=bz b.length:=by
 have:=fE b.length
 simp[pad,Ll];omega
theorem Qt(x:Nat):Lt 256 (be8 x):=by
 intro y hy
 simp only[be8,List.mem_cons,List.not_mem_nil,or_false]at hy
 rcases hy with rfl | rfl | rfl | rfl | rfl | rfl | rfl | rfl <;> exact Nat.mod_lt _ (by decide)
theorem Sd{b:List Nat}(h:Lt 256 b):Lt 256 (pad b):=by
 intro x hx
 simp only[pad,List.mem_append,List.mem_cons,List.mem_replicate]at hx
 rcases hx with(hx | rfl | ⟨_,rfl⟩) | hx
 ·exact h x hx
 ·decide
 ·decide
 ·exact Qt _ x hx
theorem R9(x y:Nat)(hy:y<256)(hx:x<16777216):((x <<< 8)%4294967296) ||| y=x*256+y:=by
 rw[Nat.shiftLeft_eq,Nat.mod_eq_of_lt (by omega)]
 have:=Nat.shiftLeft_add_eq_or_of_lt (a:=x) (b:=y) (i:=8) hy
 rw[Nat.shiftLeft_eq]at this
 exact this.symm
theorem Ip:∀k:Nat,k<32→0<k→((-(k:Int)%18446744073709551616).toNat%18446744073709551616 &&& 31)=32-k:=by decide
def pw(blk:List Nat)(t:Nat):Nat→Nat
 | 0=>0
 | j+1=>pw blk t j*256+blk.getD (4*t+j) 0
theorem OM{blk:List Nat}(h:Lt 256 blk)(t:Nat):∀j,pw blk t j<256^j
 | 0=>by simp[pw]
 | j+1=>by
  have:=OM h t j
  have h2:=h.getD (by decide) (4*t+j)
  simp only[pw,Nat.pow_succ];omega
theorem Xn(blk:List Nat)(t:Nat):pw blk t 4=be4 blk t:=by simp only[pw,be4,Nat.add_zero];omega
theorem Sn(blk:List Nat)(t:Nat):pw blk t 0=0:=rfl
theorem MM(blk:List Nat)(t j:Nat):pw blk t (j+1)=pw blk t j*256+blk.getD (4*t+j) 0:=rfl
theorem Hy(ys:List Nat)(lo hi j:Nat)(h:lo+j<hi):((ys.take hi).drop lo).getD j 0=ys.getD (lo+j) 0:=by
 simp only[List.getD_eq_getElem?_getD,List.getElem?_drop,List.getElem?_take,if_pos h]
theorem LK(xs ys:List Nat)(x i:Nat)(h:xs.length=i):(xs++x::ys).getD i 0=x:=by
 subst h;simp[List.getD_eq_getElem?_getD]
theorem vW(xs ys:List Nat)(x y i:Nat)(h:xs.length=i):(xs++x::ys).set i y=xs++y::ys:=by
 subst h;rw[List.set_append_right _ _ (by omega)];simp
theorem WK(a b c d:Nat):(((a+b)%4294967296+c)%4294967296+d)%4294967296=(a+b+c+d)%4294967296:=by omega
theorem WL(a b c d e:Nat):((((a+b)%4294967296+c)%4294967296+d)%4294967296+e)%4294967296=(a+b+c+d+e)%4294967296:=by omega
theorem ym(t:Nat)(h:t<64):List.replicate (64-t) 0=0::List.replicate (64-(t+1)) 0:=by
 rw[show 64-t=(64-(t+1))+1 by omega,List.replicate_succ]
theorem VA(blk:List Nat):sch blk 0++List.replicate (64-0) 0=List.replicate 64 0:=rfl
theorem SG(blk:List Nat):sch blk 64++List.replicate (64-64) 0=sch blk 64:=by simp
theorem SH(blk:List Nat)(t:Nat)(h:t<16):sch blk t++be4 blk t::List.replicate (64-(t+1)) 0=sch blk (t+1)++List.replicate (64-(t+1)) 0:=by
 simp only[sch,FO,if_pos h,List.append_assoc,List.singleton_append]
theorem MZ(blk:List Nat)(t:Nat)(h:16≤t)(h':t<64):
  (sch blk t++List.replicate (64-t) 0).set t ((((rr ((sch blk t).getD (t-2) 0) 17 ^^^ rr ((sch blk t).getD (t-2) 0) 19 ^^^ ((sch blk t).getD (t-2) 0 >>> 10))+(sch blk t).getD (t-7) 0 +
   (rr ((sch blk t).getD (t-15) 0) 7 ^^^ rr ((sch blk t).getD (t-15) 0) 18 ^^^ ((sch blk t).getD (t-15) 0 >>> 3))+(sch blk t).getD (t-16) 0)%4294967296))=sch blk (t+1)++List.replicate (64-(t+1)) 0:=by
 rw[ym t h',vW _ _ _ _ _ (nw blk t)]
 simp only[sch,FO,if_neg (show ¬t<16 by omega),List.append_assoc,List.singleton_append,s0,s1]
def js(ys xs:List Nat)(i:Nat):List Nat:=ys.take i++xs.drop i
theorem mT{ys xs:List Nat}(h:ys.length=xs.length)(i:Nat):(js ys xs i).length=xs.length:=by simp[js];omega
theorem vx(ys xs:List Nat):js ys xs 0=xs:=by simp[js]
theorem mS{ys xs:List Nat}(h:ys.length=xs.length):js ys xs xs.length=ys:=by simp[js,← h]
theorem tq{ys xs:List Nat}(h:ys.length=xs.length){i:Nat}(hi:i<xs.length):(js ys xs i).getD i 0=xs.getD i 0:=by
 simp only[js,List.getD_eq_getElem?_getD]
 rw[List.getElem?_append_right (by simp;omega)]
 simp[Nat.min_eq_left (show i≤ys.length by omega)]
theorem mU{ys xs:List Nat}(h:ys.length=xs.length){i:Nat}(hi:i<xs.length):(js ys xs i).set i (ys.getD i 0)=js ys xs (i+1):=by
 simp only[js]
 have hl:(ys.take i).length=i:=by simp;omega
 rw[List.set_append_right _ _ (by omega),hl,Nat.sub_self,List.drop_eq_getElem_cons hi,List.set_cons_zero,List.take_succ_eq_append_getElem (show i<ys.length by omega)]
 simp[List.getD_eq_getElem?_getD,show i<ys.length by omega,-List.take_append_getElem]
theorem sQ:∀{xs ys:List Nat},xs.length=ys.length→∀{i:Nat},i<xs.length→(lG xs ys).getD i 0=(xs.getD i 0+ys.getD i 0)%4294967296
 | x::xs,y::ys,h,0,_=>rfl
 | x::xs,y::ys,h,i+1,hi=>by
  have:=sQ (xs:=xs) (ys:=ys) (by simpa using h) (i:=i) (by simpa using hi)
  simpa[lG]using this
 | [],_,_,_,hi=>by simp at hi
 | _::_,[],h,_,_=>by simp at h
theorem SF(ws h:List Nat):jV ws h 0=h:=rfl
theorem E8(ws h:List Nat)(t:Nat):jV ws h (t+1)=rnd (Kt.getD t 0) (ws.getD t 0) (jV ws h t):=rfl
theorem MX(k w a b c d e f g h:Nat):rnd k w [a,b,c,d,e,f,g,h] =
  [((h+S1 e+ch e f g+k+w)%4294967296+(S0 a+maj a b c)%4294967296)%4294967296,a,b,c,(d+(h+S1 e+ch e f g+k+w)%4294967296)%4294967296,e,f,g]:=rfl
theorem Qn(x:Nat):S1 x=rr x 6 ^^^ rr x 11 ^^^ rr x 25:=rfl
theorem Qm(x:Nat):S0 x=rr x 2 ^^^ rr x 13 ^^^ rr x 22:=rfl
theorem JI(h blk:List Nat):wm h blk=lG (jV (sch blk 64) h 64) h:=rfl
theorem QP(e f g:Nat)(he:e<4294967296)(hf:f<4294967296)(hg:g<4294967296):g%4294967296 ^^^ (e%4294967296 &&& (f%4294967296 ^^^ g%4294967296)%4294967296)%4294967296=ch e f g:=by
 rw[Nat.mod_eq_of_lt he,Nat.mod_eq_of_lt hf,Nat.mod_eq_of_lt hg,Nat.mod_eq_of_lt (Bt hf hg),Nat.mod_eq_of_lt (zX he)];rfl
theorem Md(a b c:Nat)(ha:a<4294967296)(hb:b<4294967296)(hc:c<4294967296):(a%4294967296 &&& b%4294967296)%4294967296 ||| (c%4294967296 &&& (a%4294967296 ||| b%4294967296)%4294967296)%4294967296=maj a b c:=by
 rw[Nat.mod_eq_of_lt ha,Nat.mod_eq_of_lt hb,Nat.mod_eq_of_lt hc,Nat.mod_eq_of_lt (Vd ha hb),Nat.mod_eq_of_lt (zX ha),Nat.mod_eq_of_lt (zX hc)];rfl
def eK(K i:Nat):List Nat:=List.replicate (8-i) 0++(be8 K).drop (8-i)
theorem FF(K i:Nat)(h:i<8):(eK K i).set (7-i) ((K >>> (8*i))%256)=eK K (i+1):=by
 match i,h with
 | 0,_=>simp[eK,be8,List.replicate]
 | 1,_=>simp[eK,be8,List.replicate]
 | 2,_=>simp[eK,be8,List.replicate]
 | 3,_=>simp[eK,be8,List.replicate]
 | 4,_=>simp[eK,be8,List.replicate]
 | 5,_=>simp[eK,be8,List.replicate]
 | 6,_=>simp[eK,be8,List.replicate]
 | 7,_=>simp[eK,be8]
theorem FE(K i:Nat):(eK K i).length=8:=by simp[eK,be8]
def sE(b:List Nat):List Nat:=b++128::List.replicate (bz b.length-b.length-9) 0
theorem x7(b:List Nat):(sE b).length=bz b.length-8:=by
 have:=fE b.length
 simp[sE];omega
theorem Sc(b:List Nat):sE b++eK (8*b.length) 8=pad b:=by simp[sE,eK,pad]
theorem EO(b:List Nat)(K:Nat):(b.take (bz b.length)++(List.replicate (bz b.length) 0).drop (min b.length (bz b.length))).set b.length 128=sE b++eK K 0:=by
 have:=fE b.length
 rw[List.take_of_length_le (by omega),Nat.min_eq_left (by omega),List.drop_replicate,show bz b.length-b.length=(bz b.length-b.length-9)+8+1 by omega,List.replicate_succ,vW _ _ _ _ _ rfl]
 have e:List.replicate (bz b.length-b.length-9+8) 0=List.replicate (bz b.length-b.length-9) 0++List.replicate 8 0:=by rw[List.replicate_append_replicate]
 rw[e]
 simp[sE,eK,be8]
theorem Mv(b:List Nat)(K i:Nat)(h:i<8):(sE b++eK K i).set (bz b.length-1-i) ((K >>> (8*i))%256)=sE b++eK K (i+1):=by
 have:=fE b.length
 have hl:=x7 b
 rw[List.set_append_right _ _ (by omega),hl,show bz b.length-1-i-(bz b.length-8)=7-i by omega,FF K i h]
theorem AS(n:Nat):(n+9+63)/64*64=bz n:=rfl
theorem Lq(p:List Nat)(k:Nat)(h:64*k+64≤p.length):((p.drop (64*k)).take 64).length=64:=by simp;omega
theorem QS{m:Nat}{p:List Nat}(h:Lt m p)(k:Nat):Lt m ((p.drop (64*k)).take 64):=fun x hx=>h x (List.mem_of_mem_drop (List.mem_of_mem_take hx))
theorem Rj(p:List Nat):kZ p 0=H0:=rfl
theorem Ek(p:List Nat)(k:Nat):kZ p (k+1)=wm (kZ p k) ((p.drop (64*k)).take 64):=rfl
theorem z5(h:List Nat){i:Nat}(hi:i<32):(bytes h).getD i 0=(h.getD (i/4) 0 >>> (24-8*(i%4)))%256:=by
 simp[bytes,List.getD_eq_getElem?_getD,hi]
theorem NC(b:List Nat):sum b=bytes (kZ (pad b) (bz b.length/64)):=rfl
attribute [irreducible] rr s0 s1 S0 S1 ch maj be4 FO sch rnd jV lG wm be8 bz pad kZ bytes sum pw eK sE js
end Go.Proofs.YtndhfbecpghinaaGreat.Sha
namespace Go.Proofs.YtndhfbecpghinaaGreat.L
open Go Go.Proofs
set_option maxRecDepth 100000
section
attribute [local irreducible] Code.wp wpList Af bodyPost L.Go
open Sha
theorem VV{a b:Prop}(k:b)(h:Rm b→a:=by intro k;(first|refine Z01 ?_|refine Z02 ?_|refine Z03 ?_|refine Z04 ?_|refine Z05 ?_|refine Z06 ?_|refine Z07 ?_|refine Z08 ?_|refine Z09 ?_|refine Z10 ?_|refine Z11 ?_|refine Z12 ?_|refine Z13 ?_|refine Z14 ?_|refine Z34 ?_|refine Z40 ?_|refine Z41 ?_|refine Z42 ?_|refine Z43 ?_|refine Z44 ?_|refine Z45 ?_|refine Z74 ?_);exact k.h):a:=h ⟨k⟩
theorem i9(x k:Nat)(hx:x<4294967296)(hk0:0<k)(hk:k<32):
  Spec Tryz.prog 154 [N .u32 x,.int .i64 (-(k:Int))] ai [] (IsV (N .u32 (rr x k))):=by
 refine ad Tryz.func154 rfl rfl rfl fun w _=>?_
 have e:=Ip k hk hk0
 repeat (first|refine VV ?_)
 have e':((-(k:Int)%((18446744073709551616:Nat):Int)).toNat%18446744073709551616 &&& 31%18446744073709551616)=32-k:=e
 rw[e']
 have e2:(32+(18446744073709551616-(32-k)%18446744073709551616))%18446744073709551616=k:=by omega
 rw[e2]
 repeat (first|refine VV ?_)
 refine Ze1 fun _ hw=>aa hw SubW.nil ⟨?_,rfl⟩
 rw[show(4294967296:Nat)=2^32 from rfl,Nat.mod_mod,Nat.mod_eq_of_lt (Jm k hx),Nat.or_comm]
 unfold rr;rfl
theorem VW{a b:Prop}(k:b)(h:Rm b→a:=by intro k;(first|refine Z01 ?_|refine Z02 ?_|refine Z03 ?_|refine Z04 ?_|refine Z05 ?_|refine Z06 ?_|refine Z07 ?_|refine Z08 ?_|refine Z09 ?_|refine Z10 ?_|refine Z11 ?_|refine Z12 ?_|refine Z13 ?_|refine Z14 ?_|refine Z39 ?_|refine Z42 ?_|refine Z72 ?_);exact k.h):a:=h ⟨k⟩
theorem ra(x p q r:Nat)(hx:x<4294967296)(hp:0<p∧p<32)(hq:0<q∧q<32)(hr:r<32):
  Spec Tryz.prog 166 [N .u32 x,N .i64 p,N .i64 q,N .i64 r] ai [] (IsV (N .u32 (rr x p ^^^ rr x q ^^^ (x >>> r)))):=by
 refine ad Tryz.func166 rfl rfl rfl fun w _=>?_
 repeat (first|refine VW ?_)
 refine au (by rfl) ?_
 repeat (first|(refine Zqf (by intro _ _ _;(first|refine y_4 (i9 x p hx hp.1 hp.2) ?_|refine y_4 (i9 x q hx hq.1 hq.2) ?_|refine Z01 ?_|refine Z02 ?_|refine Z39 ?_|refine Z42 ?_|refine Z72 ?_);exact Zq) ?_)|refine Zqn ?_)
 refine Zq0 ?_ (by kernel_rfl)
 repeat (first|refine VW ?_)
 refine Ze1 fun _ hw=>aa hw SubW.nil ⟨?_,rfl⟩
 rw[Nat.mod_eq_of_lt (nt p hx),Nat.mod_eq_of_lt (nt q hx),Nat.mod_eq_of_lt (Bt (nt p hx) (nt q hx)),Nat.mod_eq_of_lt (Jm r hx)]
theorem wV(x p q r:Nat)(hx:x<4294967296)(hp:0<p∧p<32)(hq:0<q∧q<32)(hr:0<r∧r<32):
  Spec Tryz.prog 153 [N .u32 x,N .i64 p,N .i64 q,N .i64 r] ai [] (IsV (N .u32 (rr x p ^^^ rr x q ^^^ rr x r))):=by
 refine ad Tryz.func153 rfl rfl rfl fun w _=>?_
 repeat (first|refine y_4 (i9 x p hx hp.1 hp.2) ?_|refine y_4 (i9 x q hx hq.1 hq.2) ?_|refine y_4 (i9 x r hx hr.1 hr.2) ?_|refine Z01 ?_|refine Z02 ?_|refine Z03 ?_|refine Z04 ?_|refine Z05 ?_|refine Z06 ?_|refine Z07 ?_|refine Z08 ?_|refine Z09 ?_|refine Z10 ?_|refine Z11 ?_|refine Z12 ?_|refine Z13 ?_|refine Z14 ?_|refine Z39 ?_|refine Z72 ?_)
 refine Ze1 fun _ hw=>aa hw SubW.nil ⟨?_,rfl⟩
 rw[Nat.mod_eq_of_lt (nt p hx),Nat.mod_eq_of_lt (nt q hx),Nat.mod_eq_of_lt (Bt (nt p hx) (nt q hx)),Nat.mod_eq_of_lt (nt r hx)]
theorem TA{a b:Prop}(k:b)(h:Rm b→a:=by intro k;refine ar (v:=LV .u32 (List.replicate 8 0)) (by rfl) (by rfl) ?_;exact k.h):a:=h ⟨k⟩
theorem TB{a b:Prop}(k:b)(h:Rm b→a:=by intro k;(first|refine Z03 ?_|refine Z04 ?_|refine Z05 ?_|refine Z06 ?_|refine Z07 ?_|refine Z08 ?_|refine Z09 ?_|refine Z10 ?_|refine Z11 ?_|refine Z12 ?_|refine Z13 ?_|refine Z14 ?_|refine Z29 ?_|refine Z30 ?_|refine Z31 ?_|refine Z32 ?_);exact k.h):a:=h ⟨k⟩
theorem zZ:Spec Tryz.prog 135 [] ai [] (IsV (LV .u32 H0)):=by
 refine ad Tryz.func135 rfl rfl rfl fun w _=>?_
 repeat (first|(refine TA ?_;intro _)|refine ny (vs:=H0.map (N .u32)) (by rfl) (by rfl) (by rfl) (by rfl) (by rfl) (by rfl) (by rfl) (by rfl) (by rfl) ?_|refine TB ?_|refine Z82 fun _=>?_)
 refine Zec fun _ hw=>aa hw SubW.nil ⟨?_,rfl⟩
 rfl
theorem oN{a b:Prop}(k:b)(h:Rm b→a:=by intro k;(first|refine Z01 ?_|refine Z02 ?_|refine Z03 ?_|refine Z04 ?_|refine Z05 ?_|refine Z06 ?_|refine Z07 ?_|refine Z08 ?_|refine Z09 ?_|refine Z10 ?_|refine Z11 ?_|refine Z12 ?_|refine Z13 ?_|refine Z14 ?_|refine Z15 ?_|refine Z16 ?_|refine Z17 ?_|refine Z18 ?_|refine Z20 ?_|refine Z21 ?_|refine Z22 ?_|refine Z23 ?_|refine Z24 ?_|refine Z26 ?_|refine Z27 ?_|refine Z29 ?_|refine Z30 ?_|refine Z31 ?_|refine Z32 ?_|refine Z33 ?_|refine Z36 ?_|refine Z41 ?_|refine Z43 ?_|refine Z44 ?_|refine Z45 ?_|refine Z46 ?_|refine Z62 ?_|refine Z63 ?_|refine Z67 ?_|refine Z71 ?_|refine Z74 ?_);exact k.h):a:=h ⟨k⟩
theorem TC{a b:Prop}(k:b)(h:Rm b→a:=by intro k;(first|refine Z24 ?_|refine Z26 ?_|refine Z27 ?_|refine Z67 ?_|refine Z23 ?_|refine Z20 ?_|refine Z21 ?_|refine Z62 ?_);exact k.h):a:=h ⟨k⟩
set_option maxHeartbeats 1000000 in
theorem sH(bb:Nat)(U:TypeId)(blk:List Nat)(hl:blk.length=64)(hb:Lt 256 blk):
  Spec Tryz.prog 152 [pt bb 0] ai [.blk bb (LV .u8 blk) U] (fun v W=>v=LV .u32 (sch blk 64)∧W=[.blk bb (LV .u8 blk) U]):=by
 refine ad Tryz.func152 rfl rfl rfl fun w _=>?_
 repeat (first|refine ar (v:=LV .u32 (List.replicate 64 0)) (by rfl) (by rfl) fun _=>?_|refine oN ?_|refine Z82 fun _=>?_)
 rename_i b
 refine az (ι:=Nat) (fun t=>t≤16) (fun t=>[(0,pt bb 0),(2,pt b 0),(8,N .i64 t)]) (fun t=>[.blk b (LV .u32 (sch blk t++List.replicate (64-t) 0)) 189,.blk bb (LV .u8 blk) U]) (fun t=>16-t) 0 (by omega) sbq (by rw[VA];exact sw) ?_
 intro t ht
 have hsl:=nw blk t
 repeat (first|refine oN ?_|refine Z82 fun _=>?_)
 refine an (by rfl) (fun h=>?_) (fun h=>?_)
 ·have hcut:(List.drop (4*t) (List.take (4*t+4) blk)).length=4:=by simp;omega
  repeat (first|refine oN ?_|refine Z82 fun _=>?_)
  rw[hcut]
  repeat (first|refine oN ?_|refine Z82 fun _=>?_)
  refine az (ι:=Nat) (fun j=>j≤4) (fun j=>[(0,pt bb 0),(2,pt b 0),(3,N .i64 t),(8,N .i64 t),(18,fj bb 64 (4*t) (4*t+4)),(19,N .i64 4),(20,N .i64 j)])
   (fun j=>[.blk b (LV .u32 (sch blk t++pw blk t j::List.replicate (64-(t+1)) 0)) 189,.blk bb (LV .u8 blk) U]) (fun j=>4-j) 0 (by omega) sbq ?_ ?_
  ·rw[Sn,← ym t (by omega)]
   exact sw
  intro j hj
  repeat (first|refine oN ?_|refine Z82 fun _=>?_)
  refine an (by rfl) (fun h'=>?_) (fun h'=>?_)
  ·have hcl:(List.drop (4*t) (List.take (4*t+4) blk)).length=4:=by simp;omega
   repeat (first|refine oN ?_|refine Z82 fun _=>?_)
   rw[Hy _ _ _ _ (by omega),LK _ _ _ _ hsl,vW _ _ _ _ _ hsl]
   have h1:=OM hb t j
   have h2:=hb.getD (by decide) (4*t+j)
   have h3:256^j≤16777216:=by
    have:j≤3:=by omega
    exact Nat.le_trans (Nat.pow_le_pow_right (by decide) this) (by decide)
   rw[Nat.mod_mod,Nat.mod_eq_of_lt (a:=blk.getD (4*t+j) 0%4294967296) (Nat.mod_lt _ (by decide)),Nat.mod_eq_of_lt (a:=blk.getD (4*t+j) 0) (by omega),R9 _ _ h2 (by omega),← MM]
   repeat (first|refine oN ?_|refine Z82 fun _=>?_)
   exact ao (j+1) (by omega) (by omega) sbq sw
  ·repeat (first|refine oN ?_|refine Z82 fun _=>?_)
   have hj4:j=4:=by omega
   subst hj4
   rw[Xn]
   refine ao (t+1) (by omega) (by omega) sbq ?_
   rw[← SH blk t h]
   exact sw
 ·have ht16:t=16:=by omega
  subst ht16
  repeat (first|refine oN ?_|refine Z82 fun _=>?_)
  refine az (ι:=Nat) (fun t=>16≤t∧t≤64) (fun t=>[(0,pt bb 0),(2,pt b 0),(6,.func (.func 166) #[] #[]),(7,N .i64 t)])
   (fun t=>[.blk b (LV .u32 (sch blk t++List.replicate (64-t) 0)) 189,.blk bb (LV .u8 blk) U]) (fun t=>64-t) 16 (by omega) sbq sw ?_
  intro t ⟨ht,ht'⟩
  have hsl:=nw blk t
  have hlt:=A5 hb t
  repeat (first|refine oN ?_|refine Z82 fun _=>?_)
  refine an (by rfl) (fun h=>?_) (fun h=>?_)
  ·have g:∀i,0<i→i≤16→(sch blk t++List.replicate (64-t) 0).getD (t-i) 0=(sch blk t).getD (t-i) 0:=fun i h0 h1=>oe _ _ (by omega)
   have gl:∀i,(sch blk t).getD i 0<4294967296:=fun i=>hlt.getD (by decide) i
   repeat (first|refine oN ?_|refine Z82 fun _=>?_)
   refine au (by rfl) ?_
   repeat (first|(refine Zqf (by intro _ _ _;(first|(refine af (by rfl) (by rfl) (by rfl) (ra _ 17 19 10 (by rw[g 2 (by omega) (by omega)];exact gl _) (by omega) (by omega) (by omega)) (fun _ _=>trivial) (by rfl) ?_)|(refine af (by rfl) (by rfl) (by rfl) (ra _ 7 18 3 (by rw[g 15 (by omega) (by omega)];exact gl _) (by omega) (by omega) (by omega)) (fun _ _=>trivial) (by rfl) ?_)|refine Z01 ?_|refine Z02 ?_|refine Z15 ?_|refine Z16 ?_|refine Z17 ?_|refine Z18 ?_|refine Z20 ?_|refine Z21 ?_|refine Z22 ?_|refine Z23 ?_|refine Z33 ?_|refine Z36 ?_|refine Z41 ?_|refine Z43 ?_|refine Z44 ?_|refine Z45 ?_|refine Z46 ?_|refine Z62 ?_|refine Z63 ?_|refine Z71 ?_|refine Z74 ?_);exact Zq) ?_)|(refine Zqp (by intro _ _ _;(first|refine TC ?_);exact Zq) ?_)|refine fq ?_|refine Zqn ?_)
   refine Zq0 ?_ (by kernel_rfl)
   repeat (first|refine oN ?_|refine Z82 fun _=>?_)
   refine ao (t+1) (by omega) (by omega) sbq ?_
   rw[g 2 (by omega) (by omega),g 7 (by omega) (by omega),g 15 (by omega) (by omega),g 16 (by omega) (by omega)]
   rw[WK,MZ blk t ht h]
   exact sw
  ·have ht64:t=64:=by omega
   subst ht64
   repeat (first|refine oN ?_|refine Z82 fun _=>?_)
   rw[SG]
   refine Zec fun _ hw=>aa hw (Wout:=[.blk bb (LV .u8 blk) U]) ?_ ?_
   ·exact sw
   ·exact⟨rfl,rfl⟩
theorem sv{a b:Prop}(k:b)(h:Rm b→a:=by intro k;(first|refine Z01 ?_|refine Z02 ?_|refine Z03 ?_|refine Z04 ?_|refine Z05 ?_|refine Z06 ?_|refine Z07 ?_|refine Z08 ?_|refine Z09 ?_|refine Z10 ?_|refine Z11 ?_|refine Z12 ?_|refine Z13 ?_|refine Z14 ?_|refine Z15 ?_|refine Z17 ?_|refine Z18 ?_|refine Z22 ?_|refine Z23 ?_|refine Z24 ?_|refine Z26 ?_|refine Z27 ?_|refine Z29 ?_|refine Z30 ?_|refine Z31 ?_|refine Z32 ?_|refine Z33 ?_|refine Z39 ?_|refine Z40 ?_|refine Z41 ?_|refine Z62 ?_|refine Z63 ?_|refine Z67 ?_|refine Z75 ?_|refine Z76 ?_);exact k.h):a:=h ⟨k⟩
theorem V2{a b:Prop}(k:b)(h:Rm b→a:=by intro k;(first|refine Z01 ?_|refine Z02 ?_|refine Z15 ?_|refine Z17 ?_|refine Z18 ?_|refine Z22 ?_|refine Z23 ?_|refine Z33 ?_|refine Z39 ?_|refine Z40 ?_|refine Z41 ?_|refine Z62 ?_|refine Z63 ?_);exact k.h):a:=h ⟨k⟩
theorem XH{a b:Prop}(k:b)(h:Rm b→a:=by intro k;(first|refine Z24 ?_|refine Z26 ?_|refine Z27 ?_|refine Z67 ?_|refine Z23 ?_|refine Z62 ?_);exact k.h):a:=h ⟨k⟩
theorem XI{a b:Prop}(k:b)(h:Rm b→a:=by intro k;(first|refine Z75 ?_|refine Z76 ?_);exact k.h):a:=h ⟨k⟩
theorem V3{a b:Prop}(k:b)(h:Rm b→a:=by intro k;refine Zqf (by intro _ _ _;(first|refine V2 ?_);exact Zq) ?_;exact k.h):a:=h ⟨k⟩
theorem KC{a b:Prop}(k:b)(h:Rm b→a:=by intro k;refine Zqp (by intro _ _ _;(first|refine XH ?_);exact Zq) ?_;exact k.h):a:=h ⟨k⟩
theorem KD{a b:Prop}(k:b)(h:Rm b→a:=by intro k;refine Zqd (by intro _ _ _;(first|refine XI ?_);exact Zq) ?_;exact k.h):a:=h ⟨k⟩
theorem KU{a b:Prop}(k:b)(h:Rm b→a:=by intro k;(first|refine V3 ?_|refine KC ?_|refine fq ?_|refine KD ?_|refine Zqn ?_);exact k.h):a:=h ⟨k⟩
set_option maxHeartbeats 2000000 in
theorem FC(h blk:List Nat)(hh:h.length=8)(hhl:Lt 4294967296 h)(hl:blk.length=64)(hb:Lt 256 blk):
  Spec Tryz.prog 136 [LV .u32 h,LV .u8 blk] ai [] (IsV (LV .u32 (Sha.wm h blk))):=by
 refine ad Tryz.func136 rfl rfl rfl fun w _=>?_
 have hK:=Qi
 have hsc:=nw blk 64
 have hscl:=A5 hb 64
 repeat (first|refine ar (v:=LV .u32 (List.replicate 64 0)) (by rfl) (by rfl) fun _=>?_|(refine TA ?_;intro _)|refine ny (vs:=Kt.map (N .u32)) (by rfl) (by rfl) (by rfl) (by rfl) (by rfl) (by rfl) (by rfl) (by rfl) (by rfl) ?_|(refine ax (by rfl) (by rfl) (by rfl) (sH _ _ blk hl hb) (.cons fd .nil) (fun _ _=>trivial) (by rfl) ?_;rintro _ _ ⟨rfl,rfl⟩)|refine sv ?_|refine Z81 fun _=>?_|refine Z82 fun _=>?_)
 rename_i b1 b2 b3 b4 b5 b6
 refine az (ι:=Nat) (fun t=>t≤64) (fun t=>[(20,N .i64 t),(8,pt b6 0),(7,.func (.func 153) #[] #[]),(6,pt b5 0),(5,pt b4 0),(4,pt b3 0),(2,pt b1 0)])
  (fun t=>[.blk b6 (LV .u32 (jV (sch blk 64) h t)) 174,.blk b5 (LV .u32 (sch blk 64)) 189,.blk b4 (LV .u32 Kt) 189,.blk b3 (LV .u32 (List.replicate 8 0)) 174,.blk b1 (LV .u32 h) 174]) (fun t=>64-t) 0 (by omega) sbq (by rw[SF];exact sw) ?_
 intro t ht
 have hsl:=kr (sch blk 64) h t
 rw[hh]at hsl
 have hlt:=CV (ws:=sch blk 64) hh hhl t
 obtain⟨a,b,c,d,e,f,g,i,hs⟩:=UZ hsl
 rw[hs]at hlt
 have hss:=E8 (sch blk 64) h t
 rw[hs,MX]at hss
 repeat (first|refine sv ?_|refine Z81 fun _=>?_|refine Z82 fun _=>?_)
 refine an (by rfl) (fun ht'=>?_) (fun ht'=>?_)
 ·rw[hs]
  have l0:a<4294967296:=hlt a (by simp)
  have l1:b<4294967296:=hlt b (by simp)
  have l2:c<4294967296:=hlt c (by simp)
  have l3:d<4294967296:=hlt d (by simp)
  have l4:e<4294967296:=hlt e (by simp)
  have l5:f<4294967296:=hlt f (by simp)
  have l6:g<4294967296:=hlt g (by simp)
  have l7:i<4294967296:=hlt i (by simp)
  repeat (first|refine sv ?_|refine Z81 fun _=>?_|refine Z82 fun _=>?_)
  refine au (by rfl) ?_
  repeat (first|refine KU ?_)
  refine Zq0 ?_ (by kernel_rfl)
  simp only[List.getD_cons_zero,List.getD_cons_succ]
  repeat (first|refine sv ?_|refine Z81 fun _=>?_|refine Z82 fun _=>?_)
  refine au (by rfl) ?_
  repeat (first|(refine Zqf (by intro _ _ _;(first|refine af (by rfl) (by rfl) (by rfl) (wV e 6 11 25 l4 (by omega) (by omega) (by omega)) (fun _ _=>trivial) (by rfl) ?_|refine V2 ?_);exact Zq) ?_)|refine KC ?_|refine fq ?_|refine KD ?_|refine Zqn ?_)
  refine Zq0 ?_ (by kernel_rfl)
  simp only[List.getD_cons_zero,List.getD_cons_succ]
  rw[QP e f g l4 l5 l6,← Qn,WL]
  repeat (first|refine af (by rfl) (by rfl) (by rfl) (wV a 2 13 22 l0 (by omega) (by omega) (by omega)) (fun _ _=>trivial) (by rfl) ?_|refine sv ?_|refine Z81 fun _=>?_|refine Z82 fun _=>?_)
  refine au (by rfl) ?_
  repeat (first|refine KU ?_)
  refine Zq0 ?_ (by kernel_rfl)
  have e7:(List.take 1 [a,b,c,d,e,f,g,i]++List.take (8-1) (List.drop 0 (List.take 7 [a,b,c,d,e,f,g,i]))++List.drop (1+min (List.drop 0 (List.take 7 [a,b,c,d,e,f,g,i])).length (8-1)) [a,b,c,d,e,f,g,i])=[a,a,b,c,d,e,f,g]:=rfl
  rw[e7]
  repeat (first|refine sv ?_|refine Z81 fun _=>?_|refine Z82 fun _=>?_)
  simp only[List.getD_cons_zero,List.getD_cons_succ,List.set_cons_succ,List.set_cons_zero]
  rw[Md a b c l0 l1 l2,← Qm,← hss]
  exact ao (t+1) (by omega) (by omega) sbq sw
 ·have h64:t=64:=by omega
  subst h64
  have hal:=qk (xs:=jV (sch blk 64) h 64) (ys:=h) (by rw[hsl,hh])
  have hal':(lG (jV (sch blk 64) h 64) h).length=(jV (sch blk 64) h 64).length:=hal
  repeat (first|refine sv ?_|refine Z81 fun _=>?_|refine Z82 fun _=>?_)
  refine az (ι:=Nat) (fun i=>i≤8) (fun i=>[(82,N .i64 i),(8,pt b6 0),(4,pt b3 0),(2,pt b1 0)])
   (fun i=>[.blk b6 (LV .u32 (js (lG (jV (sch blk 64) h 64) h) (jV (sch blk 64) h 64) i)) 174,.blk b3 (LV .u32 (List.replicate 8 0)) 174,.blk b1 (LV .u32 h) 174]) (fun i=>8-i) 0 (by omega) sbq (by rw[vx];exact sw) ?_
  intro j hj
  have hml:=mT hal' j
  rw[hsl]at hml
  repeat (first|refine sv ?_|refine Z81 fun _=>?_|refine Z82 fun _=>?_)
  refine an (by rfl) (fun hj'=>?_) (fun hj'=>?_)
  ·repeat (first|refine sv ?_|refine Z81 fun _=>?_|refine Z82 fun _=>?_)
   refine au (by rfl) ?_
   repeat (first|refine KU ?_)
   refine Zq0 ?_ (by kernel_rfl)
   repeat (first|refine sv ?_|refine Z81 fun _=>?_|refine Z82 fun _=>?_)
   rw[tq hal' (by omega),← sQ (by omega) (by omega),mU hal' (by omega)]
   exact ao (j+1) (by omega) (by omega) sbq sw
  ·have h8:j=8:=by omega
   subst h8
   have hm:js (lG (jV (sch blk 64) h 64) h) (jV (sch blk 64) h 64) 8=Sha.wm h blk:=by
    rw[JI]
    have:=mS hal'
    rw[hsl]at this;exact this
   rw[hm]at hml ⊢
   repeat (first|refine sv ?_|refine Z81 fun _=>?_|refine Z82 fun _=>?_)
   refine Zec fun _ hw=>aa hw SubW.nil ⟨?_,rfl⟩
   rfl
theorem FW{a b:Prop}(k:b)(h:Rm b→a:=by intro k;(first|refine Z01 ?_|refine Z02 ?_|refine Z03 ?_|refine Z04 ?_|refine Z05 ?_|refine Z06 ?_|refine Z07 ?_|refine Z08 ?_|refine Z09 ?_|refine Z10 ?_|refine Z11 ?_|refine Z12 ?_|refine Z13 ?_|refine Z14 ?_|refine Z15 ?_|refine Z16 ?_|refine Z17 ?_|refine Z18 ?_|refine Z20 ?_|refine Z21 ?_|refine Z22 ?_|refine Z23 ?_|refine Z29 ?_|refine Z30 ?_|refine Z31 ?_|refine Z32 ?_|refine Z35 ?_|refine Z36 ?_|refine Z37 ?_|refine Z42 ?_|refine Z44 ?_|refine Z45 ?_|refine Z71 ?_|refine Z74 ?_|refine Z75 ?_|refine Z76 ?_);exact k.h):a:=h ⟨k⟩
set_option maxHeartbeats 1000000 in
theorem IG(s:Value)(b:List Nat)(_:Lt 256 b)(hl:b.length<4294967296):
  Spec Tryz.prog 134 [s] (fun w=>Rd w s (b.map (N .u8))) [] (fun v W=>W=[.sl v ((Sha.pad b).map (N .u8)) 5]):=by
 refine ad Tryz.func134 rfl rfl rfl fun w hr=>?_
 have hr:=RdC.mk0 hr
 have hp:=fE b.length
 have hA:=x7 b
 have h8:=fun i=>FE (8*b.length) i
 have hK:(8*(b.length%18446744073709551616))%18446744073709551616=8*b.length:=by omega
 have hpd:=AS b.length
 repeat (first|refine FW ?_|refine Z83 fun _=>?_)
 rw[hpd]
 repeat (first|refine FW ?_|refine Z83 fun _=>?_)
 rename_i v_
 simp only[List.length_replicate]
 rw[EO b (8*b.length),hK]
 refine az (ι:=Nat) (fun i=>i≤8) (fun i=>[(3,N .i64 (bz b.length)),(4,v_),(5,N .i64 i),(6,N .u64 ((8*b.length) >>> (8*i)))])
  (fun i=>[.sl v_ ((sE b++eK (8*b.length) i).map (N .u8)) 5]) (fun i=>8-i) 0 (by omega) sbq sw ?_
 intro i hi
 have h8i:=h8 i
 repeat (first|refine FW ?_|refine Z83 fun _=>?_)
 refine an (by rfl) (fun h=>?_) (fun h=>?_)
 ·repeat (first|refine FW ?_|refine Z83 fun _=>?_)
  rw[Mv _ _ _ h]
  repeat (first|refine FW ?_|refine Z83 fun _=>?_)
  rw[← Nat.shiftRight_add]
  exact ao (i+1) (by omega) (by omega) sbq sw
 ·have h8:i=8:=by omega
  subst h8
  rw[Sc]
  repeat (first|refine FW ?_|refine Z83 fun _=>?_)
  refine Ze1 fun _ hw=>aa hw (Wout:=[.sl v_ ((Sha.pad b).map (N .u8)) 5]) ?_ ?_
  ·exact sw
  ·rfl
theorem Bu{a b:Prop}(k:b)(h:Rm b→a:=by intro k;refine ar (v:=LV .u8 (List.replicate 32 0)) (by rfl) (by rfl) ?_;exact k.h):a:=h ⟨k⟩
theorem Bv{a b:Prop}(k:b)(h:Rm b→a:=by intro k;(first|refine Z01 ?_|refine Z02 ?_|refine Z03 ?_|refine Z04 ?_|refine Z05 ?_|refine Z06 ?_|refine Z07 ?_|refine Z08 ?_|refine Z09 ?_|refine Z10 ?_|refine Z11 ?_|refine Z12 ?_|refine Z13 ?_|refine Z14 ?_|refine Z15 ?_|refine Z16 ?_|refine Z17 ?_|refine Z18 ?_|refine Z20 ?_|refine Z21 ?_|refine Z22 ?_|refine Z23 ?_|refine Z24 ?_|refine Z26 ?_|refine Z27 ?_|refine Z29 ?_|refine Z30 ?_|refine Z31 ?_|refine Z32 ?_|refine Z36 ?_|refine Z37 ?_|refine Z38 ?_|refine Z42 ?_|refine Z44 ?_|refine Z45 ?_|refine Z62 ?_|refine Z63 ?_|refine Z66 ?_|refine Z67 ?_|refine Z71 ?_|refine Z74 ?_);exact k.h):a:=h ⟨k⟩
set_option maxHeartbeats 1000000 in
theorem JN(s:Value)(b:List Nat)(hb:Lt 256 b)(hl:b.length<4294967296):
  Spec Tryz.prog 123 [s] (fun w=>Rd w s (b.map (N .u8))) [] (IsV (LV .u8 (Sha.sum b))):=by
 refine ad Tryz.func123 rfl rfl rfl fun w hr=>?_
 have hr:=RdC.mk0 hr
 have hp:=fE b.length
 have hpl:=Mu b
 repeat (first|(refine Bu ?_;intro _)|(refine TA ?_;intro _)|(refine ax (by rfl) (by rfl) (by rfl) (IG s b hb hl) .nil (RdW.old hr) (by rfl) ?_;rintro v _ rfl)|refine af (by rfl) (by rfl) (by rfl) zZ (fun _ _=>trivial) (by rfl) ?_|refine Z01 ?_|refine Z02 ?_|refine Z03 ?_|refine Z04 ?_|refine Z05 ?_|refine Z06 ?_|refine Z07 ?_|refine Z08 ?_|refine Z09 ?_|refine Z10 ?_|refine Z11 ?_|refine Z12 ?_|refine Z13 ?_|refine Z14 ?_|refine Z15 ?_|refine Z16 ?_|refine Z17 ?_|refine Z18 ?_|refine Z20 ?_|refine Z21 ?_|refine Z22 ?_|refine Z23 ?_|refine Z24 ?_|refine Z26 ?_|refine Z27 ?_|refine Z29 ?_|refine Z30 ?_|refine Z31 ?_|refine Z32 ?_|refine Z36 ?_|refine Z37 ?_|refine Z38 ?_|refine Z42 ?_|refine Z44 ?_|refine Z45 ?_|refine Z62 ?_|refine Z63 ?_|refine Z66 ?_|refine Z67 ?_|refine Z71 ?_|refine Z74 ?_|refine Z82 fun _=>?_)
 rename_i b1 b2
 have hpd:=fE b.length
 refine az (ι:=Nat×Value) (fun q=>64*q.1≤bz b.length) (fun q=>[(2,pt b1 0),(3,q.2),(4,pt b2 0)])
  (fun q=>[.sl q.2 (((Sha.pad b).drop (64*q.1)).map (N .u8)) 5,.blk b2 (LV .u32 (kZ (Sha.pad b) q.1)) 174,.blk b1 (LV .u8 (List.replicate 32 0)) 120]) (fun q=>bz b.length-q.1) (0,v) (by simp) sbq ?_ ?_
 ·rw[Rj]
  exact sw
 rintro⟨k,u⟩ hk
 simp only at hk ⊢
 have hfl:=qL (Sha.pad b) k
 have hfb:=LC (Sha.pad b) k
 have hdl:((Sha.pad b).drop (64*k)).length=bz b.length-64*k:=by rw[List.length_drop,hpl]
 repeat (first|refine Bv ?_|refine Z82 fun _=>?_)
 refine an (by rfl) (fun h=>?_) (fun h=>?_)
 ·rw[hdl]at h
  have h64:64*k+64≤(Sha.pad b).length:=by omega
  have hcl:=Lq _ _ h64
  have hcb:=QS (Sd hb) k
  repeat (first|refine Bv ?_|refine Z82 fun _=>?_)
  have hX:List.take 64 (List.drop 0 (List.take 64 (List.drop (64*k) (Sha.pad b))))=List.take 64 (List.drop (64*k) (Sha.pad b)):=by rw[List.drop_zero,List.take_take,Nat.min_self]
  have hsl:=yX (blk:=List.take 64 (List.drop 0 (List.take 64 (List.drop (64*k) (Sha.pad b))))) hfl
  refine au (by rfl) ?_
  repeat (first|(refine Zqf (by intro _ _ _;(first|(refine af (by rfl) (by rfl) (by rfl) (FC (kZ (Sha.pad b) k) (List.take 64 (List.drop 0 (List.take 64 (List.drop (64*k) (Sha.pad b))))) hfl hfb (by rw[hX];exact hcl) (by rw[hX];exact hcb)) (fun _ _=>trivial) (by rfl) ?_)|refine Z01 ?_|refine Z02 ?_|refine Z15 ?_|refine Z16 ?_|refine Z17 ?_|refine Z18 ?_|refine Z20 ?_|refine Z21 ?_|refine Z22 ?_|refine Z23 ?_|refine Z36 ?_|refine Z37 ?_|refine Z38 ?_|refine Z42 ?_|refine Z44 ?_|refine Z45 ?_|refine Z62 ?_|refine Z63 ?_|refine Z66 ?_|refine Z71 ?_|refine Z74 ?_);exact Zq) ?_)|(refine Zqp (by intro _ _ _;(first|refine Z24 ?_|refine Z26 ?_|refine Z27 ?_|refine Z67 ?_|refine Z23 ?_|refine Z20 ?_|refine Z21 ?_|refine Z62 ?_|refine Z66 ?_);exact Zq) ?_)|refine fq ?_|refine Zqn ?_)
  refine Zq0 ?_ (by kernel_rfl)
  rw[hX,← Ek]
  have hfl':=qL (Sha.pad b) (k+1)
  repeat (first|refine Bv ?_|refine Z82 fun _=>?_)
  have hlen:(List.map (N .u8) (List.drop (64*k) (Sha.pad b))).length=bz b.length-64*k:=by rw[List.length_map,hdl]
  refine nH 64 (List.map (N .u8) (List.drop (64*k) (Sha.pad b))).length fd (by omega) (Nat.le_refl _) ?_
  have hY:List.drop 64 (List.take (List.map (N .u8) (List.drop (64*k) (Sha.pad b))).length (List.map (N .u8) (List.drop (64*k) (Sha.pad b))))=List.map (N .u8) (List.drop (64*(k+1)) (Sha.pad b)):=by
   rw[List.take_length,← List.map_drop,List.drop_drop];rfl
  rw[hY]
  exact ao (k+1,sub u 64 (List.map (N .u8) (List.drop (64*k) (Sha.pad b))).length) (by simp only;omega) (by simp only;omega) sbq sw
 ·rw[hdl]at h
  have hk':k=bz b.length/64:=by omega
  subst hk'
  have hbl:=Sha.sR (kZ (Sha.pad b) (bz b.length/64))
  have hal:(Sha.bytes (kZ (Sha.pad b) (bz b.length/64))).length=(List.replicate 32 0).length:=by rw[hbl];rfl
  repeat (first|refine Bv ?_|refine Z82 fun _=>?_)
  refine az (ι:=Nat) (fun i=>i≤32) (fun i=>[(20,N .i64 i),(2,pt b1 0),(4,pt b2 0)])
   (fun i=>[.blk b1 (LV .u8 (js (Sha.bytes (kZ (Sha.pad b) (bz b.length/64))) (List.replicate 32 0) i)) 120,.blk b2 (LV .u32 (kZ (Sha.pad b) (bz b.length/64))) 174]) (fun i=>32-i) 0 (by omega) sbq (by rw[vx];exact sw) ?_
  intro i hi
  have hml:=mT hal i
  rw[List.length_replicate]at hml
  repeat (first|refine Bv ?_|refine Z82 fun _=>?_)
  refine an (by rfl) (fun hi'=>?_) (fun hi'=>?_)
  ·repeat (first|refine Bv ?_|refine Z82 fun _=>?_)
   rw[← Sha.z5 _ hi',mU hal (by simp;omega)]
   exact ao (i+1) (by omega) (by omega) sbq sw
  ·have h32:i=32:=by omega
   subst h32
   have hm:js (Sha.bytes (kZ (Sha.pad b) (bz b.length/64))) (List.replicate 32 0) 32=Sha.sum b:=by
    rw[NC];exact mS hal
   rw[hm]at hml ⊢
   repeat (first|refine Bv ?_|refine Z82 fun _=>?_)
   refine Zec fun _ hw=>aa hw SubW.nil ⟨?_,rfl⟩
   rfl
theorem FG{xs ys:List Nat}{i:Nat}(h:i<xs.length)(h':i<ys.length)(he:xs.take i=ys.take i)(hd:xs.getD i 0=ys.getD i 0):xs.take (i+1)=ys.take (i+1):=by
 rw[List.take_succ_eq_append_getElem h,List.take_succ_eq_append_getElem h',he]
 simp only[List.getD_eq_getElem?_getD,List.getElem?_eq_getElem h,List.getElem?_eq_getElem h',Option.getD_some]at hd
 rw[hd]
theorem li{a b:Prop}(k:b)(h:Rm b→a:=by intro k;(first|refine Z01 ?_|refine Z02 ?_|refine Z03 ?_|refine Z04 ?_|refine Z05 ?_|refine Z06 ?_|refine Z07 ?_|refine Z08 ?_|refine Z09 ?_|refine Z10 ?_|refine Z11 ?_|refine Z12 ?_|refine Z13 ?_|refine Z14 ?_|refine Z15 ?_|refine Z17 ?_|refine Z18 ?_|refine Z20 ?_|refine Z21 ?_|refine Z22 ?_|refine Z23 ?_|refine Z24 ?_|refine Z26 ?_|refine Z27 ?_|refine Z67 ?_);exact k.h):a:=h ⟨k⟩
set_option maxHeartbeats 1000000 in
theorem tM(s t:Value)(xs ys:List Nat)(hl:xs.length<4294967296):
  Spec Tryz.prog 10 [s,t] (fun w=>Rd w s (xs.map (N .u8))∧Rd w t (ys.map (N .u8))) [] (IsV (.bool (decide (xs=ys)))):=by
 refine ad Tryz.func10 rfl rfl rfl fun w hr=>?_
 have hr1:=RdC.mk0 hr.1
 have hr2:=RdC.mk0 hr.2
 repeat (first|refine li ?_)
 refine an (by rfl) (fun h=>?_) (fun h=>?_)
 ·repeat (first|refine li ?_)
  refine Ze1 fun _ hw=>aa hw SubW.nil ⟨?_,rfl⟩
  have:xs≠ys:=fun e=>h (by rw[e])
  simp[this]
 ·have h:xs.length=ys.length:=by omega
  repeat (first|refine li ?_)
  refine az (ι:=Nat) (fun i=>i≤xs.length∧xs.take i=ys.take i) (fun i=>[(0,s),(1,t),(5,N .i64 i)]) (fun i=>[]) (fun i=>xs.length-i) 0 (by simp) sbq sw ?_
  rintro i ⟨hi,he⟩
  repeat (first|refine li ?_)
  refine an (by rfl) (fun hi'=>?_) (fun hi'=>?_)
  ·repeat (first|refine li ?_)
   refine au (by rfl) ?_
   repeat (first|(refine Zqf (by intro _ _ _;(first|refine Z01 ?_|refine Z02 ?_|refine Z15 ?_|refine Z17 ?_|refine Z18 ?_|refine Z20 ?_|refine Z21 ?_|refine Z22 ?_|refine Z23 ?_);exact Zq) ?_)|refine zJ ?_|refine Zqn ?_)
   refine Zq0 ?_ (by kernel_rfl)
   repeat (first|refine li ?_)
   refine an (by rfl) (fun hd=>?_) (fun hd=>?_)
   ·repeat (first|refine li ?_)
    refine Ze1 fun _ hw=>aa hw SubW.nil ⟨?_,rfl⟩
    have:xs≠ys:=fun e=>hd (by rw[e])
    simp[this]
   ·repeat (first|refine li ?_)
    exact ao (i+1) ⟨by omega,FG hi' (by omega) he (Decidable.not_not.mp hd)⟩ (by omega) sbq sw
  ·have:i=xs.length:=by omega
   subst this
   repeat (first|refine li ?_)
   refine Ze1 fun _ hw=>aa hw SubW.nil ⟨?_,rfl⟩
   rw[List.take_length,h,List.take_length]at he
   simp[he]
end
end Go.Proofs.YtndhfbecpghinaaGreat.L
namespace Go.Proofs.YtndhfbecpghinaaGreat.L.R
open Go Go.Proofs.YtndhfbecpghinaaGreat.L
inductive Kd where
 | free
 | pin
 | eff
 | alc
def Kd.isEff:Kd→Bool
 | .eff=>true
 | .alc=>true
 | _=>false
def mQ:Kd→Kd→Bool
 | .eff,.pin=>true
 | .pin,.eff=>true
 | _,_=>false
def kg(kd:Kd)(W:List Res):List Res:=match kd with
 | .free=>[]
 | _=>W
theorem w5{c:Cx}{W:List Res}{w:World}:∀{A:List Res},SatW c (A++W) w→SatW c W w
 | [],h=>h
 | r::A,h=>w5 (A:=A) (SatW.drop (r:=r) h)
theorem El{c:Cx}{A W W':List Res}{w w':World}(h:SatW c (A++W) w)(h1:SatW ⟨w,fps W⟩ W' w'):SatW c (A++W') w':=by
 have hnd0:=h.nd
 have hown:=h.own
 simp only[fps,List.flatMap_append]at hnd0
 obtain⟨n1,n2,n3⟩:=List.nodup_append.1 hnd0
 simp only[fps,List.flatMap_append,List.mem_append]at hown
 have hlt:=h.lt
 simp only[fps,List.flatMap_append,List.mem_append]at hlt
 refine⟨h.ext.trans h1.ext (fun x hx=>hown x (.inr hx)),?_,?_,?_⟩
 ·intro r hr
  rcases List.mem_append.1 hr with hr | hr
  ·refine Res.holds_congr (h.holds r (List.mem_append.2 (.inl hr))) fun b hb=>?_
   refine h1.ext.block b (Res.fp_lt (h.holds r (List.mem_append.2 (.inl hr))) b hb) fun hin=>?_
   exact n3 b (List.mem_flatMap.2 ⟨r,hr,hb⟩) b hin rfl
  ·exact h1.holds r hr
 ·intro b hb
  simp only[fps,List.flatMap_append,List.mem_append]at hb
  rcases hb with hb | hb
  ·exact hown b (.inl hb)
  ·rcases h1.own b hb with h2 | h2
   ·exact .inl (Nat.le_trans h.ext.size h2)
   ·exact hown b (.inr h2)
 ·simp only[fps,List.flatMap_append]
  refine List.nodup_append.2 ⟨n1,h1.nd,fun x hx y hy hxy=>?_⟩
  subst hxy
  rcases h1.own x hy with h2 | h2
  ·have:=hlt x (.inl hx);simp only at h2;omega
  ·exact n3 x hx x h2 rfl
abbrev En:=List (Nat×Kd)
def Qu(anc:List Nat)(j i:Nat):Bool:=Nat.testBit (anc.getD j 0) i
def ke(os:List Oper)(anc:List Nat)(x y:Nat×Kd):Bool:=
  (match os[x.1]?,os[y.1]? with
   | some o,some p=>!ix os.toArray o p||Qu anc y.1 x.1
   | _,_=>false)&&(!mQ x.2 y.2||Qu anc y.1 x.1) && !Nat.beq x.1 y.1
def eV{α:Type}(R:α→α→Bool):List α→Bool
 | []=>true
 | x::r=>r.all (R x)&&eV R r
theorem cJ{α:Type}{R:α→α→Bool}:∀{l:List α},eV R l=true→∀{i j:Nat}{x y:α},i<j→l[i]?=some x→l[j]?=some y→R x y=true
 | [],_,i,j,x,y,_,hx,_=>by simp at hx
 | z::r,h,i,j,x,y,hij,hx,hy=>by
  simp only[eV,Bool.and_eq_true]at h
  cases j with
  | zero=>omega
  | succ j=>
   have hy':r[j]?=some y:=by simpa using hy
   cases i with
   | zero=>
    simp at hx;subst hx
    exact List.all_eq_true.1 h.1 y (List.mem_of_getElem? hy')
   | succ i=>exact cJ h.2 (i:=i) (j:=j) (by omega) (by simpa using hx) hy'
def iu(os:List Oper)(E:En):Bool:=mw os 0 (dA os [])&&eV (ke os (dA os [])) E
def f4(os:List Oper)(is rest:List Nat)(E:En):Bool:=
 rest.all (fun j=>is.any (fun i=>Qu (dA os []) j i))&&(List.range os.length).all (fun j=>is.any (Nat.beq j)||rest.any (Nat.beq j)||E.any (fun e=>Nat.beq e.1 j))
def Ho(os:List Oper)(E:En):Bool:=(List.range os.length).all (fun j=>E.any (fun e=>Nat.beq e.1 j))
def iv(i:Nat)(E:En):Bool:=!E.any (fun e=>Nat.beq e.1 i)
section
variable (P:Program) (c:Cx) (n:Nn)
def OpN(W:List Res)(Φ:Option (Nat×Value)→List Res→Prop)(lr:Sl)(o:Oper):Prop:=
 ∀w0 m,SatW c W w0→Go ⟨w0,fps W⟩ n (lr++m) W (wpList P #[] (fun e a w=>e = .normal∧∃u W',Φ u W'∧SatA n (u.toList++(lr++m)) a∧SatW ⟨w0,fps W⟩ W' w) [o])
end
inductive QF (P:Program) (c:Cx) (n:Nn) (os:List Oper) (K:Act→World→Prop):En→List Res→Sl→List Nat→Prop
 | fin {E:En} {W:List Res} {l:Sl} (hc:iu os E=true) (hf:Ho os E=true) (hk:Go c n l W K):QF P c n os K E W l []
 | val {E:En} {W:List Res} {l:Sl} {i d:Nat} {o:Oper} {v:Value} {rest:List Nat} (kd:Kd) (hk:kd.isEff=false) (hi:iv i E=true) (ho:os[i]?=some o) (hd:o.dst=some d) (hn:Nat.blt d n.sz=true)
   (hg:bO os.toArray l o=some true) (h:OpV P c n (kg kd W) (kg kd W) (bR os.toArray o l) (noG o) (some (d,v)))
   (hr:QF P c n os K (E++[(i,kd)]) W ((d,v)::l) rest):QF P c n os K E W l (i::rest)
 | no {E:En} {W:List Res} {l:Sl} {i d:Nat} {o:Oper} {rest:List Nat} (hi:iv i E=true) (ho:os[i]?=some o) (hd:o.dst=some d) (hn:Nat.blt d n.sz=true)
   (hg:bO os.toArray l o=some false) (hr:QF P c n os K (E++[(i,.free)]) W ((d,undef)::l) rest):QF P c n os K E W l (i::rest)
 | nd {E:En} {W:List Res} {l:Sl} {is rest:List Nat} {o:Nat→Oper} {Φ:Nat→Option (Nat×Value)→List Res→Prop} {kd:Nat→Kd} {nx:Nat→List Nat} (hne:is≠[]) (hi:∀i∈is,iv i E=true) (ho:∀i∈is,os[i]?=some (o i))
   (hc:∀i∈is,iu os (E++[(i,kd i)])=true) (hdesc:f4 os is rest E=true) (hΦ:∀i∈is,∀u W',Φ i u W'→(o i).dst=u.map (·.1)∧(∀d,(o i).dst=some d→Nat.blt d n.sz=true)∧(kd i = .eff∨(kd i = .alc∧∃B,W'=B++W)))
   (hg:∀i∈is,bO os.toArray l (o i)=some true) (h:∀i∈is,OpN P c n W (Φ i) (bR os.toArray (o i) l) (noG (o i)))
   (hr:∀i∈is,∀u W',Φ i u W'→QF P c n os K (E++[(i,kd i)]) W' (u.toList++l) (nx i)):QF P c n os K E W l (is++rest)
theorem d9:∀(us vs:Pu)(D:Nat→Bool)(i:Nat)(l:Sl),cur (us++vs) D i l=cur vs D (i+us.length) (cur us D i l)
 | [],vs,D,i,l=>by simp[cur]
 | u::r,vs,D,i,l=>by
  simp only[List.cons_append,cur,List.length_cons]
  rw[d9 r vs D (i+1)]
  congr 1;omega
theorem iU:∀(us:Pu)(D D':Nat→Bool)(i:Nat)(l:Sl),(∀j,j<us.length→D (i+j)=D' (i+j))→cur us D i l=cur us D' i l
 | [],D,D',i,l,_=>rfl
 | u::r,D,D',i,l,h=>by
  simp only[cur]
  have h0:=h 0 (by simp)
  simp only[Nat.add_zero]at h0
  rw[h0,iU r D D' (i+1) _ (fun j hj=>by have:=h (j+1) (by simpa using hj);rw[show i+1+j=i+(j+1) by omega];exact this)]
def dn(L:Array Bool)(E:En)(k:Nat):Bool:=match E[k]? with
 | some e=>L.getD e.1 false
 | none=>false
section
variable {P:Program} {c:Cx} {n:Nn} {os:List Oper} {Q:Exit→Act→World→Prop}
structure InvP (P:Program) (c:Cx) (n:Nn) (os:List Oper) (l0:Sl) (E:En) (us:Pu) (W:List Res) (l:Sl) (L:Array Bool) (a:Act) (w:World):Prop where
 size:L.size=os.length
 clo:∀i j,L.getD i false=true→Nat.testBit ((dA os []).getD i 0) j=true→L.getD j false=true
 sub:∀i,L.getD i false=true→∃(k:Nat)(e:Nat×Kd),E[k]?=some e∧e.1=i
 len:us.length=E.length
 fr:SatA n (cur us (dn L E) 0 l0) a
 wd:SatW c W w
 txt:l=cur us (fun _=>true) 0 l0
 ents:∀(k:Nat)(e:Nat×Kd)(u:Option (Nat×Value)),E[k]?=some e→us[k]?=some u→∃o,os[e.1]?=some o∧o.dst=u.map (·.1)∧(∀d,o.dst=some d→Nat.blt d n.sz=true) ∧
  (L.getD e.1 false=true∨(bO os.toArray (cur (us.take k) (fun _=>true) 0 l0) o=some true∧e.2.isEff=false∧∃A Wk,W=A++Wk∧(e.2 = .free→Wk=[])∧OpV P c n Wk Wk (bR os.toArray o (cur (us.take k) (fun _=>true) 0 l0)) (noG o) u) ∨
   (bO os.toArray (cur (us.take k) (fun _=>true) 0 l0) o=some false∧∃d,u=some (d,undef)))
theorem lW{L:Array Bool}{i:Nat}(hL:L.size=os.length)(hi:i∈Region.ready .any os.toArray L):∃o,os[i]?=some o∧L.getD i false=false∧i<os.length∧∀d∈gk o,L.getD d false=true:=by
 simp only[Region.ready,List.size_toArray,List.mem_filter,List.mem_range,Bool.and_eq_true,Bool.not_eq_true']at hi
 obtain⟨hlt,hnl,hdeps⟩:=hi
 obtain⟨o,ho⟩:∃o,os[i]?=some o:=⟨os[i],by simp[hlt]⟩
 refine⟨o,ho,?_,hlt,fun d hd=>?_⟩
 ·rw[Array.getD_eq_getD_getElem?]at hnl ⊢
  rw[Array.getElem?_eq_getElem (by omega)]at hnl ⊢
  simpa using hnl
 ·have ho':os.toArray[i]?=some o:=by simpa using ho
  rw[ho']at hdeps
  simp only[Option.map_some,Option.getD_some]at hdeps
  obtain⟨e,he,rfl⟩:=List.mem_map.1 hd
  rw[List.mem_filter]at he
  have hx:=Array.all_eq_true'.1 hdeps e (by simpa using he.1)
  simpa[he.2]using hx
theorem oz{L:Array Bool}(hanc:mw os 0 (dA os [])=true)(hL:L.size=os.length)(hr:Region.ready .any os.toArray L=[]):∀i,i<os.length→L.getD i false=true:=by
 intro i
 induction i using Nat.strongRecOn with
 | _ i ih=>
  intro hi
  by_cases hd:L.getD i false=true
  ·exact hd
  ·exfalso
   have hd':L.getD i true=false:=by
    rw[Array.getD_eq_getD_getElem?,Array.getElem?_eq_getElem (by omega)]at hd ⊢
    simpa using hd
   have hm:i∈Region.ready .any os.toArray L:=by
    simp only[Region.ready,List.size_toArray,List.mem_filter,List.mem_range,Bool.and_eq_true,Bool.not_eq_true']
    refine⟨hi,hd',?_⟩
    have ho:os[i]?=some os[i]:=by simp[hi]
    have ho':os.toArray[i]?=some os[i]:=by simp[hi]
    rw[ho']
    simp only[Option.map_some,Option.getD_some]
    rw[Array.all_eq_true']
    intro e he
    by_cases hb:Region.binds .any e=true
    ·have hdep:e.on∈gk os[i]:=List.mem_map.2 ⟨e,List.mem_filter.2 ⟨by simpa using he,hb⟩,rfl⟩
     have hlt:=(gR hanc ho).1 _ hdep
     simp only[Nat.zero_add]at hlt
     simp[ih e.on hlt (by omega)]
    ·simp[hb]
   rw[hr]at hm;cases hm
theorem lV{L:Array Bool}(hL:L.size=os.length)(hf:os.length-(L.toList.filter id).length=0):Region.ready .any os.toArray L=[]:=by
 have hcount:(L.toList.filter id).length=L.toList.length:=by
  have:=List.length_filter_le id L.toList
  simp only[Array.length_toList]at this ⊢
  omega
 rw[List.eq_nil_iff_forall_not_mem]
 intro i hi
 obtain⟨o,ho,hnl,hlt,_⟩:=lW hL hi
 have hallt:=List.length_filter_eq_length_iff.1 hcount
 have:L[i]'(by omega)=true:=by
  have:=hallt (L[i]'(by omega)) (by simp)
  simpa using this
 rw[Array.getD_eq_getD_getElem?,Array.getElem?_eq_getElem (by omega)]at hnl
 simp[this]at hnl
theorem kT{L:Array Bool}{i:Nat}(hL:L.size=os.length)(hlt:i<os.length)(j:Nat):(L.setIfInBounds i true).getD j false=if j=i then true else L.getD j false:=by
 simp only[Array.getD_eq_getD_getElem?]
 by_cases hj:j=i
 ·subst hj;simp[hL,hlt]
 ·rw[Array.getElem?_setIfInBounds_ne (fun e=>hj e.symm),if_neg hj]
theorem oD{L:Array Bool}{i fuel:Nat}(hL:L.size=os.length)(hlt:i<os.length)(hnl:L.getD i false=false)(hf:os.length-(L.toList.filter id).length=fuel+1):
  os.length-((L.setIfInBounds i true).toList.filter id).length=fuel:=by
 have e:((L.setIfInBounds i true).toList.filter id).length=(L.toList.filter id).length+1:=by
  rw[Array.toList_setIfInBounds]
  have hli:i<L.toList.length:=by simpa[hL]using hlt
  have hv:L.toList[i]=false:=by
   rw[Array.getD_eq_getD_getElem?,Array.getElem?_eq_getElem (by omega)]at hnl
   simpa using hnl
  rw[List.set_eq_take_append_cons_drop,if_pos hli]
  conv=>rhs;rw[← List.take_append_drop i L.toList,List.drop_eq_getElem_cons hli,hv]
  simp only[List.filter_append,List.length_append,List.filter_cons,id,if_true,List.length_cons]
  simp
  omega
 rw[e];omega
theorem Cr{l0:Sl}{E:En}{us:Pu}{W:List Res}{l:Sl}{L:Array Bool}{a:Act}{w:World}(hI:InvP P c n os l0 E us W l L a w){i k:Nat}{o:Oper}(_:os[i]?=some o)(hnl:L.getD i false=false)
  (hanci:∀j,Nat.testBit ((dA os []).getD i 0) j=true→L.getD j false=true) (_:k≤E.length)
  (hbef:∀(j:Nat)(e:Nat×Kd),E[j]?=some e→j<k→∀y:Oper,os[e.1]?=some y→ix os.toArray y o=true→Nat.testBit ((dA os []).getD i 0) e.1=true)
  (hbeh:∀(j:Nat)(e:Nat×Kd),E[j]?=some e→k≤j→∀y:Oper,os[e.1]?=some y→ix os.toArray o y=true→e.1=i∨Nat.testBit ((dA os []).getD e.1 0) i=true):
  (∀t∈fa os.toArray o,lk (cur us (dn L E) 0 l0) t=lk (cur (us.take k) (fun _=>true) 0 l0) t) ∧
  (∀t,o.dst=some t→∀(j:Nat)(x:Option (Nat×Value)),us[j]?=some x→gq x t→k≤j→dn L E j=false):=by
 have hwr:∀(j:Nat)(x:Option (Nat×Value))(t:Nat),us[j]?=some x→gq x t→∃(e:Nat×Kd)(y:Oper),E[j]?=some e∧os[e.1]?=some y∧y.dst=some t:=by
  intro j x t hx ⟨v,hv⟩
  have hjl:j<E.length:=by
   rcases Nat.lt_or_ge j us.length with h | h
   ·have:=hI.len;omega
   ·rw[List.getElem?_eq_none h]at hx;cases hx
  obtain⟨o',ho',hd',_⟩:=hI.ents j E[j] x (by simp[hjl]) hx
  exact⟨E[j],o',by simp[hjl],ho',by rw[hd',hv];rfl⟩
 have hback:∀j e y,E[j]?=some e→k≤j→os[e.1]?=some y→ix os.toArray o y=true→dn L E j=false:=by
  intro j e y he hkj hy hc
  simp only[dn,he]
  rcases hbeh j e he hkj y hy hc with h | h
  ·rw[h];exact hnl
  ·cases hj:L.getD e.1 false
   ·rfl
   ·have:=hI.clo e.1 i hj h;rw[hnl]at this;cases this
 refine⟨fun t ht=>?_,fun t hdt j x hx hw hkj=>?_⟩
 ·refine kb us _ 0 l0 t k (fun j x hx hw hji=>?_) (fun j x hx hw hij=>?_)
  ·obtain⟨e,y,he,hy,hyd⟩:=hwr j x t hx hw
   simp only[Nat.zero_add,dn,he]
   refine hanci _ (hbef j e he hji y hy ?_)
   simp only[ix,hyd,Bool.or_eq_true]
   exact .inl (.inr (List.any_eq_true.2 ⟨t,ht,Nat.beq_refl t⟩))
  ·obtain⟨e,y,he,hy,hyd⟩:=hwr j x t hx hw
   simp only[Nat.zero_add]
   refine hback j e y he hij hy ?_
   simp only[ix,hyd,Bool.or_eq_true]
   exact .inr (List.any_eq_true.2 ⟨t,ht,Nat.beq_refl t⟩)
 ·obtain⟨e,y,he,hy,hyd⟩:=hwr j x t hx hw
  refine hback j e y he hkj hy ?_
  simp only[ix,hdt,Bool.or_eq_true]
  refine .inl (.inl ?_)
  simp[HP,hyd,Nat.beq_refl]
theorem oJ{ops:Array Oper}{ltxt:Sl}{a:Act}{o:Oper}{b:Bool}(hg:bO ops ltxt o=some b)
  (hyield:∀j want,o.guard=some (j,want)→∀t,(ops[j]?).bind (·.dst)=some t→∀v,lk ltxt t=some v→a.tmps[t]?=some v):Region.wanted o (yielded ops a.tmps)=b:=by
 unfold bO at hg
 unfold Region.wanted
 cases hgd:o.guard with
 | none=>simp[hgd]at hg;rw[hg]
 | some jw=>
  obtain⟨j,want⟩:=jw
  simp only[hgd]at hg ⊢
  cases hj:(ops[j]?).bind (·.dst)with
  | none=>rw[hj]at hg;cases hg
  | some t=>
   simp only[hj]at hg
   cases hv:lk ltxt t with
   | none=>rw[hv]at hg;cases hg
   | some v=>
    have hav:=hyield j want hgd t hj v hv
    rw[hv]at hg
    unfold yielded
    rw[hj]
    cases v <;> simp at hg
    ·simp[hav,hg]
    ·subst hg;simp[hav]
theorem ou{anc:List Nat}{x y:Nat×Kd}(h:ke os anc x y=true){o p:Oper}(ho:os[x.1]?=some o)(hp:os[y.1]?=some p)(hc:ix os.toArray o p=true):Nat.testBit (anc.getD y.1 0) x.1=true:=by
 simp only[ke,ho,hp,hc,Bool.not_true,Bool.false_or,Bool.and_eq_true]at h
 exact h.1.1
theorem Ms{anc:List Nat}{x y:Nat×Kd}(h:ke os anc x y=true)(hm:mQ x.2 y.2=true):Nat.testBit (anc.getD y.1 0) x.1=true:=by
 simp only[ke,hm,Bool.not_true,Bool.false_or,Bool.and_eq_true]at h
 exact h.1.2
theorem IA{anc:List Nat}{x y:Nat×Kd}(h:ke os anc x y=true):x.1≠y.1:=by
 simp only[ke,Bool.and_eq_true,Bool.not_eq_true']at h
 exact RW h.2
theorem Iq{o:Oper}{a:Act}{w:World}{K:Act→World→Prop}{Q:Exit→Act→World→Prop}(h:(noG o).wp P a w K Q):o.wp P a w K Q:=h
theorem bC{ops:Array Oper}{Q Q':Exit→Act→World→Prop}{o:Oper}{a:Act}{w:World}(h:wpList P ops Q [o] a w)(hg:o.guard=none)(hQ:∀e a w,Q e a w→e = .normal)
  (hm:∀a w,Q .normal a w→Q' .normal a w):wpList P ops Q' [o] a w:=by
 rcases fX h hg with h1 | ⟨_,a0,w0,hq⟩
 ·simp only[wpList]
  rw[if_pos (by simp[Region.wanted,hg])]
  left
  exact fc h1 hm hQ
 ·exact absurd (hQ _ _ _ hq) (by simp)
theorem wO{lr:Sl}{u:Option (Nat×Value)}{base:Sl}{a a':Act}(hA:SatA n base a)(hlr:∀t v,lk lr t=some v→a.tmps[t]?=some v)(hsa:SatA n (u.toList++(lr++iR a n.sz)) a'):
  ∀t v,lk (u.toList++base) t=some v→a'.tmps[t]?=some v:=by
 intro t v ht
 refine hsa.at_ t v ?_
 rw[dI]at ht ⊢
 cases hut:lk u.toList t with
 | some v'=>rw[hut]at ht;exact ht
 | none=>
  rw[hut]at ht
  simp only at ht ⊢
  have hat':=hA.at_ t v ht
  rw[dI]
  cases hr:lk lr t with
  | some v'=>
   have:=hlr t v' hr
   rw[this]at hat';exact hat'
  | none=>
   have htn:t<n.sz:=by
    rcases Nat.lt_or_ge t n.sz with h | h
    ·exact h
    ·rw[Array.getElem?_eq_none (by rw[hA.sz];exact h)]at hat';cases hat'
   exact kD a n.sz t v htn hat'
theorem BL{L:Array Bool}{i:Nat}(hL:L.size=os.length)(hlt:i<os.length)(hclo:∀i j,L.getD i false=true→Nat.testBit ((dA os []).getD i 0) j=true→L.getD j false=true)
  (hanci:∀j,Nat.testBit ((dA os []).getD i 0) j=true→L.getD j false=true):
  ∀p q,(L.setIfInBounds i true).getD p false=true→Nat.testBit ((dA os []).getD p 0) q=true→(L.setIfInBounds i true).getD q false=true:=by
 intro p q hp hq
 rw[kT hL hlt]at hp ⊢
 by_cases hqi:q=i
 ·simp[hqi]
 ·rw[if_neg hqi]
  by_cases hpi:p=i
  ·subst hpi;exact hanci q hq
  ·rw[if_neg hpi]at hp;exact hclo p q hp hq
theorem wR{L:Array Bool}{i:Nat}{o:Oper}(hanc:mw os 0 (dA os [])=true)(ho:os[i]?=some o)(hclo:∀i j,L.getD i false=true→Nat.testBit ((dA os []).getD i 0) j=true→L.getD j false=true)
  (hdeps:∀d∈gk o,L.getD d false=true):∀j,Nat.testBit ((dA os []).getD i 0) j=true→L.getD j false=true:=by
 intro j hj
 have hspec:=gR hanc ho
 simp only[Nat.zero_add]at hspec
 obtain⟨d,hd,he⟩:=hspec.2 j hj
 rcases he with rfl | he
 ·exact hdeps d hd
 ·exact hclo d j (hdeps d hd) he
theorem CD{l0:Sl}{E:En}{us:Pu}{W:List Res}{l:Sl}{L:Array Bool}{a:Act}{w:World}(hI:InvP P c n os l0 E us W l L a w)(hanc:mw os 0 (dA os [])=true)(hpairs:eV (ke os (dA os [])) E=true)
  {k:Nat} {e:Nat×Kd} (he:E[k]?=some e) {o:Oper} (ho:os[e.1]?=some o) (hnl:L.getD e.1 false=false) (hdeps:∀d∈gk o,L.getD d false=true) {K':Act→World→Prop}
  (hcont:∀a' w',InvP P c n os l0 E us W l (L.setIfInBounds e.1 true) a' w'→K' a' w'):wpOp P os.toArray Q e.1 K' a w:=by
 have hlt:e.1<os.length:=by
  rcases Nat.lt_or_ge e.1 os.length with h | h
  ·exact h
  ·rw[List.getElem?_eq_none h]at ho;cases ho
 have hkl:k<E.length:=by
  rcases Nat.lt_or_ge k E.length with h | h
  ·exact h
  ·rw[List.getElem?_eq_none h]at he;cases he
 have hanci:=wR hanc ho hI.clo hdeps
 obtain⟨u,hu⟩:∃u,us[k]?=some u:=⟨us[k]'(by have:=hI.len;omega),by have:=hI.len;simp[show k<us.length by omega]⟩
 obtain⟨o',ho',hdst,hinn,hsay⟩:=hI.ents k e u he hu
 rw[ho]at ho';cases ho'
 have hlook:=Cr hI ho hnl hanci (Nat.le_of_lt hkl)
  (fun j e' he' hjk y hy hc=>ou (cJ hpairs hjk he' he) hy ho hc)
  (fun j e' he' hkj y hy hc=>by
   rcases Nat.eq_or_lt_of_le hkj with rfl | hlt'
   ·rw[he]at he';cases he';exact .inl rfl
   ·exact .inr (ou (cJ hpairs hlt' he he') ho hy hc))
 have hfr:∀a',(∀t v,lk (u.toList++cur us (dn L E) 0 l0) t=some v→a'.tmps[t]?=some v)→a'.defers=n.df→a'.tmps.size=n.sz→SatA n (cur us (dn (L.setIfInBounds e.1 true) E) 0 l0) a':=by
  intro a' h1 h2 h3
  refine⟨h2,h3,fun t v ht=>h1 t v ?_⟩
  have hs:=lN us (dn L E) (dn (L.setIfInBounds e.1 true) E) 0 l0 t k u hu (by simp[dn,he,kT hI.size hlt]) (by simp[dn,he,hnl])
   (fun j hj=>by
    simp only[Nat.zero_add,dn]
    cases hj':E[j]? with
    | none=>rfl
    | some e'=>
     have hne:e'.1≠e.1:=by
      rcases Nat.lt_or_gt_of_ne hj with h | h
      ·exact IA (cJ hpairs h hj' he)
      ·exact fun q=>IA (cJ hpairs h he hj') q.symm
     simp only[kT hI.size hlt,if_neg hne])
  by_cases hw:gq u t
  ·obtain⟨v',hv'⟩:=hw
   have hod:o.dst=some t:=by rw[hdst,hv'];rfl
   have:=hs.2 v' hv' (fun j x hx hw hij=>by
    simp only[Nat.zero_add]
    exact hlook.2 t hod j x hx hw (Nat.le_of_lt hij))
   rw[this]at ht;cases ht
   rw[hv'];simp[lk]
  ·rw[hs.1 hw]at ht
   rw[q7 hw];exact ht
 have hinv:∀a' w',SatA n (cur us (dn (L.setIfInBounds e.1 true) E) 0 l0) a'→SatW c W w'→InvP P c n os l0 E us W l (L.setIfInBounds e.1 true) a' w':=by
  intro a' w' h1 h2
  refine⟨by simp[hI.size],BL hI.size hlt hI.clo hanci,fun j hj=>?_,hI.len,h1,h2,hI.txt,fun k' e' u' he' hu'=>?_⟩
  ·rw[kT hI.size hlt]at hj
   by_cases hji:j=e.1
   ·exact⟨k,e,he,hji.symm⟩
   ·rw[if_neg hji]at hj;exact hI.sub j hj
  ·obtain⟨o2,h1,h2,h3,h4⟩:=hI.ents k' e' u' he' hu'
   refine⟨o2,h1,h2,h3,?_⟩
   rcases h4 with h4 | h4 | h4
   ·left;rw[kT hI.size hlt];split
    ·rfl
    ·exact h4
   ·exact .inr (.inl h4)
   ·exact .inr (.inr h4)
 have hyield:∀j want,o.guard=some (j,want)→∀t,(os.toArray[j]?).bind (·.dst)=some t→∀v,lk (cur (us.take k) (fun _=>true) 0 l0) t=some v→a.tmps[t]?=some v:=by
  intro j want hg t ht v hv
  have htn:t∈fa os.toArray o:=by
   simp only[fa,List.mem_append,Ca,hg]
   left;rw[ht];simp
  exact hI.fr.at_ t v (by rw[hlook.1 t htn];exact hv)
 unfold wpOp
 rw[show os.toArray[e.1]?=some o by simpa using ho]
 rcases hsay with hd | ⟨hg,hne,A,Wk,hWA,_,hV⟩ | ⟨hg,d,hud⟩
 ·rw[hnl]at hd;cases hd
 ·have hwant:=oJ hg hyield
  simp only[hwant,if_true]
  left
  have hpinW:SatW c Wk w:=w5 (A:=A) (hWA ▸ hI.wd)
  have hlr:∀t v,lk (bR os.toArray o (cur (us.take k) (fun _=>true) 0 l0)) t=some v→a.tmps[t]?=some v:=fun t v ht=>by
   obtain⟨h1,h2⟩:=gN ht
   exact hI.fr.at_ t v (by rw[hlook.1 t h2];exact h1)
  have hstep:=hV w (iR a n.sz) hpinW a w ⟨hI.fr.dfr,hI.fr.sz,fun t v ht=>by
   rw[dI]at ht
   cases hr:lk (bR os.toArray o (cur (us.take k) (fun _=>true) 0 l0)) t with
   | some v'=>rw[hr]at ht;cases ht;exact hlr t v hr
   | none=>rw[hr]at ht;exact jX a n.sz t v ht⟩ ⟨Ext.refl _ _,hpinW.holds,fun b hb=>.inr hb,hpinW.nd⟩
  rcases fX hstep rfl with hstep | ⟨_,a0,w0,hq,_⟩
  case inr=>cases hq
  refine fc (Iq hstep) (fun a' w' hp=>hcont a' w' (hinv a' w' ?_ ?_)) (fun e _ _ hp=>hp.1)
  ·obtain⟨_,hsa,_⟩:=hp
   exact hfr a' (wO hI.fr hlr hsa) hsa.dfr hsa.sz
  ·obtain⟨_,_,hsw⟩:=hp
   rw[hWA]
   exact El (hWA ▸ hI.wd) hsw
 ·have hnw:=oJ hg hyield
  simp only[hnw,Bool.false_eq_true,if_false]
  have hod:o.dst=some d:=by rw[hdst,hud];rfl
  have hput:=hI.fr.put (v:=undef) (hinn d hod)
  rw[hod]
  exact hcont _ _ (hinv _ _ (hfr _ (fun t v ht=>hput.at_ t v (by rw[hud]at ht;exact ht)) hput.dfr hput.sz) hI.wd)
theorem qQ{α:Type}{E:List α}{x e:α}{k:Nat}(h:(E++[x])[k]?=some e):(k<E.length∧E[k]?=some e)∨(k=E.length∧e=x):=by
 rcases Nat.lt_or_ge k E.length with hk | hk
 ·rw[List.getElem?_append_left hk]at h;exact .inl ⟨hk,h⟩
 ·rw[List.getElem?_append_right hk]at h
  have:k-E.length=0:=by
   rcases Nat.eq_zero_or_pos (k-E.length)with h0 | h0
   ·exact h0
   ·rw[List.getElem?_eq_none (by simp;omega)]at h;cases h
  rw[this]at h;simp at h
  exact .inr ⟨by omega,h.symm⟩
theorem vA{E:En}{i:Nat}(h:iv i E=true):∀(k:Nat)(e:Nat×Kd),E[k]?=some e→e.1≠i:=by
 intro k e he hei
 simp only[iv,Bool.not_eq_true',List.any_eq_false]at h
 exact h e (List.mem_of_getElem? he) (by rw[hei];exact Nat.beq_refl i)
theorem D4{l0:Sl}{E:En}{W:List Res}{l:Sl}{rest:List Nat}(h:QF P c n os (Q .normal) E W l rest):∀(fuel:Nat)(us:Pu)(L:Array Bool)(a:Act)(w:World),
  (os.length-(L.toList.filter id).length=fuel)→InvP P c n os l0 E us W l L a w→wpAny P .any os.toArray Q fuel L a w:=by
 induction h with
 | fin hc hf hk=>
  rename_i E W l
  simp only[iu,Bool.and_eq_true]at hc
  obtain⟨hanc,hpairs⟩:=hc
  have hfin:∀(us:Pu)(L:Array Bool)(a:Act)(w:World),InvP P c n os l0 E us W l L a w→Region.ready .any os.toArray L=[]→Q .normal a w:=by
   intro us L a w hI hr
   have hd:=oz hanc hI.size hr
   refine hk a w ?_ hI.wd
   have e:=iU us (dn L E) (fun _=>true) 0 l0 (fun j hj=>by
    have hjl:j<E.length:=by have:=hI.len;omega
    obtain⟨o,ho,_⟩:=hI.ents j E[j] (us[j]) (by simp[hjl]) (by simp[hj])
    have hlt:(E[j]).1<os.length:=by
     rcases Nat.lt_or_ge (E[j]).1 os.length with h | h
     ·exact h
     ·rw[List.getElem?_eq_none h]at ho;cases ho
    simp only[Nat.zero_add,dn,List.getElem?_eq_getElem hjl]
    exact hd _ hlt)
   have hA:=hI.fr
   rw[e,← hI.txt]at hA
   exact hA
  intro fuel
  induction fuel with
  | zero=>intro us L a w hf hI;exact⟨lV hI.size hf,hfin us L a w hI (lV hI.size hf)⟩
  | succ fuel ih=>
   intro us L a w hfu hI
   refine⟨hfin us L a w hI,fun i hi=>?_⟩
   obtain⟨o,ho,hnl,hlt,hdeps⟩:=lW hI.size hi
   simp only[Ho,List.all_eq_true,List.mem_range]at hf
   obtain⟨e,hem,hei⟩:=List.any_eq_true.1 (hf i hlt)
   obtain⟨k,hk'⟩:=List.getElem?_of_mem hem
   have hei:=Nat.eq_of_beq_eq_true hei
   subst hei
   exact CD hI hanc hpairs hk' ho hnl hdeps (fun a' w' hI'=>ih us _ a' w' (oD hI.size hlt hnl hfu) hI')
 | val kd hk hi ho hd hn hg h hr ih=>
  rename_i E W l i d o v rest
  intro fuel us L a w hfu hI
  have hnew:=vA hi
  have hnd:L.getD i false=false:=by
   cases hx:L.getD i false
   ·rfl
   ·obtain⟨k,e,he,hei⟩:=hI.sub i hx;exact absurd hei (hnew k e he)
  refine ih fuel (us++[some (d,v)]) L a w hfu ⟨hI.size,hI.clo,fun j hj=>?_,by simp[hI.len],?_,hI.wd,?_,fun k e u he hu=>?_⟩
  ·obtain⟨k,e,he,hej⟩:=hI.sub j hj
   exact⟨k,e,by rw[List.getElem?_append_left];exact he;exact(List.getElem?_eq_some_iff.1 he).1,hej⟩
  ·rw[d9]
   have e1:cur us (dn L (E++[(i,kd)])) 0 l0=cur us (dn L E) 0 l0:=iU _ _ _ _ _ (fun j hj=>by
    simp only[Nat.zero_add,dn];rw[List.getElem?_append_left (by have:=hI.len;omega)])
   have e2:dn L (E++[(i,kd)]) (0+us.length)=false:=by
    simp only[Nat.zero_add,dn,hI.len,List.getElem?_concat_length];exact hnd
   simp only[cur,e2,Bool.false_eq_true,if_false,e1];exact hI.fr
  ·rw[d9,← hI.txt];simp[cur]
  ·rcases qQ he with⟨hkl,he'⟩ | ⟨rfl,rfl⟩
   ·have hu':us[k]?=some u:=by rwa [List.getElem?_append_left (by have:=hI.len;omega)]at hu
    have:=hI.ents k e u he' hu'
    rw[List.take_append_of_le_length (by have:=hI.len;omega)]
    exact this
   ·have hu':u=some (d,v):=by rw[← hI.len,List.getElem?_concat_length]at hu;exact(Option.some.inj hu).symm
    subst hu'
    refine⟨o,ho,by simpa using hd,fun d' hd'=>by rw[hd]at hd';cases hd';exact hn,.inr (.inl ?_)⟩
    rw[List.take_append_of_le_length (by have:=hI.len;omega),← hI.len,List.take_length,← hI.txt]
    refine⟨hg,hk,?_⟩
    cases kd with
    | free=>exact⟨W,[],by simp,fun _=>rfl,h⟩
    | pin=>exact⟨[],W,rfl,fun hx=>(by cases hx),h⟩
    | eff=>simp[Kd.isEff]at hk
    | alc=>simp[Kd.isEff]at hk
 | no hi ho hd hn hg hr ih=>
  rename_i E W l i d o rest
  intro fuel us L a w hfu hI
  have hnew:=vA hi
  have hnd:L.getD i false=false:=by
   cases hx:L.getD i false
   ·rfl
   ·obtain⟨k,e,he,hei⟩:=hI.sub i hx;exact absurd hei (hnew k e he)
  refine ih fuel (us++[some (d,undef)]) L a w hfu ⟨hI.size,hI.clo,fun j hj=>?_,by simp[hI.len],?_,hI.wd,?_,fun k e u he hu=>?_⟩
  ·obtain⟨k,e,he,hej⟩:=hI.sub j hj
   exact⟨k,e,by rw[List.getElem?_append_left];exact he;exact(List.getElem?_eq_some_iff.1 he).1,hej⟩
  ·rw[d9]
   have e1:cur us (dn L (E++[(i,.free)])) 0 l0=cur us (dn L E) 0 l0:=iU _ _ _ _ _ (fun j hj=>by
    simp only[Nat.zero_add,dn];rw[List.getElem?_append_left (by have:=hI.len;omega)])
   have e2:dn L (E++[(i,.free)]) (0+us.length)=false:=by
    simp only[Nat.zero_add,dn,hI.len,List.getElem?_concat_length];exact hnd
   simp only[cur,e2,Bool.false_eq_true,if_false,e1];exact hI.fr
  ·rw[d9,← hI.txt];simp[cur]
  ·rcases qQ he with⟨hkl,he'⟩ | ⟨rfl,rfl⟩
   ·have hu':us[k]?=some u:=by rwa [List.getElem?_append_left (by have:=hI.len;omega)]at hu
    have:=hI.ents k e u he' hu'
    rw[List.take_append_of_le_length (by have:=hI.len;omega)]
    exact this
   ·have hu':u=some (d,undef):=by rw[← hI.len,List.getElem?_concat_length]at hu;exact(Option.some.inj hu).symm
    subst hu'
    refine⟨o,ho,by simpa using hd,fun d' hd'=>by rw[hd]at hd';cases hd';exact hn,.inr (.inr ?_)⟩
    rw[List.take_append_of_le_length (by have:=hI.len;omega),← hI.len,List.take_length,← hI.txt]
    exact⟨hg,d,rfl⟩
 | nd hne hi ho hc hdesc hΦ hg h hr ih=>
  rename_i E W l is rest of Φf kf nx
  obtain⟨i0,hi0⟩:∃i,i∈is:=List.exists_mem_of_ne_nil _ hne
  have hanc:mw os 0 (dA os [])=true:=by
   have:=hc i0 hi0
   simp only[iu,Bool.and_eq_true]at this
   exact this.1
  have hpairs:eV (ke os (dA os [])) E=true:=by
   have h0:=hc i0 hi0
   simp only[iu,Bool.and_eq_true]at h0
   have:∀{X Y:En},eV (ke os (dA os [])) (X++Y)=true→eV (ke os (dA os [])) X=true:=by
    intro X
    induction X with
    | nil=>intro Y _;rfl
    | cons x r ihx=>
     intro Y hxy
     simp only[List.cons_append,eV,Bool.and_eq_true,List.all_append]at hxy ⊢
     exact⟨hxy.1.1,ihx hxy.2⟩
   exact this h0.2
  have hnew:=fun i hi'=>vA (hi i hi')
  intro fuel
  induction fuel with
  | zero=>
   intro us L a w hfu hI
   have hr0:=lV hI.size hfu
   have hd:=oz hanc hI.size hr0
   have hlt:i0<os.length:=(List.getElem?_eq_some_iff.1 (ho i0 hi0)).1
   obtain⟨k,e,he,hei⟩:=hI.sub i0 (hd i0 hlt)
   exact absurd hei (hnew i0 hi0 k e he)
  | succ fuel ihf=>
   intro us L a w hfu hI
   have hnds:∀i∈is,L.getD i false=false:=by
    intro i hi'
    cases hx:L.getD i false
    ·rfl
    ·obtain⟨k,e,he,hei⟩:=hI.sub i hx;exact absurd hei (hnew i hi' k e he)
   refine⟨fun hr0=>?_,fun j hj=>?_⟩
   ·have hd:=oz hanc hI.size hr0
    have h1:=hnds i0 hi0
    rw[hd i0 (List.getElem?_eq_some_iff.1 (ho i0 hi0)).1]at h1;cases h1
   obtain⟨p,hp,hnl,hlt,hdeps⟩:=lW hI.size hj
   have hanci:=wR hanc hp hI.clo hdeps
   simp only[f4,Bool.and_eq_true,List.all_eq_true,List.mem_range,Bool.or_eq_true]at hdesc
   have hcase:j∈is∨∃(k:Nat)(e:Nat×Kd),E[k]?=some e∧e.1=j:=by
    rcases hdesc.2 j hlt with(h1 | h1) | h1
    ·obtain⟨x,hx,hxj⟩:=List.any_eq_true.1 h1
     have hxj:=Nat.eq_of_beq_eq_true hxj
     subst hxj
     exact .inl hx
    ·obtain⟨x,hx,hxj⟩:=List.any_eq_true.1 h1
     have hxj:=Nat.eq_of_beq_eq_true hxj
     subst hxj
     obtain⟨i,hi',hb⟩:=List.any_eq_true.1 (hdesc.1 j hx)
     have hb:=hanci i hb
     rw[hnds i hi']at hb;cases hb
    ·obtain⟨e,hem,hej⟩:=List.any_eq_true.1 h1
     obtain⟨k,hk'⟩:=List.getElem?_of_mem hem
     exact .inr ⟨k,e,hk',Nat.eq_of_beq_eq_true hej⟩
   rcases hcase with hji | ⟨k,e,hk',rfl⟩
   case inr=>exact CD hI hanc hpairs hk' hp hnl hdeps (fun a' w' hI'=>ihf us _ a' w' (oD hI.size hlt hnl hfu) hI')
   have hpairsX:=hc j hji
   simp only[iu,Bool.and_eq_true]at hpairsX
   have hpairsX:=hpairsX.2
   have hnew:=hnew j hji
   have ho:=ho j hji
   have hΦ:=hΦ j hji
   have hg:=hg j hji
   have h:=h j hji
   have ih:=ih j hji
   rw[ho]at hp;cases hp
   generalize kf j=κ at *
   generalize Φf j=Φj at *
   generalize of j=o at *
   have hget:∀{k e},E[k]?=some e→(E++[(j,κ)])[k]?=some e:=fun{k e} he=>by
    rw[List.getElem?_append_left];exact he;exact(List.getElem?_eq_some_iff.1 he).1
   have hlast:(E++[(j,κ)])[E.length]?=some (j,κ):=by simp
   have hlook:=Cr hI ho hnl hanci (Nat.le_refl _)
    (fun j' e' he' hjk y hy hc=>ou (cJ hpairsX hjk (hget he') hlast) hy ho hc)
    (fun j' e' he' hkj=>by rw[List.getElem?_eq_none hkj]at he';cases he')
   have htk:us.take E.length=us:=by rw[← hI.len,List.take_length]
   rw[htk,← hI.txt]at hlook
   have hyield:∀j' want,o.guard=some (j',want)→∀t,(os.toArray[j']?).bind (·.dst)=some t→∀v,lk l t=some v→a.tmps[t]?=some v:=by
    intro j' want hg t ht v hv
    have htn:t∈fa os.toArray o:=by
     simp only[fa,List.mem_append,Ca,hg]
     left;rw[ht];simp
    exact hI.fr.at_ t v (by rw[hlook.1 t htn];exact hv)
   have hlr:∀t v,lk (bR os.toArray o l) t=some v→a.tmps[t]?=some v:=fun t v ht=>by
    obtain⟨h1,h2⟩:=gN ht
    exact hI.fr.at_ t v (by rw[hlook.1 t h2];exact h1)
   unfold wpOp
   rw[show os.toArray[j]?=some o by simpa using ho]
   have hwant:=oJ hg hyield
   simp only[hwant,if_true]
   left
   have hstep:=h w (iR a n.sz) hI.wd a w ⟨hI.fr.dfr,hI.fr.sz,fun t v ht=>by
    rw[dI]at ht
    cases hr':lk (bR os.toArray o l) t with
    | some v'=>rw[hr']at ht;cases ht;exact hlr t v hr'
    | none=>rw[hr']at ht;exact jX a n.sz t v ht⟩ ⟨Ext.refl _ _,hI.wd.holds,fun b hb=>.inr hb,hI.wd.nd⟩
   rcases fX hstep rfl with hstep | ⟨_,a0,w0,hq,_⟩
   case inr=>cases hq
   refine fc (Iq hstep) (fun a' w' hp=>?_) (fun e _ _ hp=>hp.1)
   obtain⟨_,u,W',hu,hsa,hsw⟩:=hp
   have hL':=kT hI.size hlt
   obtain⟨hdst,hinn,hkind⟩:=hΦ u W' hu
   refine ih u W' hu fuel (us++[u]) _ a' w' (oD hI.size hlt hnl hfu) ⟨by simp[hI.size],BL hI.size hlt hI.clo hanci,fun q hq=>?_,by simp[hI.len],?_,lZ hI.wd hsw,?_,fun k e u' he hu'=>?_⟩
   ·rw[hL']at hq
    by_cases hqj:q=j
    ·exact⟨E.length,(j,κ),hlast,hqj.symm⟩
    ·rw[if_neg hqj]at hq
     obtain⟨k,e,he,hej⟩:=hI.sub q hq
     exact⟨k,e,hget he,hej⟩
   ·rw[d9]
    have e1:cur us (dn (L.setIfInBounds j true) (E++[(j,κ)])) 0 l0=cur us (dn L E) 0 l0:=iU _ _ _ _ _ (fun q hq=>by
     have hql:q<E.length:=by have:=hI.len;omega
     simp only[Nat.zero_add,dn];rw[List.getElem?_append_left hql,List.getElem?_eq_getElem hql]
     simp only[hL',if_neg (hnew q E[q] (by simp[hql]))])
    have e2:dn (L.setIfInBounds j true) (E++[(j,κ)]) (0+us.length)=true:=by
     simp only[Nat.zero_add,dn,hI.len,List.getElem?_concat_length,hL',if_true]
    simp only[cur,e2,if_true,e1]
    exact⟨hsa.dfr,hsa.sz,wO hI.fr hlr hsa⟩
   ·rw[d9,← hI.txt];simp[cur]
   ·rcases qQ he with⟨hkl,he'⟩ | ⟨rfl,rfl⟩
    ·have hu2:us[k]?=some u':=by rwa [List.getElem?_append_left (by have:=hI.len;omega)]at hu'
     obtain⟨o2,h1,h2,h3,h4⟩:=hI.ents k e u' he' hu2
     rw[List.take_append_of_le_length (by have:=hI.len;omega)]
     refine⟨o2,h1,h2,h3,?_⟩
     have hdone:L.getD e.1 false=true→(L.setIfInBounds j true).getD e.1 false=true:=fun hx=>by rw[hL'];split;rfl;exact hx
     rcases h4 with h4 | ⟨g1,g2,A,Wk,g3,g4,g5⟩ | h4
     ·exact .inl (hdone h4)
     ·rcases hkind with rfl | ⟨rfl,B,hB⟩
      ·cases hkd:e.2 with
       | free=>
        have:=g4 hkd
        subst this
        exact .inr (.inl ⟨g1,rfl,W',[],by simp,fun _=>rfl,g5⟩)
       | pin=>
        refine .inl (hdone (hanci _ ?_))
        exact Ms (cJ hpairsX hkl (hget he') hlast) (by rw[hkd];rfl)
       | eff=>rw[hkd]at g2;simp[Kd.isEff]at g2
       | alc=>rw[hkd]at g2;simp[Kd.isEff]at g2
      ·exact .inr (.inl ⟨g1,g2,B++A,Wk,by rw[hB,g3,List.append_assoc],g4,g5⟩)
     ·exact .inr (.inr h4)
    ·have hu2:u'=u:=by rw[← hI.len,List.getElem?_concat_length]at hu';exact(Option.some.inj hu').symm
     subst hu2
     refine⟨o,ho,hdst,hinn,.inl ?_⟩
     rw[hL',if_pos rfl]
theorem ag{rid:Nat}{W:List Res}{l:Sl}(π:List Nat)(hm:P.follows .mixedOrders=true)(h:QF P c n os (Q .normal) [] W l π):Go c n l W ((Code.region rid os.toArray true).wp P Q):=by
 refine Na hm fun a w ha hw=>D4 (l0:=l) h _ [] _ a w ?_ ⟨by simp,?_,?_,rfl,ha,hw,rfl,?_⟩
 ·simp
 ·intro i j hi;simp[Array.getD_eq_getD_getElem?,Array.getElem?_replicate]at hi;split at hi <;> simp at hi
 ·intro i hi;simp[Array.getD_eq_getD_getElem?,Array.getElem?_replicate]at hi;split at hi <;> simp at hi
 ·intro k e u he;simp at he
variable {K:Act→World→Prop} {E:En} {W:List Res} {l:Sl} {i d:Nat} {o:Oper} {rest:List Nat}
theorem Zpf{v:Value}(ho:os[i]?=some o)(h:OpV P c n [] [] (bR os.toArray o l) (noG o) (some (d,v)))(hr:QF P c n os K (E++[(i,.free)]) W ((d,v)::l) rest)
  (hi:iv i E=true:=by rfl) (hd:o.dst=some d:=by rfl) (hn:Nat.blt d n.sz=true:=by rfl) (hg:bO os.toArray l o=some true:=by rfl):QF P c n os K E W l (i::rest):=
 QF.val .free rfl hi ho hd hn hg h hr
theorem Zpp{v:Value}(ho:os[i]?=some o)(h:OpV P c n W W (bR os.toArray o l) (noG o) (some (d,v)))(hr:QF P c n os K (E++[(i,.pin)]) W ((d,v)::l) rest)
  (hi:iv i E=true:=by rfl) (hd:o.dst=some d:=by rfl) (hn:Nat.blt d n.sz=true:=by rfl) (hg:bO os.toArray l o=some true:=by rfl):QF P c n os K E W l (i::rest):=
 QF.val .pin rfl hi ho hd hn hg h hr
theorem nd1{Φ:Option (Nat×Value)→List Res→Prop}(kd:Kd)(ho:os[i]?=some o)(hi:iv i E=true)(hc:iu os (E++[(i,kd)])=true)(hdesc:f4 os [i] rest E=true)
  (hΦ:∀u W',Φ u W'→o.dst=u.map (·.1)∧(∀d,o.dst=some d→Nat.blt d n.sz=true)∧(kd = .eff∨(kd = .alc∧∃B,W'=B++W)))
  (hg:bO os.toArray l o=some true) (h:OpN P c n W Φ (bR os.toArray o l) (noG o))
  (hr:∀u W',Φ u W'→QF P c n os K (E++[(i,kd)]) W' (u.toList++l) rest):QF P c n os K E W l (i::rest):=by
 refine QF.nd (is:=[i]) (nx:=fun _=>rest) (o:=fun _=>o) (Φ:=fun _=>Φ) (kd:=fun _=>kd) (by simp) ?_ ?_ ?_ hdesc ?_ ?_ ?_ ?_ <;> intro j hj <;> (have hj:=List.mem_singleton.1 hj;subst hj)
 ·exact hi
 ·exact ho
 ·exact hc
 ·exact hΦ
 ·exact hg
 ·exact h
 ·exact hr
def OpF(P:Program)(c:Cx)(n:Nn)(W:List Res)(F:Value→List Res)(d:Nat)(lr:Sl)(o:Oper):Prop:=
 ∀w0 m,SatW c W w0→Go ⟨w0,fps W⟩ n (lr++m) W (wpList P #[] (fun e a w=>e = .normal∧∃v,SatA n ((d,v)::(lr++m)) a∧SatW ⟨w0,fps W⟩ (F v) w) [o])
theorem Zpn{F:Value→List Res}(ho:os[i]?=some o)(h:OpF P c n W F d (bR os.toArray o l) (noG o))(hr:∀v,QF P c n os K (E++[(i,.eff)]) (F v) ((d,v)::l) rest)
  (hi:iv i E=true:=by rfl) (hd:o.dst=some d:=by rfl) (hn:Nat.blt d n.sz=true:=by rfl) (hg:bO os.toArray l o=some true:=by rfl)
  (hc:iu os (E++[(i,.eff)])=true:=by rfl) (hdesc:f4 os [i] rest E=true:=by rfl):QF P c n os K E W l (i::rest):=
 nd1 .eff (Φ:=fun u W'=>∃v,u=some (d,v)∧W'=F v) ho hi hc hdesc (fun u W' ⟨v,hu,_⟩=>by subst hu;exact⟨hd,fun d' hd'=>by rw[hd]at hd';cases hd';exact hn,.inl rfl⟩) hg
  (fun w0 m hw a w ha hw'=>bC (h w0 m hw a w ha hw') rfl (fun _ _ _ h=>h.1) fun a w ⟨h1,v,h2,h3⟩=>⟨h1,some (d,v),F v,⟨v,rfl,rfl⟩,h2,h3⟩)
  (fun u W' ⟨v,hu,hW⟩=>by subst hu;subst hW;exact hr v)
theorem Zpx{F:Value→List Res}{L:Sl}{v:Value}{W':List Res}(hF:F v=W':=by rfl):
  Go c n ((d,v)::L) W' (wpList P #[] (fun e a w=>e = .normal∧∃v,SatA n ((d,v)::L) a∧SatW c (F v) w) []):=
 fun _ _ ha hw=>wpList_nil ⟨rfl,v,ha,by rw[hF];exact hw⟩
def OpB(P:Program)(c:Cx)(n:Nn)(W:List Res)(F:Nat→List Res)(d:Nat)(lr:Sl)(o:Oper):Prop:=
 ∀w0 m,SatW c W w0→Go ⟨w0,fps W⟩ n (lr++m) W (wpList P #[] (fun e a w=>e = .normal∧∃b,SatA n ((d,pt b 0)::(lr++m)) a∧SatW ⟨w0,fps W⟩ (F b++W) w) [o])
theorem Zpb{F:Nat→List Res}(ho:os[i]?=some o)(h:OpB P c n W F d (bR os.toArray o l) (noG o))(hr:∀b,QF P c n os K (E++[(i,.alc)]) (F b++W) ((d,pt b 0)::l) rest)
  (hi:iv i E=true:=by rfl) (hd:o.dst=some d:=by rfl) (hn:Nat.blt d n.sz=true:=by rfl) (hg:bO os.toArray l o=some true:=by rfl)
  (hc:iu os (E++[(i,.alc)])=true:=by rfl) (hdesc:f4 os [i] rest E=true:=by rfl):QF P c n os K E W l (i::rest):=
 nd1 .alc (Φ:=fun u W'=>∃b,u=some (d,pt b 0)∧W'=F b++W) ho hi hc hdesc (fun u W' ⟨v,hu,hW⟩=>by subst hu;exact⟨hd,fun d' hd'=>by rw[hd]at hd';cases hd';exact hn,.inr ⟨rfl,F v,hW⟩⟩) hg
  (fun w0 m hw a w ha hw'=>bC (h w0 m hw a w ha hw') rfl (fun _ _ _ h=>h.1) fun a w ⟨h1,b,h2,h3⟩=>⟨h1,some (d,pt b 0),F b++W,⟨b,rfl,rfl⟩,h2,h3⟩)
  (fun u W' ⟨v,hu,hW⟩=>by subst hu;subst hW;exact hr v)
theorem eN{b:Nat}{v:Value}{T:TypeId}{L:Sl}:
  Go c n ((d,pt b 0)::L) (.blk b v T::W) (wpList P #[] (fun e a w=>e = .normal∧∃b,SatA n ((d,pt b 0)::L) a∧SatW c ((fun b=>[.blk b v T]) b++W) w) []):=
 fun _ _ ha hw=>wpList_nil ⟨rfl,b,ha,hw⟩
def OpC(P:Program)(c:Cx)(n:Nn)(W:List Res)(F:Value→List Res)(d:Nat)(lr:Sl)(o:Oper):Prop:=
 ∀w0 m,SatW c W w0→Go ⟨w0,fps W⟩ n (lr++m) W (wpList P #[] (fun e a w=>e = .normal∧∃v,SatA n ((d,v)::(lr++m)) a∧SatW ⟨w0,fps W⟩ (F v++W) w) [o])
theorem Zpc{F:Value→List Res}(ho:os[i]?=some o)(h:OpC P c n W F d (bR os.toArray o l) (noG o))(hr:∀v,QF P c n os K (E++[(i,.alc)]) (F v++W) ((d,v)::l) rest)
  (hi:iv i E=true:=by rfl) (hd:o.dst=some d:=by rfl) (hn:Nat.blt d n.sz=true:=by rfl) (hg:bO os.toArray l o=some true:=by rfl)
  (hc:iu os (E++[(i,.alc)])=true:=by rfl) (hdesc:f4 os [i] rest E=true:=by rfl):QF P c n os K E W l (i::rest):=
 nd1 .alc (Φ:=fun u W'=>∃v,u=some (d,v)∧W'=F v++W) ho hi hc hdesc (fun u W' ⟨v,hu,hW⟩=>by subst hu;exact⟨hd,fun d' hd'=>by rw[hd]at hd';cases hd';exact hn,.inr ⟨rfl,F v,hW⟩⟩) hg
  (fun w0 m hw a w ha hw'=>bC (h w0 m hw a w ha hw') rfl (fun _ _ _ h=>h.1) fun a w ⟨h1,v,h2,h3⟩=>⟨h1,some (d,v),F v++W,⟨v,rfl,rfl⟩,h2,h3⟩)
  (fun u W' ⟨v,hu,hW⟩=>by subst hu;subst hW;exact hr v)
theorem wL{v:Value}{xs:List Value}{T:TypeId}{L:Sl}:
  Go c n ((d,v)::L) (.sl v xs T::W) (wpList P #[] (fun e a w=>e = .normal∧∃v,SatA n ((d,v)::L) a∧SatW c ((fun v=>[.sl v xs T]) v++W) w) []):=
 fun _ _ ha hw=>wpList_nil ⟨rfl,v,ha,hw⟩
theorem two{p:Nat→Prop}{i j:Nat}(h1:p i)(h2:p j):∀k∈[i,j],p k:=by
 intro k hk
 rcases List.mem_cons.1 hk with rfl | hk
 ·exact h1
 ·have:=List.mem_singleton.1 hk
  subst this;exact h2
theorem pz{v v':Value}{T T':TypeId}{j d':Nat}{o':Oper}(ho:os[i]?=some o)(ho':os[j]?=some o')(h:OpB P c n W (fun b=>[.blk b v T]) d (bR os.toArray o l) (noG o))(h':OpB P c n W (fun b=>[.blk b v' T']) d' (bR os.toArray o' l) (noG o'))
  (hr:∀b,QF P c n os K (E++[(i,.alc)]) (.blk b v T::W) ((d,pt b 0)::l) (j::rest)) (hr':∀b,QF P c n os K (E++[(j,.alc)]) (.blk b v' T'::W) ((d',pt b 0)::l) (i::rest))
  (hij:Nat.beq i j=false:=by rfl) (hi:iv i E=true:=by rfl) (hi':iv j E=true:=by rfl) (hd:o.dst=some d:=by rfl) (hd':o'.dst=some d':=by rfl) (hn:Nat.blt d n.sz=true:=by rfl) (hn':Nat.blt d' n.sz=true:=by rfl)
  (hg:bO os.toArray l o=some true:=by rfl) (hg':bO os.toArray l o'=some true:=by rfl)
  (hc:iu os (E++[(i,.alc)])=true:=by rfl) (hc':iu os (E++[(j,.alc)])=true:=by rfl) (hdesc:f4 os [i,j] rest E=true:=by rfl):QF P c n os K E W l (i::j::rest):=by
 have hne:¬j=i:=fun h=>by subst h;rw[Nat.beq_refl]at hij;cases hij
 refine QF.nd (is:=[i,j]) (nx:=fun k=>[i,j].erase k++rest) (o:=fun k=>if k=i then o else o') (Φ:=fun k u W'=>if k=i then ∃b,u=some (d,pt b 0)∧W' = .blk b v T::W else ∃b,u=some (d',pt b 0)∧W' = .blk b v' T'::W)
  (kd:=fun _=>.alc) (by simp) (two hi hi') (two ?_ ?_) (two hc hc') hdesc (two ?_ ?_) (two ?_ ?_) (two ?_ ?_) (two ?_ ?_)
 ·simp only[if_true];exact ho
 ·simp only[if_neg hne];exact ho'
 ·simp only[if_true]
  intro u W' ⟨b,hu,hW⟩;subst hu;exact⟨hd,fun q hq=>by rw[hd]at hq;cases hq;exact hn,.inr ⟨by trivial,[_],hW⟩⟩
 ·simp only[if_neg hne]
  intro u W' ⟨b,hu,hW⟩;subst hu;exact⟨hd',fun q hq=>by rw[hd']at hq;cases hq;exact hn',.inr ⟨by trivial,[_],hW⟩⟩
 ·simp only[if_true];exact hg
 ·simp only[if_neg hne];exact hg'
 ·simp only[if_true]
  exact fun w0 m hw a w ha hw'=>bC (h w0 m hw a w ha hw') rfl (fun _ _ _ h=>h.1) fun a w ⟨h1,b,h2,h3⟩=>⟨h1,some (d,pt b 0),_,⟨b,rfl,rfl⟩,h2,h3⟩
 ·simp only[if_neg hne]
  exact fun w0 m hw a w ha hw'=>bC (h' w0 m hw a w ha hw') rfl (fun _ _ _ h=>h.1) fun a w ⟨h1,b,h2,h3⟩=>⟨h1,some (d',pt b 0),_,⟨b,rfl,rfl⟩,h2,h3⟩
 ·simp only[if_true]
  intro u W' ⟨b,hu,hW⟩;subst hu;subst hW
  have:=hr b
  rwa [List.erase_cons_head]
 ·simp only[if_neg hne]
  intro u W' ⟨b,hu,hW⟩;subst hu;subst hW
  have:=hr' b
  rw[List.erase_cons_tail (by simpa using fun h=>hne h.symm),List.erase_cons_head]
  exact this
theorem Zps{W':List Res}(ho:os[i]?=some o)(h:OpV P c n W W' (bR os.toArray o l) (noG o) none)(hr:QF P c n os K (E++[(i,.eff)]) W' l rest)
  (hi:iv i E=true:=by rfl) (hd:o.dst=none:=by rfl) (hg:bO os.toArray l o=some true:=by rfl)
  (hc:iu os (E++[(i,.eff)])=true:=by rfl) (hdesc:f4 os [i] rest E=true:=by rfl):QF P c n os K E W l (i::rest):=
 nd1 .eff (Φ:=fun u V=>u=none∧V=W') ho hi hc hdesc (fun u V ⟨hu,_⟩=>by subst hu;exact⟨hd,(fun d' hd'=>by rw[hd]at hd';cases hd'),.inl rfl⟩) hg
  (fun w0 m hw a w ha hw'=>bC (h w0 m hw a w ha hw') rfl (fun _ _ _ h=>h.1) fun a w ⟨h1,h2,h3⟩=>⟨h1,none,W',⟨rfl,rfl⟩,h2,h3⟩)
  (fun u V ⟨hu,hV⟩=>by subst hu;subst hV;exact hr)
theorem D1{v:Value}(ho:os[i]?=some o)(h:OpV P c n W W (bR os.toArray o l) (noG o) (some (d,v)))(hr:QF P c n os K (E++[(i,.alc)]) W ((d,v)::l) rest)
  (hi:iv i E=true:=by rfl) (hd:o.dst=some d:=by rfl) (hn:Nat.blt d n.sz=true:=by rfl) (hg:bO os.toArray l o=some true:=by rfl)
  (hc:iu os (E++[(i,.alc)])=true:=by rfl) (hdesc:f4 os [i] rest E=true:=by rfl):QF P c n os K E W l (i::rest):=
 nd1 .alc (Φ:=fun u V=>u=some (d,v)∧V=W) ho hi hc hdesc (fun u V ⟨hu,hV⟩=>by subst hu;exact⟨hd,(fun d' hd'=>by rw[hd]at hd';cases hd';exact hn),.inr ⟨rfl,[],hV⟩⟩) hg
  (fun w0 m hw a w ha hw'=>bC (h w0 m hw a w ha hw') rfl (fun _ _ _ h=>h.1) fun a w ⟨h1,h2,h3⟩=>⟨h1,some (d,v),W,⟨rfl,rfl⟩,h2,h3⟩)
  (fun u V ⟨hu,hV⟩=>by subst hu;subst hV;exact hr)
theorem zT{v:Value}{W2:List Res}(n1 n2:List Nat){j:Nat}{o':Oper}(ho:os[i]?=some o)(ho':os[j]?=some o')(h:OpV P c n W W (bR os.toArray o l) (noG o) (some (d,v)))(h':OpV P c n W W2 (bR os.toArray o' l) (noG o') none)
  (hr:QF P c n os K (E++[(i,.alc)]) W ((d,v)::l) n1) (hr':QF P c n os K (E++[(j,.eff)]) W2 l n2)
  (hij:Nat.beq i j=false:=by rfl) (hi:iv i E=true:=by rfl) (hi':iv j E=true:=by rfl) (hd:o.dst=some d:=by rfl) (hn:Nat.blt d n.sz=true:=by rfl) (hd':o'.dst=none:=by rfl)
  (hg:bO os.toArray l o=some true:=by rfl) (hg':bO os.toArray l o'=some true:=by rfl)
  (hc:iu os (E++[(i,.alc)])=true:=by rfl) (hc':iu os (E++[(j,.eff)])=true:=by rfl) (hdesc:f4 os [i,j] rest E=true:=by rfl):QF P c n os K E W l (i::j::rest):=by
 have hne:¬j=i:=fun h=>by subst h;rw[Nat.beq_refl]at hij;cases hij
 refine QF.nd (is:=[i,j]) (nx:=fun k=>if k=i then n1 else n2) (o:=fun k=>if k=i then o else o') (Φ:=fun k u V=>if k=i then u=some (d,v)∧V=W else u=none∧V=W2)
  (kd:=fun k=>if k=i then .alc else .eff) (by simp) (two hi hi') (two ?_ ?_) (two ?_ ?_) hdesc (two ?_ ?_) (two ?_ ?_) (two ?_ ?_) (two ?_ ?_)
 ·simp only[if_true];exact ho
 ·simp only[if_neg hne];exact ho'
 ·simp only[if_true];exact hc
 ·simp only[if_neg hne];exact hc'
 ·simp only[if_true]
  intro u V ⟨hu,hV⟩;subst hu;exact⟨hd,(fun q hq=>by rw[hd]at hq;cases hq;exact hn),.inr ⟨trivial,[],hV⟩⟩
 ·simp only[if_neg hne]
  intro u V ⟨hu,_⟩;subst hu;exact⟨hd',(fun q hq=>by rw[hd']at hq;cases hq),.inl trivial⟩
 ·simp only[if_true];exact hg
 ·simp only[if_neg hne];exact hg'
 ·simp only[if_true]
  exact fun w0 m hw a w ha hw'=>bC (h w0 m hw a w ha hw') rfl (fun _ _ _ h=>h.1) fun a w ⟨h1,h2,h3⟩=>⟨h1,some (d,v),W,⟨rfl,rfl⟩,h2,h3⟩
 ·simp only[if_neg hne]
  exact fun w0 m hw a w ha hw'=>bC (h' w0 m hw a w ha hw') rfl (fun _ _ _ h=>h.1) fun a w ⟨h1,h2,h3⟩=>⟨h1,none,W2,⟨rfl,rfl⟩,h2,h3⟩
 ·simp only[if_true]
  intro u V ⟨hu,hV⟩;subst hu;subst hV
  exact hr
 ·simp only[if_neg hne]
  intro u V ⟨hu,hV⟩;subst hu;subst hV
  exact hr'
theorem Zp0(hk:Go c n l W K)(hc:iu os E=true:=by rfl)(hf:Ho os E=true:=by rfl):QF P c n os K E W l []:=QF.fin hc hf hk
end
end Go.Proofs.YtndhfbecpghinaaGreat.L.R
namespace Go.Proofs.YtndhfbecpghinaaGreat.L
open Go Go.Proofs
set_option maxRecDepth 100000
section
attribute [local irreducible] Code.wp wpList Af bodyPost L.Go
open Sha
attribute [local simp] kV
def dp(ps:List (Value×List Nat)):List Nat:=ps.flatMap (·.2)
theorem Hb(ps:List (Value×List Nat)):dp (ps.take 0)=[]:=rfl
theorem ta{ps:List (Value×List Nat)}{i:Nat}{p:Value}{ys:List Nat}(h:ps[i]?=some (p,ys)):dp (ps.take (i+1))=dp (ps.take i)++ys:=by
 have hi:=(List.getElem?_eq_some_iff.1 h).1
 have he:=(List.getElem?_eq_some_iff.1 h).2
 rw[List.take_succ_eq_append_getElem hi,he]
 simp[dp]
theorem pK(ps:List (Value×List Nat))(i:Nat):(dp (ps.take i)).length≤(dp ps).length:=by
 have h:(dp ps).length=(dp (ps.take i)).length+(dp (ps.drop i)).length:=by
  have:=congrArg (fun q=>(dp q).length) (List.take_append_drop i ps).symm
  simp only[dp,List.flatMap_append,List.length_append]at this ⊢;exact this
 omega
def Ty(x:Nat)(l:List Nat):List Nat:=l.map (· ^^^ x)
def Qv(key:List Nat):List Nat:=if 64<key.length then Sha.sum key else key
def RB(key:List Nat):List Nat:=Qv key++List.replicate (64-(Qv key).length) 0
def mac(key b:List Nat):List Nat:=Sha.sum (Ty 92 (RB key)++Sha.sum (Ty 54 (RB key)++b))
def Tk(key info:List Nat):Nat→List Nat
 | 0=>[]
 | i+1=>mac key (Tk key info i++info++[(i+1)%256])
def ok(key info:List Nat):Nat→List Nat
 | 0=>[]
 | i+1=>ok key info i++Tk key info (i+1)
attribute [irreducible] dp Ty Qv RB mac Tk ok
theorem TD{a b:Prop}(k:b)(h:Rm b→a:=by intro k;refine iC (ys:=[]) (kk:=.u8) (by rfl) (by rfl) RdW.nil (by rfl) ?_;exact k.h):a:=h ⟨k⟩
theorem Wc{a b:Prop}(k:b)(h:Rm b→a:=by intro k;(first|refine Z01 ?_|refine Z02 ?_|refine Z03 ?_|refine Z04 ?_|refine Z05 ?_|refine Z06 ?_|refine Z07 ?_|refine Z08 ?_|refine Z09 ?_|refine Z10 ?_|refine Z11 ?_|refine Z12 ?_|refine Z13 ?_|refine Z14 ?_|refine Z16 ?_|refine Z17 ?_|refine Z18 ?_|refine Z20 ?_|refine Z21 ?_|refine Z62 ?_|refine Z63 ?_|refine Z71 ?_);exact k.h):a:=h ⟨k⟩
set_option maxHeartbeats 1000000 in
theorem Es(k:Nat)(hk:k<4294967296):Spec Tryz.prog 137 [.slice none 0 0,N .i64 k] ai [] (fun v W=>W=[.sl v (([]:List Nat).map (N .u8)) 5]):=by
 refine ad Tryz.func137 rfl rfl rfl fun w _=>?_
 repeat (first|refine y_5 ?_|rw[List.length_nil]|refine tV (by rfl) (by rfl) (by rfl) ?_|refine TD ?_|refine Z01 ?_|refine Z02 ?_|refine Z03 ?_|refine Z04 ?_|refine Z05 ?_|refine Z06 ?_|refine Z07 ?_|refine Z08 ?_|refine Z09 ?_|refine Z10 ?_|refine Z11 ?_|refine Z12 ?_|refine Z13 ?_|refine Z14 ?_|refine Z16 ?_|refine Z17 ?_|refine Z18 ?_|refine Z20 ?_|refine Z21 ?_|refine Z62 ?_|refine Z63 ?_|refine Z71 ?_|refine Z84 fun _=>?_)
 refine an (by rfl) (fun h=>?_) (fun h=>?_)
 ·repeat (first|rw[List.length_nil]|refine tV (by rfl) (by rfl) (by rfl) ?_|refine TD ?_|refine ky (xs:=[]) (lo:=0) (hi:=0) (by rfl) (by rfl) (by rfl) RdW.nil (by rfl) (by rfl) (by decide) (by decide) (by rfl) ?_|refine vZ (k:=k) (z:=N .u8 0) (by rfl) (by rfl) (by rfl) (by rfl) (by rfl) (by rfl) (by rfl) (by rfl) (by omega) (by omega) (by omega) (by rfl) fun _=>?_|refine Wc ?_|refine Z84 fun _=>?_)
  rename_i s
  refine nH 0 0 fd (by decide) (Nat.zero_le _) ?_
  exact Ze1 fun _ hw=>aa hw (Wout:=[.sl (sub s 0 0) (([]:List Nat).map (N .u8)) 5]) (by exact sw) rfl
 ·refine jF 5 ?_
  repeat (first|refine Wc ?_|refine Z84 fun _=>?_)
  exact Ze1 fun _ hw=>aa hw (Wout:=[.sl (.slice none 0 0) (([]:List Nat).map (N .u8)) 5]) (by exact sw) rfl
set_option maxHeartbeats 1000000 in
theorem wX(s:Value)(ps:List (Value×List Nat))(hl:(dp ps).length<4294967296)(hpl:ps.length<4294967296):
  Spec Tryz.prog 124 [s] (fun w=>Rd w s (ps.map (·.1))∧∀p∈ps,Rd w p.1 (p.2.map (N .u8))) [] (fun v W=>W=[.sl v ((dp ps).map (N .u8)) 5]):=by
 refine ad Tryz.func124 rfl rfl rfl fun w hr0=>?_
 have hr:=RdC.mk0 hr0.1
 have hrp:∀p∈ps,RdC ⟨w,fps []⟩ p.1 (p.2.map (N .u8)):=fun p hp=>RdC.mk0 (hr0.2 p hp)
 repeat (first|refine li ?_|refine Z84 fun _=>?_)
 refine az (ι:=Nat) (fun i=>i≤ps.length) (fun i=>[(0,s),(2,.slice none 0 0),(3,N .i64 (dp (ps.take i)).length),(9,s),(10,N .i64 (ps.map (·.1)).length),(11,N .i64 i)]) (fun i=>[]) (fun i=>ps.length-i) 0 (by omega) (by rw[Hb];exact sbq) sw ?_
 intro i hi
 have hfl:=pK ps i
 repeat (first|refine li ?_|refine Z84 fun _=>?_)
 refine an (by rfl) (fun h=>?_) (fun h=>?_)
 ·rw[List.length_map]at h
  obtain⟨⟨p,ys⟩,hp⟩:∃q,ps[i]?=some q:=⟨ps[i],by simp[h]⟩
  have hpr:=hrp (p,ys) (List.mem_of_getElem? hp)
  simp only at hpr
  have hfs:=ta hp
  have hfl':=pK ps (i+1)
  have e:(dp (ps.take i)).length+ys.length=(dp (ps.take (i+1))).length:=by rw[hfs,List.length_append]
  repeat (first|refine y_5 ?_|rw[e]|refine fH (v:=p) (by rfl) (RdW.old hr) (by simp[hp]) (by rfl) (by rfl) ?_|refine li ?_|refine Z84 fun _=>?_)
  exact ao (i+1) (by omega) (by omega) sbq sw
 ·rw[List.length_map]at h
  have hil:i=ps.length:=by omega
  subst hil
  rw[List.take_length]
  repeat (first|(refine ax (by rfl) (by rfl) (by rfl) (Es (dp ps).length hl) .nil (fun _ _=>trivial) (by rfl) ?_;rintro v _ rfl)|refine li ?_|refine Z84 fun _=>?_)
  refine az (ι:=Nat×Value) (fun q=>q.1≤ps.length) (fun q=>[(6,q.2),(25,s),(26,N .i64 (ps.map (·.1)).length),(27,N .i64 q.1)]) (fun q=>[.sl q.2 ((dp (ps.take q.1)).map (N .u8)) 5]) (fun q=>ps.length-q.1) (0,v) (by simp) sbq (by simp only[Hb];exact sw) ?_
  rintro⟨i,u⟩ hi
  simp only at hi ⊢
  have hfl:=pK ps i
  repeat (first|refine li ?_|refine Z84 fun _=>?_)
  refine an (by rfl) (fun h=>?_) (fun h=>?_)
  ·rw[List.length_map]at h
   obtain⟨⟨p,ys⟩,hp⟩:∃q,ps[i]?=some q:=⟨ps[i],by simp[h]⟩
   have hpr:=hrp (p,ys) (List.mem_of_getElem? hp)
   simp only at hpr
   have hfs:=ta hp
   have hfl':=pK ps (i+1)
   have e:(dp (ps.take i)).length+ys.length=(dp (ps.take (i+1))).length:=by rw[hfs,List.length_append]
   repeat (first|rw[← hfs]|refine fH (v:=p) (by rfl) (RdW.old hr) (by simp[hp]) (by rfl) (by rfl) ?_|refine li ?_|refine Z84 fun _=>?_)
   rename_i u'
   exact ao (i+1,u') (by simp only;omega) (by simp only;omega) sbq sw
  ·rw[List.length_map]at h
   have hil:i=ps.length:=by omega
   subst hil
   rw[List.take_length]
   repeat (first|refine li ?_|refine Z84 fun _=>?_)
   exact Ze1 fun _ hw=>aa hw (Wout:=[.sl u ((dp ps).map (N .u8)) 5]) (by exact sw) rfl
theorem JJ(b n lo hi:Nat):(fj b n lo hi).oneCell'=true:=rfl
theorem UF(p q r:Value)(xs ys zs:List Nat):dp [(p,xs),(q,ys),(r,zs)]=xs++ys++zs:=by unfold dp;simp
theorem Lt.app{m:Nat}{xs ys:List Nat}(h:Lt m xs)(k:Lt m ys):Lt m (xs++ys):=fun x hx=>by
 rcases List.mem_append.1 hx with hx | hx
 ·exact h x hx
 ·exact k x hx
theorem Lt.one{m x:Nat}(h:x<m):Lt m [x]:=fun y hy=>by simp at hy;subst hy;exact h
end
def cut3:Value→Nat→Value
 | .slice a _ _,k=>.slice (if k=0 then a else a.map (·.add 0)) k k
 | v,_=>v
theorem Rd.cut3{w:World}{s:Value}{xs:List Value}(h:Rd w s xs){k:Nat}(h2:k≤xs.length):Rd w (cut3 s k) (xs.take k):=by
 obtain⟨a,cap,rfl,hc,hn,hsp⟩:=h.shape
 have hlen:(xs.take k).length=k:=by simp;omega
 refine⟨⟨if k=0 then a else a.map (·.add 0),k,by rw[hlen];rfl,by rw[hlen];exact Nat.le_refl _,fun he=>?_,fun a0 ha0=>?_⟩,fun i v hv=>?_⟩
 ·have:a=none:=by
   split at he
   ·exact he
   ·simpa using he
  obtain⟨hx,hcap⟩:=hn this
  subst hx;simp at h2
  subst h2;simp
 ·split at ha0
  ·exact hsp a0 ha0
  ·cases a with
   | none=>simp at ha0
   | some b=>
    simp at ha0
    have:=hsp b rfl
    subst ha0
    unfold Addr.add;split
    ·exact this
    ·rfl
 ·have hi':i<(xs.take k).length:=by
   rcases Nat.lt_or_ge i (xs.take k).length with h | h
   ·exact h
   ·rw[List.getElem?_eq_none h]at hv;simp at hv
  rw[hlen]at hi'
  have hne:¬k=0:=by omega
  cases a with
  | none=>obtain⟨hx,_⟩:=hn rfl;subst hx;simp at hv
  | some a0=>
   have hv':xs[i]?=some v:=by
    rw[List.getElem?_take,if_pos (by omega)]at hv;exact hv
   have hcell:=h.cells i v hv'
   have e:ea (L.cut3 (.slice (some a0) xs.length cap) k) i=ea (.slice (some a0) xs.length cap) i:=by
    have hs0:=hsp a0 rfl
    obtain⟨b,o,sp⟩:=a0
    simp only at hs0;subst hs0
    simp only[L.cut3,if_neg hne,Option.map_some,ea,cz]
    congr 1
   rw[e];exact hcell
section
variable {P:Program} {c:Cx} {n:Nn} {l:Sl} {W:List Res} {ops:Array Oper} {Q:Exit→Act→World→Prop} {rest:List Oper}
variable {d:Nat} {T:TypeId} {pos:String} {after:Array Edge}
theorem oB{w:World}{a:Act}(ha:SatA n l a){len cap k:Nat}{xh xm:Operand}(hh:mL l len (some xh)=some k)(hm:mL l len (some xm)=some k)(h2:k≤cap):
  (Instr.sliceBounds true len cap none (some (a.eval xh)) (some (a.eval xm))).run P w = .ok (0,k,k) w:=by
 have bnd:∀(kk:IntKind)(i y:Nat)(code:BoundsCode),i≤y→(Instr.sliceBound (N kk i) y code).run P w = .ok i w:=fun kk i y code h=>by
  have:=run_sliceBound (P:=P) (w:=w) kk (i:Int) y code (by omega) (by omega)
  rw[Int.toNat_natCast]at this
  exact this
 obtain⟨k1,hy⟩:=kK hh
 obtain⟨k2,hz⟩:=kK hm
 simp[Instr.sliceBounds,ha.ev hy,ha.ev hz,bnd k2 k cap _ h2,bnd k1 k k _ (Nat.le_refl _)]
theorem oI{x xh xm:Operand}{s:Value}{xs:List Value}{t E:TypeId}{k:Nat}(hx:ev l x=some s)(ht:P.underlying t=some (.slice E))(hz:ay P E=some 1)(hr:RdW c W s xs)
  (hh:mL l xs.length (some xh)=some k) (hm:mL l xs.length (some xm)=some k) (h2:k≤xs.length)
  (hn:Nat.blt d n.sz=true) (hk:Go c n ((d,cut3 s k)::l) W (wpList P ops Q rest)):
  Go c n l W (wpList P ops Q (⟨some d,.slice t x none (some xh) (some xm),T,pos,after,none⟩::rest)):=
 aw rfl rfl hn (fun a w ha hw=>by
  obtain⟨a0,cap,rfl,h3,h4,h5⟩:=(hr w hw).shape
  have hb:=oB (P:=P) (w:=w) ha hh hm (cap:=cap) (by omega)
  simp[execOp,ha.ev hx,Instr.sliceAt,run_underlying ht,Instr.slice,hb,aq hz,cut3]) hk
theorem M2{w:World}{s:Value}{xs:List Value}{T:TypeId}(h:(Res.sl s xs T).holds w){k:Nat}(h2:k≤xs.length):
  (Res.sl (cut3 s k) (xs.take k) T).holds w∧(Res.sl (cut3 s k) (xs.take k) T).fp=(Res.sl s xs T).fp:=by
 rcases h with⟨rfl,rfl⟩ | ⟨b,off,cap,pre,post,fz,hs⟩
 ·simp at h2;subst h2
  exact⟨.inl ⟨by simp[cut3],by simp⟩,by simp[cut3,Res.fp]⟩
 ·obtain⟨rfl,h3,h4,h5,h6,h7⟩:=hs
  have hlen:(xs.take k).length=k:=by simp;omega
  have hadd:(if k=0 then some (⟨b,off,none⟩:Addr)else some ((⟨b,off,none⟩:Addr).add 0))=some ⟨b,off,none⟩:=by
   split <;> simp[cz]
  refine⟨.inr ⟨b,off,k,pre,xs.drop k++post,fz,?_⟩,by simp[cut3,Res.fp,hadd]⟩
  refine⟨by rw[hlen];simp[cut3,hadd],by rw[hlen];exact Nat.le_refl _,by rw[hlen];simp,h5,?_,?_⟩
  ·rw[h6];congr 2
   rw[List.append_assoc,List.append_assoc,← List.append_assoc (xs.take k),List.take_append_drop]
  ·intro hf
   have:=h7 hf
   simp at this ⊢;omega
theorem yU{φ:Act→World→Prop}{s:Value}{xs:List Value}{R:List Res}(k:Nat)(hf:Find W (.sl s xs T) R)(h2:k≤xs.length)
  (hk:Go c n l (.sl (cut3 s k) (xs.take k) T::R) φ):Go c n l W φ:=
 nD (fun w hw=>by
  have hw:=hw.perm hf.perm
  obtain⟨g1,g2⟩:=M2 (hw.holds _ (List.mem_cons_self ..)) h2
  exact hw.upd g2 (Ext.refl _ _) g1) hk
theorem rI{w:World}{t E ty:TypeId}{by' cap:Nat}{z y:Value}{base:Option Addr}{xs ys:List Value}(ht:P.underlying t=some (.slice E))(hz:cH P E=some z)(hs:ay P E=some 1)(hb:lI P E=some by')(h1:z.oneCell'=true)
    (hX:Rd w (.slice base xs.length cap) xs) (hY:Rd w y ys) (hroom:¬xs.length+ys.length≤cap) (hbd:(xs.length+ys.length)*by'≤140737488355328) (h63:xs.length+ys.length<9223372036854775808):
    ∃s' w',(Builtin.append_ #[t,t] ty #[.slice base xs.length cap,y]).run P w = .ok s' w'∧(Res.sl s' (xs++ys) E).holds w'∧Ext [] w w' ∧
      (Res.sl s' (xs++ys) E).fp=[w.heap.size]:=by
  obtain⟨i,hi,hz',hs',hb'⟩:=mN hz hs hb
  obtain⟨a1,cap1,hye,hc1,hn1,hsp1⟩:=hY.shape
  have hlenY:∀w,(Builtin.lenOf y).run P w = .ok ys.length w:=fun w=>by rw[hye];rfl
  have hfY:=fun k=>eD (P:=P) (hY.drew k) (Nat.le_refl ys.length)
  have hz0:∀w,(zeroValue E).run P w = .ok z w:=cn hz
  have hty:∀w,(underlying t).run P w = .ok (.slice E) w:=run_underlying ht
  have hti:∀w,(typeInfo E).run P w = .ok i w:=fun w=>by simp[typeInfo,hi]
  have h63i:¬(9223372036854775807<((xs.length:Int)+(ys.length:Int))):=by omega
  have hfit:=growslice_fits (need:=xs.length+ys.length) (old:=cap) (bytes:=by') (by omega) hbd
  have h48:¬(281474976710656<Builtin.nextslicecap (xs.length+ys.length) cap*i.bytes):=by rw[hb'];omega
  have hfX:=fun k=>eD (P:=P) (hX.drew k) (Nat.le_refl xs.length)
  have hcut:xs.length+ys.length≤grownCap w (xs.length+ys.length) cap E:=by
    simp only[grownCap,Question.cut];omega
  have hzc:Builtin.zeroCells z.cells (grownCap w (xs.length+ys.length) cap E-(xs.length+ys.length))=(List.replicate (grownCap w (xs.length+ys.length) cap E-(xs.length+ys.length)) z).toArray:=by
    apply Array.ext
    · simp[Builtin.zeroCells,gh h1]
    · intro j h1' h2'
      simp[Builtin.zeroCells,gh h1,Nat.mod_one]
  refine⟨.slice (some ⟨w.heap.size,0,none⟩) (xs.length+ys.length) (grownCap w (xs.length+ys.length) cap E),
    { w with drawn:=w.drawn+1,heap:=w.heap.push (.cells (xs++ys++List.replicate (grownCap w (xs.length+ys.length) cap E-(xs.length+ys.length)) z).toArray E) },?_,?_,?_,rfl⟩
  · have hfX':(Builtin.firstCells 1 xs.length (Value.slice base xs.length cap)).run P w.drew = .ok xs.toArray w.drew:=by
      have:=hfX (w.drawn+1);simpa using this
    have hfY':(Builtin.firstCells 1 ys.length y).run P w.drew = .ok ys.toArray w.drew:=by
      have:=hfY (w.drawn+1);simpa using this
    have hcells:xs.toArray++ys.toArray++Builtin.zeroCells z.cells (grownCap w (xs.length+ys.length) cap E-(xs.length+ys.length)) =
        (xs++ys++List.replicate (grownCap w (xs.length+ys.length) cap E-(xs.length+ys.length)) z).toArray:=by rw[hzc];simp
    have hres:(Builtin.append_ #[t,t] ty #[Value.slice base xs.length cap,y]).run P w =
        .ok (.slice (some ⟨w.heap.size,0,none⟩) (xs.length+ys.length) (grownCap w (xs.length+ys.length) cap E))
          (w.drew.alloc (.cells (xs.toArray++ys.toArray++Builtin.zeroCells z.cells (grownCap w (xs.length+ys.length) cap E-(xs.length+ys.length))) E)):=by
      simp[Builtin.append_,hty,aq hs,hlenY,hroom,h63i,h48,hti,Question.forced,hfX',hfY',hz0,newRow,grownCap,-List.append_toArray]
    rw[hcells]at hres
    exact hres
  · refine .inr ⟨w.heap.size,0,grownCap w (xs.length+ys.length) cap E,[],List.replicate (grownCap w (xs.length+ys.length) cap E-(xs.length+ys.length)) z,(0,0),by simp,by simpa using hcut,?_,rfl,?_,by simp⟩
    · simp;omega
    · simp
  · exact⟨rfl,rfl,rfl,by simp,fun k hk _=>by
      show(w.heap.push _)[k]?=_
      rw[Array.getElem?_push,if_neg (by omega)]⟩
theorem sJ{x y:Operand}{s y0:Value}{kk:IntKind}{xs ys:List Nat}{t E:TypeId}{by':Nat}(hx:ev l x=some (cut3 s xs.length))(hy:ev l y=some y0)(hs0:RdW c W s (xs.map (N kk)))(hr:RdW c W y0 (ys.map (N kk)))
  (ht:P.underlying t=some (.slice E)) (hz:cH P E=some (N kk 0)) (hs:ay P E=some 1) (hb:lI P E=some by') (hy0:0<ys.length)
  (hbd:(xs.length+ys.length)*by'≤140737488355328) (h63:xs.length+ys.length<9223372036854775808) (hn:Nat.blt d n.sz=true)
  (hk:∀s',Go c n ((d,s')::l) (.sl s' ((xs++ys).map (N kk)) E::W) (wpList P ops Q rest)):
  Go c n l W (wpList P ops Q (⟨some d,.call { callee:=.builtin .append,args:=#[x,y],argTypes:=#[t,t] },T,pos,after,none⟩::rest)):=
 fi rfl rfl hn (Φ:=fun u V=>V = .sl u ((xs++ys).map (N kk)) E::W)
  (fun a w ha hw=>by
   have hY:=hr w hw
   have hX:=(hs0 w hw).cut3 (k:=xs.length) (by simp)
   obtain⟨a0,cap0,he0,_⟩:=(hs0 w hw).shape
   subst he0
   rw[List.take_of_length_le (by simp)]at hX
   have hlm:(xs.map (N kk)).length=xs.length:=by simp
   simp only[cut3]at hX hx
   generalize (if xs.length=0 then a0 else a0.map (·.add 0))=bs at hX hx
   have hX2:Rd w (.slice bs (xs.map (N kk)).length xs.length) (xs.map (N kk)):=by rw[hlm];exact hX
   obtain⟨s',w',h2,h3,h4,h5⟩:=rI (P:=P) (ty:=T) ht hz hs hb rfl hX2 hY (by simp;omega) (by simpa using hbd) (by simpa using h63)
   rw[hlm]at h2
   rw[← List.map_append]at h3 h5
   refine⟨s',w',_,by simp[execOp,ha.ev hx,ha.ev hy,resolve,invoke,builtin,h2],?_,rfl⟩
   have h6:=hw.ext0 h4
   have hlt:=hw.lt
   refine⟨h6.ext,?_,?_,?_⟩
   ·intro r hr
    rcases List.mem_cons.1 hr with rfl | hr
    ·exact h3
    ·exact h6.holds r hr
   ·intro b hb
    simp only[fps,List.flatMap_cons,h5,List.mem_append,List.mem_singleton]at hb
    rcases hb with rfl | hb
    ·exact .inl hw.ext.size
    ·exact h6.own b hb
   ·simp only[fps,List.flatMap_cons,h5]
    refine List.nodup_append.2 ⟨by simp,h6.nd,fun p hp q hq=>?_⟩
    simp only[List.mem_singleton]at hp;subst hp
    have:=hlt q hq;omega)
  (fun u V hV=>by subst hV;exact hk u)
end
section
variable {P:Program} {c:Cx} {n:Nn} {l:Sl} {W:List Res} {ops:Array Oper} {Q:Exit→Act→World→Prop} {rest:List Oper}
variable {d:Nat} {T:TypeId} {pos:String} {after:Array Edge}
def STR(xs:List Nat):Value:=.string (strOfNums (xs.map Int.ofNat))
theorem o9{x:Operand}{s:Value}{xs:List Nat}{t u E:TypeId}(hx:ev l x=some s)(ht:P.underlying t=some (.slice E))(hE:P.underlying E=some (.int .u8))(hu:P.underlying u=some .string)
  (hr:RdW c W s (xs.map (N .u8))) (hn:Nat.blt d n.sz=true) (hk:Go c n ((d,STR xs)::l) W (wpList P ops Q rest)):
  Go c n l W (wpList P ops Q (⟨some d,.convert t u x,T,pos,after,none⟩::rest)):=
 aw rfl rfl hn (fun a w ha hw=>by
  have hR:=hr w hw
  obtain⟨a0,cap,hs,h1,h2,h3⟩:=hR.shape
  subst hs
  have hlm:(xs.map (N .u8)).length=xs.length:=by simp
  have hv:(convert t u (.slice a0 (xs.map (N .u8)).length cap)).run P w = .ok (STR xs) w:=by
   cases a0 with
   | none=>
    obtain⟨h,_⟩:=h2 rfl
    have:xs=[]:=by simpa using h
    subst this
    exact run_convert_bytes_nil (w:=w) t E ht hE _ _ u hu
   | some a1=>
    have hsp:=h3 a1 rfl
    obtain⟨b,off,sp⟩:=a1
    simp only at hsp;subst hsp
    rw[hlm]
    refine run_convert_bytes_arg w t E ht hE b off xs.length cap (xs.map Int.ofNat) (by simp) (fun i hi=>?_) u hu
    have:=hR.cells i (N .u8 (xs.getD i 0)) (by simp[List.getD_eq_getElem?_getD,hi])
    simp only[ea,cz]at this
    rw[this]
    simp[List.getD_eq_getElem?_getD,hi]
  simp only[execOp,ha.ev hx,Sem.run_bind,hv,Result.andThen_ok,Sem.run_pure]) hk
end
section
attribute [local irreducible] Code.wp wpList Af bodyPost L.Go
open Sha
attribute [local simp] kV
def tg(d:List Nat):List Nat:=d++[d.length%256]
def xh(m d:List Nat)(n:Nat):List Nat:=List.replicate 64 0++m++[n/256%256,n%256,0]++tg d
def xf(m d:List Nat)(n:Nat):List Nat:=Sha.sum (xh m d n)
def xl(a b:List Nat):List Nat:=List.zipWith (· ^^^ ·) a b
def Xk(m d:List Nat)(n:Nat):Nat→List Nat
 | 0=>List.replicate 32 0
 | i+1=>Sha.sum (xl (Xk m d n i) (xf m d n)++[(i+1)%256]++tg d)
def xk(m d:List Nat)(n:Nat):Nat→List Nat
 | 0=>[]
 | i+1=>xk m d n i++Xk m d n (i+1)
def fm(m d:List Nat)(n:Nat):List Nat:=(xk m d n ((n+31)/32)).take n
theorem Th(d:List Nat):tg d=d++[d.length%256]:=rfl
theorem JS(d:List Nat):(tg d).length=d.length+1:=by simp[tg]
theorem OU{d:List Nat}(h:Lt 256 d):Lt 256 (tg d):=Lt.app h (Lt.one (Nat.mod_lt _ (by decide)))
theorem Tr(m d:List Nat)(n:Nat):xh m d n=List.replicate 64 0++m++[n/256%256,n%256,0]++tg d:=rfl
theorem VO{m d:List Nat}(n:Nat)(hm:Lt 256 m)(hd:Lt 256 d):Lt 256 (xh m d n):=by
 refine Lt.app (Lt.app (Lt.app ?_ hm) ?_) (OU hd)
 ·intro x hx;rw[List.eq_of_mem_replicate hx];decide
 ·intro x hx
  simp only[List.mem_cons,List.not_mem_nil,or_false]at hx
  rcases hx with rfl | rfl | rfl
  ·exact Nat.mod_lt _ (by decide)
  ·exact Nat.mod_lt _ (by decide)
  ·decide
theorem Ts(m d:List Nat)(n:Nat):(xh m d n).length=m.length+d.length+68:=by simp[xh,JS];omega
theorem Tp(m d:List Nat)(n:Nat):xf m d n=Sha.sum (xh m d n):=rfl
theorem Tq(m d:List Nat)(n:Nat):(xf m d n).length=32:=kV _
theorem VN(m d:List Nat)(n:Nat):Lt 256 (xf m d n):=JM _
theorem Tv{a b:List Nat}(ha:a.length=32)(hb:b.length=32):(xl a b).length=32:=by simp[xl,ha,hb]
theorem VR{a b:List Nat}(ha:Lt 256 a)(hb:Lt 256 b):Lt 256 (xl a b):=by
 intro x hx
 simp only[xl]at hx
 obtain⟨i,hi,rfl⟩:=List.mem_iff_getElem.1 hx
 rw[List.getElem_zipWith]
 exact Nat.xor_lt_two_pow (n:=8) (ha _ (List.getElem_mem ..)) (hb _ (List.getElem_mem ..))
theorem Tu{a b:List Nat}(ha:a.length=32)(hb:b.length=32){i:Nat}(h:i<32):(xl a b).getD i 0=a.getD i 0 ^^^ b.getD i 0:=by
 have h1:i<a.length:=by omega
 have h2:i<b.length:=by omega
 simp[xl,List.getD_eq_getElem?_getD,List.getElem?_zipWith,h1,h2]
theorem T7(m d:List Nat)(n:Nat):Xk m d n 0=List.replicate 32 0:=rfl
theorem Lg(m d:List Nat)(n i:Nat):Xk m d n (i+1)=Sha.sum (xl (Xk m d n i) (xf m d n)++[(i+1)%256]++tg d):=rfl
theorem zS(m d:List Nat)(n i:Nat):(Xk m d n i).length=32:=by
 cases i with
 | zero=>simp[Xk]
 | succ i=>exact kV _
theorem N1(m d:List Nat)(n i:Nat):Lt 256 (Xk m d n i):=by
 cases i with
 | zero=>intro x hx;rw[T7]at hx;rw[List.eq_of_mem_replicate hx];decide
 | succ i=>exact JM _
theorem XG(m d:List Nat)(n:Nat):xk m d n 0=[]:=rfl
theorem NN(m d:List Nat)(n i:Nat):xk m d n (i+1)=xk m d n i++Xk m d n (i+1):=rfl
theorem J7(m d:List Nat)(n i:Nat):(xk m d n i).length=32*i:=by
 induction i with
 | zero=>rfl
 | succ i ih=>simp only[xk,List.length_append,ih,zS];omega
theorem VQ(m d:List Nat)(n i:Nat):Lt 256 (xk m d n i):=by
 induction i with
 | zero=>intro x hx;simp[xk]at hx
 | succ i ih=>exact Lt.app ih (N1 _ _ _ _)
theorem FS(m d:List Nat)(n:Nat):fm m d n=(xk m d n ((n+31)/32)).take n:=rfl
theorem FT(m d:List Nat)(n:Nat):(fm m d n).length=n:=by simp[fm,J7];omega
theorem J9(m d:List Nat)(n:Nat):Lt 256 (fm m d n):=fun x hx=>VQ _ _ _ _ x (List.mem_of_mem_take hx)
attribute [irreducible] tg xh xf xl Xk xk fm
theorem UG(p q r s:Value)(xs ys zs us:List Nat):dp [(p,xs),(q,ys),(r,zs),(s,us)]=xs++ys++zs++us:=by unfold dp;simp
theorem KQ{S1 a b:Prop}(s1:S1)(k:b)(h:S1→Rm b→a:=by intro s1 k;refine af (by rfl) (by rfl) (by rfl) s1 (RdW.own fd) (by rfl) ?_;exact k.h):a:=h s1 ⟨k⟩
theorem Wg{a b:Prop}(k:b)(h:Rm b→a:=by intro k;(first|refine Z01 ?_|refine Z03 ?_|refine Z04 ?_|refine Z05 ?_|refine Z06 ?_|refine Z07 ?_|refine Z08 ?_|refine Z09 ?_|refine Z10 ?_|refine Z11 ?_|refine Z12 ?_|refine Z13 ?_|refine Z14 ?_|refine Z29 ?_|refine Z30 ?_|refine Z31 ?_|refine Z32 ?_);exact k.h):a:=h ⟨k⟩
theorem uj(s:Value)(ps:List (Value×List Nat))(hb:Lt 256 (dp ps))(hl:(dp ps).length<4294967296)(hpl:ps.length<4294967296):
  Spec Tryz.prog 78 [s] (fun w=>Rd w s (ps.map (·.1))∧∀p∈ps,Rd w p.1 (p.2.map (N .u8))) [] (IsV (LV .u8 (Sha.sum (dp ps)))):=by
 refine ad Tryz.func78 rfl rfl rfl fun w hr0=>?_
 have hr:=RdC.mk0 hr0.1
 have hrp:∀p∈ps,RdC ⟨w,fps []⟩ p.1 (p.2.map (N .u8)):=fun p hp=>RdC.mk0 (hr0.2 p hp)
 have hsl:=kV (dp ps)
 repeat (first|(refine Bu ?_;intro _)|(refine ax (by rfl) (by rfl) (by rfl) (wX s ps hl hpl) .nil (fun w hw=>⟨RdW.old hr w hw,fun p hp=>RdW.old (hrp p hp) w hw⟩) (by rfl) ?_;rintro v _ rfl)|refine KQ (JN _ (dp ps) hb hl) ?_|refine Wg ?_|refine Z82 fun _=>?_)
 refine Zec fun _ hw=>aa hw SubW.nil ⟨?_,rfl⟩
 rfl
theorem zK{a b:Prop}(k:b)(h:Rm b→a:=by intro k;(first|refine Z01 ?_|refine Z02 ?_|refine Z03 ?_|refine Z04 ?_|refine Z05 ?_|refine Z06 ?_|refine Z07 ?_|refine Z08 ?_|refine Z09 ?_|refine Z10 ?_|refine Z11 ?_|refine Z12 ?_|refine Z13 ?_|refine Z14 ?_|refine Z15 ?_|refine Z17 ?_|refine Z18 ?_|refine Z20 ?_|refine Z21 ?_|refine Z22 ?_|refine Z23 ?_|refine Z24 ?_|refine Z26 ?_|refine Z27 ?_|refine Z29 ?_|refine Z30 ?_|refine Z31 ?_|refine Z32 ?_|refine Z39 ?_|refine Z42 ?_|refine Z44 ?_|refine Z45 ?_|refine Z49 ?_|refine Z50 ?_|refine Z51 ?_|refine Z52 ?_|refine Z62 ?_|refine Z63 ?_|refine Z67 ?_|refine Z74 ?_);exact k.h):a:=h ⟨k⟩
set_option maxHeartbeats 4000000 in
theorem Br(s1 s2:Value)(m d:List Nat)(n:Nat)(hm:Lt 256 m)(hd:Lt 256 d)(hl1:m.length<1073741824)(h1:1≤d.length)(h2:d.length≤255)(hn1:1≤n)(hn:n≤8160):
  Spec Tryz.prog 38 [s1,s2,N .i64 n] (fun w=>Rd w s1 (m.map (N .u8))∧Rd w s2 (d.map (N .u8))) [] (fun v W=>∃x,v = .tuple [x,N .i64 0].toArray∧W=[.sl x ((fm m d n).map (N .u8)) 5]):=by
 refine ad Tryz.func38 rfl rfl rfl fun w hr=>?_
 have hr1:=RdC.mk0 hr.1
 have hr2:=RdC.mk0 hr.2
 have hs1o:=hr.1.one
 have htl:=JS d
 have htb:=OU hd
 have hhl:=Ts m d n
 have hhb:=VO n hm hd
 have hfl:=Tq m d n
 have hfb:=VN m d n
 have hC:∀p q r s:Value,dp [(p,List.replicate 64 0),(q,m),(r,[n/256%256,n%256,0]),(s,tg d)]=xh m d n:=fun p q r s=>by rw[UG,Tr]
 have hCb:∀p q r s:Value,Lt 256 (dp [(p,List.replicate 64 0),(q,m),(r,[n/256%256,n%256,0]),(s,tg d)]):=fun p q r s=>by rw[hC];exact hhb
 have hCl:∀p q r s:Value,(dp [(p,List.replicate 64 0),(q,m),(r,[n/256%256,n%256,0]),(s,tg d)]).length<4294967296:=fun p q r s=>by rw[hC,hhl];omega
 have hC3:∀(p q r s:Value)(xs ys zs us:List Nat),[(p,xs),(q,ys),(r,zs),(s,us)].length<4294967296:=fun p q r s xs ys zs us=>by simp
 have hsh:n >>> 8=n/256:=Nat.shiftRight_eq_div_pow n 8
 repeat (first|refine y_5 ?_|refine oI (k:=d.length) (by rfl) (by rfl) (by rfl) (RdW.old hr2) (by rfl) (by rfl) (by simp) (by rfl) ?_|(refine sJ (kk:=.u8) (xs:=d) (ys:=[d.length%256]) (by rfl) (by rfl) (RdW.old hr2) (RdW.own fd) (by rfl) (by rfl) (by rfl) (by rfl) (by simp) (by simp;omega) (by simp;omega) (by rfl) fun _=>?_)|rw[← Th]|rw[hsh]|refine bL (vs:=[n/256%256,n%256,0]) (kk:=.u8) (by rfl) (by rfl) (by rfl) (by rfl) (by rfl) (by rfl) (by rfl) (by rfl) fun _=>?_|(refine gG (fun w hw=>(RdW.own (xs:=(List.replicate 64 0).map (N .u8)) fd w hw).one) fun hv1=>?_;refine gG (fun w hw=>(RdW.own (xs:=[n/256%256,n%256,0].map (N .u8)) fd w hw).one) fun hv2=>?_;refine gG (fun w hw=>(RdW.own (xs:=(tg d).map (N .u8)) fd w hw).one) fun hv3=>?_;refine ci (E:=23) (vs:=[_,s1,_,_]) (by rfl) (by rfl) (by rfl) (by rfl) (by rfl) (by rfl) (by rfl) (by simp[hv1,hv2,hv3,hs1o]) (by rfl) (by rfl) fun _=>?_)|(refine af (by rfl) (by rfl) (by rfl) (uj _ [(_,List.replicate 64 0),(s1,m),(_,[n/256%256,n%256,0]),(_,tg d)] (hCb _ _ _ _) (hCl _ _ _ _) (hC3 _ _ _ _ _ _ _ _)) (fun w hw=>⟨RdW.own fd w hw,by intro p hp;simp only[List.mem_cons,List.not_mem_nil,or_false]at hp;rcases hp with rfl | rfl | rfl | rfl;exact RdW.own fd w hw;exact RdW.old hr1 w hw;exact RdW.own fd w hw;exact RdW.own fd w hw⟩) (by rfl) ?_;rw[hC,← Tp])|(refine Bu ?_;intro _)|refine zK ?_|refine Z82 fun _=>?_|refine Z83 fun _=>?_|refine Z84 fun _=>?_|refine Z85 fun _=>?_)
 rename_i tv a41 a48 a50 b9 b11
 refine jF 5 ?_
 refine az (ι:=Nat×Value) (fun q=>q.1≤(n+31)/32) (fun q=>[(0,s1),(1,s2),(2,N .i64 n),(8,tv),(9,pt b9 0),(10,q.2),(11,pt b11 0),(12,N .i64 (q.1+1))])
  (fun q=>[.blk b11 (LV .u8 (Xk m d n q.1)) 120,.sl q.2 ((xk m d n q.1).map (N .u8)) 5,.blk b9 (LV .u8 (xf m d n)) 120,.sl tv ((tg d).map (N .u8)) 5]) (fun q=>(n+31)/32-q.1) (0,.slice none 0 0) (by simp) sbq (by simp only[XG,T7];exact sw) ?_
 rintro⟨i,v⟩ hi
 simp only at hi ⊢
 have hol:=J7 m d n i
 have hXl:=zS m d n i
 have hXb:=N1 m d n i
 have hzl:=Tv hXl hfl
 have hzb:=VR hXb hfb
 have hal:(xl (Xk m d n i) (xf m d n)).length=(Xk m d n i).length:=by rw[hzl,hXl]
 repeat (first|refine zK ?_|refine Z82 fun _=>?_|refine Z83 fun _=>?_|refine Z84 fun _=>?_|refine Z85 fun _=>?_)
 refine an (by rfl) (fun h=>?_) (fun h=>?_)
 ·rw[hol]at h
  repeat (first|refine zK ?_|refine Z82 fun _=>?_|refine Z83 fun _=>?_|refine Z84 fun _=>?_|refine Z85 fun _=>?_)
  refine az (ι:=Nat) (fun k=>k≤32) (fun k=>[(0,s1),(1,s2),(2,N .i64 n),(8,tv),(9,pt b9 0),(10,v),(11,pt b11 0),(12,N .i64 (i+1)),(58,N .i64 k)])
   (fun k=>[.blk b11 (LV .u8 (Sha.js (xl (Xk m d n i) (xf m d n)) (Xk m d n i) k)) 120,.sl v ((xk m d n i).map (N .u8)) 5,.blk b9 (LV .u8 (xf m d n)) 120,.sl tv ((tg d).map (N .u8)) 5]) (fun k=>32-k) 0 (by omega) sbq (by rw[Sha.vx];exact sw) ?_
  intro k hk
  have hml:=Sha.mT hal k
  rw[hXl]at hml
  repeat (first|refine zK ?_|refine Z82 fun _=>?_|refine Z83 fun _=>?_|refine Z84 fun _=>?_|refine Z85 fun _=>?_)
  refine an (by rfl) (fun h=>?_) (fun h=>?_)
  ·have hg:=Sha.tq hal (i:=k) (by omega)
   have hx:=Tu hXl hfl h
   repeat (first|refine zK ?_|refine Z82 fun _=>?_|refine Z83 fun _=>?_|refine Z84 fun _=>?_|refine Z85 fun _=>?_)
   refine au (by rfl) ?_
   repeat (first|(refine Zqf (by intro _ _ _;(first|refine Z01 ?_|refine Z02 ?_|refine Z15 ?_|refine Z17 ?_|refine Z18 ?_|refine Z20 ?_|refine Z21 ?_|refine Z22 ?_|refine Z23 ?_|refine Z39 ?_|refine Z42 ?_|refine Z44 ?_|refine Z45 ?_|refine Z49 ?_|refine Z50 ?_|refine Z62 ?_|refine Z63 ?_|refine Z74 ?_);exact Zq) ?_)|(refine Zqp (by intro _ _ _;(first|refine TC ?_);exact Zq) ?_)|refine fq ?_|refine Zqn ?_)
   refine Zq0 ?_ (by kernel_rfl)
   repeat (first|refine zK ?_|refine Z82 fun _=>?_|refine Z83 fun _=>?_|refine Z84 fun _=>?_|refine Z85 fun _=>?_)
   rw[hg,Nat.mod_eq_of_lt (hXb.getD (by decide) k),Nat.mod_eq_of_lt (hfb.getD (by decide) k),← hx,Sha.mU hal (by omega)]
   exact ao (k+1) (by omega) (by omega) sbq sw
  ·have hk32:k=32:=by omega
   subst hk32
   have hma:=Sha.mS hal
   rw[hXl]at hma
   rw[hma]
   have hG:∀p q r:Value,dp [(p,xl (Xk m d n i) (xf m d n)),(q,[(i+1)%256]),(r,tg d)]=xl (Xk m d n i) (xf m d n)++[(i+1)%256]++tg d:=fun p q r=>UF p q r _ _ _
   have hGb:∀p q r:Value,Lt 256 (dp [(p,xl (Xk m d n i) (xf m d n)),(q,[(i+1)%256]),(r,tg d)]):=fun p q r=>by rw[hG];exact Lt.app (Lt.app hzb (Lt.one (Nat.mod_lt _ (by decide)))) htb
   have hGl:∀p q r:Value,(dp [(p,xl (Xk m d n i) (xf m d n)),(q,[(i+1)%256]),(r,tg d)]).length<4294967296:=fun p q r=>by rw[hG];simp;omega
   have hG3:∀(p q r:Value)(xs ys zs:List Nat),[(p,xs),(q,ys),(r,zs)].length<4294967296:=fun p q r xs ys zs=>by simp
   have hXs:=Lg m d n i
   have hks:=NN m d n i
   have hXl':=zS m d n (i+1)
   have hcut:List.drop 0 (List.take 32 (Xk m d n (i+1)))=Xk m d n (i+1):=by rw[List.drop_zero,List.take_of_length_le (by omega)]
   repeat (first|rw[hcut]|rw[← hks]|(refine gG (fun w hw=>(RdW.own (xs:=[(i+1)%256].map (N .u8)) fd w hw).one) fun hv1=>?_;refine gG (fun w hw=>(RdW.own (xs:=(tg d).map (N .u8)) fd w hw).one) fun hv2=>?_;refine ci (E:=23) (vs:=[fj b11 32 0 32,_,_]) (by rfl) (by rfl) (by rfl) (by rfl) (by rfl) (by rfl) (by rfl) (by simp[hv1,hv2,JJ]) (by rfl) (by rfl) fun _=>?_)|(refine af (by rfl) (by rfl) (by rfl) (uj _ [(fj b11 32 0 32,xl (Xk m d n i) (xf m d n)),(_,[(i+1)%256]),(_,tg d)] (hGb _ _ _) (hGl _ _ _) (hG3 _ _ _ _ _ _)) (fun w hw=>⟨RdW.own fd w hw,by intro p hp;simp only[List.mem_cons,List.not_mem_nil,or_false]at hp;rcases hp with rfl | rfl | rfl;exact RdW.arrAll (m:=32) fd hzl w hw;exact RdW.own fd w hw;exact RdW.own fd w hw⟩) (by rfl) ?_;rw[hG,← hXs])|refine zK ?_|refine Z82 fun _=>?_|refine Z83 fun _=>?_|refine Z84 fun _=>?_|refine Z85 fun _=>?_)
   rename_i v'
   exact ao (i+1,v') (by simp only;omega) (by simp only;omega) sbq sw
 ·rw[hol]at h
  have hie:i=(n+31)/32:=by omega
  subst hie
  repeat (first|(refine oI (k:=n) (by rfl) (by rfl) (by rfl) (RdW.own fd) (by rfl) (by rfl) (by rw[List.length_map,hol];omega) (by rfl) ?_)|refine zK ?_|refine Z82 fun _=>?_|refine Z83 fun _=>?_|refine Z84 fun _=>?_|refine Z85 fun _=>?_)
  refine yU (s:=v) n fd (by rw[List.length_map,hol];omega) ?_
  rw[← List.map_take,← FS]
  exact Ze2 fun _ hw=>aa hw (Wout:=[.sl (cut3 v n) ((fm m d n).map (N .u8)) 5]) (by exact sw) ⟨_,rfl,rfl⟩
end
theorem s6:∀(parts:List (Nat×Value))(i:Nat)(done z:List Value),(∀j p,parts[j]?=some p→p.1=i+j∧p.2.oneCell'=true)→done.length=i→parts.length≤z.length →
  Instr.fill (fun i=>some (i*1,1)) (done++z).toArray parts=some (done++parts.map (·.2)++z.drop parts.length).toArray
 | [],i,done,z,_,_,_=>by simp[Instr.fill]
 | (q,v)::r,i,done,z,hp,hd,hl=>by
  obtain⟨h1,h2⟩:=hp 0 (q,v) rfl
  simp only[Nat.add_zero]at h1 h2
  subst h1
  cases z with
  | nil=>simp at hl
  | cons z0 zr=>
   have hc:=gh h2
   have ih:=s6 r (q+1) (done++[v]) zr (fun j p hj=>by
    have:=hp (j+1) p (by simpa using hj)
    exact⟨by omega,this.2⟩) (by simp[hd]) (by simpa using hl)
   have hset:(done++z0::zr).set q v=done++[v]++zr:=by
    subst hd
    rw[List.set_append_right _ _ (by omega)];simp
   simp only[Instr.fill,Nat.mul_one,hc]
   rw[if_neg (by simp;omega)]
   have hzi:(#[v].zipIdx) = #[(v,0)]:=by simp
   simp only[hzi]
   simp only[List.size_toArray,List.length_cons,List.length_nil,List.foldl_toArray',List.foldl_cons,List.foldl_nil,Nat.add_zero,List.setIfInBounds_toArray,hset]
   simp only[Nat.mul_one]at ih
   simpa using ih
section
variable {P:Program} {c:Cx} {n:Nn} {l:Sl} {W:List Res} {ops:Array Oper} {Q:Exit→Act→World→Prop} {rest:List Oper}
variable {d:Nat} {T:TypeId} {pos:String} {after:Array Edge}
theorem bk{t E:TypeId}{m:Nat}{ps:List (Nat×Operand)}{kk:IntKind}{vs:List Nat}(ht:P.underlying t=some (.array m E))(hz:cH P t=some (LV kk (List.replicate m 0)))(hs:ay P E=some 1)
  (hq:Seq 0 ps=true) (hl:ps.length=vs.length) (hm:Nat.ble vs.length m=true) (hv:evs l (ps.map (·.2))=some (vs.map (N kk))) (hn:Nat.blt d n.sz=true)
  (hk:Go c n ((d,LV kk (vs++List.replicate (m-vs.length) 0))::l) W (wpList P ops Q rest)):
  Go c n l W (wpList P ops Q (⟨some d,.build t ps.toArray,T,pos,after,none⟩::rest)):=
 aw rfl rfl hn (fun a w ha hw=>by
   have hm':=Nat.le_of_ble_eq_true hm
   obtain⟨g1,g2⟩:=nc ha hq hv (by simp[Value.oneCell'])
   have hfill:=s6 (ps.map fun(i,x)=>(i,a.eval x)) 0 [] ((List.replicate m 0).map (N kk)) (fun j p hj=>by have:=g2 j p hj;exact⟨by omega,this.2⟩) rfl (by simp;omega)
   rw[g1]at hfill
   simp only[List.nil_append,Nat.mul_one,List.length_map,hl]at hfill
   have e:(vs.map (N kk)++List.drop vs.length ((List.replicate m 0).map (N kk))).toArray=((vs++List.replicate (m-vs.length) 0).map (N kk)).toArray:=by
    rw[← List.map_drop,List.drop_replicate,List.map_append]
   rw[e]at hfill
   simp only[execOp,Instr.build,Sem.run_bind,run_underlying ht,cn hz,aq hs,Result.andThen_ok,List.map_toArray,Value.cells,LV,Nat.mul_one,hfill]
   rfl) hk
theorem aJ{fn:Func}{R:Ending→World→Prop}{t u:Tmp}{b m:Nat}{T U:TypeId}{k:IntKind}{ys:List Nat}{v:Value}{R0:List Res}
  (hres:fn.results = #[.cell t T,.tmp u]) (hv:lk l t=some (pt b 0)) (hu:lk l u=some v) (hf:Find W (.blk b (LV k ys) U) R0) (hs:cD P T=true) (hz:ay P T=some m) (hl:ys.length=m)
  (hR:∀w,SatW c W w→R (.returned (.tuple #[LV k ys,v])) w) (hD:n.df=[]:=by rfl):Go c n l W (bodyPost P fn R .ret):=
 yL hres hv hu hf hs (by subst hl;simpa using hz) hR hD
end
end Go.Proofs.YtndhfbecpghinaaGreat.L
namespace Go.Proofs.YtndhfbecpghinaaGreat.Num
theorem jY{P xs:List Nat}{i:Nat}(h:P.length=i):(P++xs.drop i).getD i 0=xs.getD i 0:=by
 rw[List.getD_eq_getElem?_getD,List.getElem?_append_right (by omega),h,Nat.sub_self,List.getElem?_drop,Nat.add_zero,← List.getD_eq_getElem?_getD]
theorem Ea{P xs:List Nat}{i:Nat}(h:P.length=i):(P++xs.drop i).getD (i+1) 0=xs.getD (i+1) 0:=by
 rw[List.getD_eq_getElem?_getD,List.getElem?_append_right (by omega),h,show i+1-i=1 by omega,List.getElem?_drop,← List.getD_eq_getElem?_getD]
theorem mi{m X:Nat}(h:X<W^m)(i:Nat):(D m X).getD i 0=X/W^i%W:=by rw[cR (dv _ _),eU h]
theorem qw{P xs:List Nat}{i:Nat}(h:P.length=i)(hi:i<xs.length)(y:Nat):(P++xs.drop i).set i y=P++[y]++xs.drop (i+1):=by
 rw[List.set_append_right _ _ (by omega),h,Nat.sub_self,List.drop_eq_getElem_cons hi,List.set_cons_zero,List.append_assoc];rfl
theorem kF(g:Nat→Nat→Nat→Nat×Nat)(xs ys:List Nat)(i:Nat)(h:i<xs.length):
  ((cp g xs ys i).1++xs.drop i).set i (g (xs.getD i 0) (ys.getD i 0) (cp g xs ys i).2).1=(cp g xs ys (i+1)).1++xs.drop (i+1):=by
 rw[qw (gT g xs ys i) h,← mD]
theorem Gq(g:Nat→Nat→Nat→Nat×Nat)(xs ys:List Nat)(i n:Nat)(h:i<n):
  ((cp g xs ys i).1++List.replicate (n-i) 0).set i (g (xs.getD i 0) (ys.getD i 0) (cp g xs ys i).2).1=(cp g xs ys (i+1)).1++List.replicate (n-(i+1)) 0:=by
 rw[Gr g xs ys i n h,← mD]
theorem r6(x y c:Nat):(gp x y c).1=(x+18446744073709551616-y-c)%18446744073709551616:=rfl
theorem r7(x y c:Nat):(gp x y c).2=if x<y+c then 1 else 0:=rfl
theorem wM(x y c:Nat):(iQ x y c).1=(x+y+c)%18446744073709551616:=rfl
theorem wN(x y c:Nat):(iQ x y c).2=(x+y+c)/18446744073709551616:=rfl
theorem F3{k A B:Nat}(h:B≤A):D k (sbn k A B)=D k (A-B):=by
 rw[sbn,show A+W^k-B=A-B+W^k by omega,← mj,Nat.add_mod_right,mj]
theorem nU{k A B:Nat}(hA:A<W^k)(hB:B<W^k):cp gp (D k A) (D k B) k=(D k (sbn k A B),bwn A B):=by
 have h:=uL (dv k A) (dv k B) (n:=k) (by rw[ae];exact Nat.le_refl _) (by rw[ae];exact Nat.le_refl _)
 rw[eU hA,eU hB]at h;exact h
theorem sU{k A B:Nat}(hA:A<W^k)(hB:B<W^k):cp iQ (D k A) (D k B) k=(D k (A+B),(A+B)/W^k):=by
 have h:=uK (dv k A) (dv k B) (n:=k) (by rw[ae];exact Nat.le_refl _) (by rw[ae];exact Nat.le_refl _)
 rw[eU hA,eU hB]at h;exact h
theorem jm(k A B i:Nat):(cp gp (D k A) (D k B) i).2≤1:=BP Nz (dv _ _) (dv _ _) i
theorem mC(k A B i:Nat):(cp iQ (D k A) (D k B) i).2≤1:=BP Lj (dv _ _) (dv _ _) i
def iZ(k m A c:Nat):Nat:=if A+c*W^k<m then A else A+c*W^k-m
theorem HY{k m A c:Nat}(hm:m<W^k)(hc:c≤1):(if bwn A m>c then D k A else D k (sbn k A m))=D k (iZ k m A c):=by
 have h01:c=0∨c=1:=by omega
 unfold iZ bwn
 rcases h01 with rfl | rfl
 ·by_cases h:A<m
  ·rw[if_pos h,if_pos (by decide),if_pos (by omega)]
  ·rw[if_neg h,if_neg (by decide),if_neg (by omega),Nat.zero_mul,Nat.add_zero,F3 (by omega)]
 ·rw[if_neg (show ¬A+1*W^k<m by omega)]
  rw[if_neg (by split <;> omega),Nat.one_mul,sbn]
theorem Ez{k m S:Nat}(h:S<2*m)(hm:m<W^k):iZ k m (S%W^k) (S/W^k)=S%m:=by
 unfold iZ
 rw[Nat.mul_comm,Nat.mod_add_div]
 by_cases hs:S<m
 ·rw[if_pos hs,Nat.mod_eq_of_lt hs,Nat.mod_eq_of_lt (by omega)]
 ·rw[if_neg hs,Nat.mod_eq_sub_mod (by omega),Nat.mod_eq_of_lt (a:=S-m) (by omega)]
end Go.Proofs.YtndhfbecpghinaaGreat.Num
namespace Go.Proofs.YtndhfbecpghinaaGreat.L.Pr
def aU(p:Nat):Prop:=1<p∧∀d,d∣p→d=1∨d=p
theorem aU.pos{p:Nat}(h:aU p):0<p:=Nat.lt_trans Nat.zero_lt_one h.1
theorem aU.cop{p a:Nat}(hp:aU p)(h:¬p∣a):Nat.Coprime p a:=by
 rcases hp.2 _ (Nat.gcd_dvd_left p a)with h1 | h1
 ·exact h1
 ·exact absurd (h1 ▸ Nat.gcd_dvd_right p a) h
theorem aU.dvd_mul{p a b:Nat}(hp:aU p)(h:p∣a*b):p∣a∨p∣b:=by
 by_cases ha:p∣a
 ·exact .inl ha
 ·exact .inr ((hp.cop ha).dvd_of_dvd_mul_left h)
theorem aU.dvd_pow{p a:Nat}(hp:aU p):∀{k:Nat},p∣a^k→p∣a
 | 0,h=>by
  rw[Nat.pow_zero]at h
  have:=Nat.le_of_dvd (by decide) h
  have:=hp.1
  omega
 | k+1,h=>by
  rw[Nat.pow_succ]at h
  rcases hp.dvd_mul h with h1 | h1
  ·exact hp.dvd_pow h1
  ·exact h1
theorem oh:∀{n:Nat},1<n→∃p,aU p∧p∣n:=by
 intro n
 induction n using Nat.strongRecOn with
 | ind n ih=>
  intro h
  by_cases hp:aU n
  ·exact⟨n,hp,Nat.dvd_refl n⟩
  ·have:∃d,d∣n∧d≠1∧d≠n:=by
    apply Classical.byContradiction
    intro hc
    refine hp ⟨h,fun d hd=>?_⟩
    apply Classical.byContradiction
    intro hd2
    exact hc ⟨d,hd,fun e=>hd2 (.inl e),fun e=>hd2 (.inr e)⟩
   obtain⟨d,hd,h1,h2⟩:=this
   have h3:=Nat.le_of_dvd (by omega) hd
   have h4:=Nat.pos_of_dvd_of_pos hd (by omega)
   obtain⟨p,hp1,hp2⟩:=ih d (by omega) (by omega)
   exact⟨p,hp1,Nat.dvd_trans hp2 hd⟩
theorem o7{n:Nat}(h:1<n)(hn:¬aU n):∃p,aU p∧p∣n∧p*p≤n:=by
 have:∃d,d∣n∧d≠1∧d≠n:=by
  apply Classical.byContradiction
  intro hc
  refine hn ⟨h,fun d hd=>?_⟩
  apply Classical.byContradiction
  intro hd2
  exact hc ⟨d,hd,fun e=>hd2 (.inl e),fun e=>hd2 (.inr e)⟩
 obtain⟨d,⟨e,he⟩,h1,h2⟩:=this
 have hd0:d≠0:=by rintro rfl;omega
 have he0:e≠0:=by rintro rfl;omega
 have he1:e≠1:=by rintro rfl;omega
 rcases Nat.le_total d e with hle | hle
 ·obtain⟨p,hp,hpd⟩:=oh (n:=d) (by omega)
  have:=Nat.le_of_dvd (by omega) hpd
  exact⟨p,hp,he ▸ Nat.dvd_trans hpd (Nat.dvd_mul_right d e),he ▸ Nat.mul_le_mul this (Nat.le_trans this hle)⟩
 ·obtain⟨p,hp,hpd⟩:=oh (n:=e) (by omega)
  have:=Nat.le_of_dvd (by omega) hpd
  exact⟨p,hp,he ▸ Nat.dvd_trans hpd (Nat.dvd_mul_left e d),he ▸ Nat.mul_le_mul (Nat.le_trans this hle) this⟩
def lst(g:Nat→Nat):Nat→List Nat
 | 0=>[]
 | n+1=>g n::lst g n
def ov:List Nat→Nat
 | []=>1
 | x::r=>x*ov r
theorem pO{g:Nat→Nat}{y:Nat}:∀{n:Nat},y∈lst g n↔∃i,i<n∧y=g i
 | 0=>by simp[lst]
 | n+1=>by
  rw[lst,List.mem_cons,pO]
  constructor
  ·rintro(h | ⟨i,hi,h⟩)
   ·exact⟨n,by omega,h⟩
   ·exact⟨i,by omega,h⟩
  ·rintro⟨i,hi,h⟩
   by_cases hc:i=n
   ·subst hc;exact .inl h
   ·exact .inr ⟨i,by omega,h⟩
theorem vj{g:Nat→Nat}:∀{n:Nat},(lst g n).length=n
 | 0=>rfl
 | n+1=>by rw[lst,List.length_cons,vj]
theorem tA{g:Nat→Nat}:∀{n:Nat},(∀i j,i<j→j<n→g j≠g i)→(lst g n).Nodup
 | 0,_=>List.nodup_nil
 | n+1,h=>by
  rw[lst,List.nodup_cons]
  refine⟨fun hm=>?_,tA fun i j h1 h2=>h i j h1 (by omega)⟩
  obtain⟨i,hi,he⟩:=pO.1 hm
  exact h i n hi (by omega) he
theorem EZ{l m:List Nat}(h:l.Perm m):ov l=ov m:=by
 induction h with
 | nil=>rfl
 | cons x _ ih=>simp only[ov,ih]
 | swap x y l=>simp only[ov,Nat.mul_left_comm]
 | trans _ _ h1 h2=>exact h1.trans h2
theorem o3:∀{l m:List Nat},l.Nodup→(∀x∈l,x∈m)→m.length≤l.length→l.Perm m
 | [],m,_,_,hl=>by
  cases m with
  | nil=>exact .nil
  | cons x r=>simp at hl
 | x::l,m,hn,hs,hl=>by
  have hx:=hs x (List.mem_cons_self ..)
  have hn:=List.nodup_cons.1 hn
  have hp:=List.perm_cons_erase hx
  refine List.Perm.trans (List.Perm.cons x (o3 hn.2 (fun y hy=>?_) ?_)) hp.symm
  ·have hne:y≠x:=by rintro rfl;exact hn.1 hy
   exact(List.mem_erase_of_ne hne).2 (hs y (List.mem_cons_of_mem _ hy))
  ·have:=hp.length_eq
   simp only[List.length_cons]at this hl
   omega
theorem nl(a p:Nat):∀n,ov (lst (fun i=>a*(i+1)%p) n)%p=a^n*ov (lst (fun i=>i+1) n)%p
 | 0=>by simp[lst,ov]
 | n+1=>by
  rw[lst,ov,lst,ov,Nat.mul_mod,nl a p n,Nat.mod_mod,← Nat.mul_mod]
  congr 1
  rw[Nat.pow_succ]
  simp only[Nat.mul_assoc,Nat.mul_left_comm,Nat.mul_comm]
theorem yd{p:Nat}(hp:aU p):∀n,n<p→¬p∣ov (lst (fun i=>i+1) n)
 | 0,_,h=>by
  rw[lst,ov]at h
  have:=Nat.le_of_dvd (by decide) h
  have:=hp.1
  omega
 | n+1,hn,h=>by
  rw[lst,ov]at h
  rcases hp.dvd_mul h with h1 | h1
  ·have:=Nat.le_of_dvd (by omega) h1
   omega
  ·exact yd hp n (by omega) h1
theorem z8{p a b q:Nat}(hp:aU p)(hq:¬p∣q)(hab:b≤a)(h:a*q%p=b*q%p):a%p=b%p:=by
 have h1:=Nat.sub_mod_eq_zero_of_mod_eq h
 rw[← Nat.sub_mul]at h1
 rcases hp.dvd_mul (Nat.dvd_of_mod_eq_zero h1)with h2 | h2
 ·obtain⟨c,hc⟩:=h2
  rw[show a=b+p*c by omega,Nat.add_mul_mod_self_left]
 ·exact absurd h2 hq
theorem Al{p a:Nat}(hp:aU p)(ha:¬p∣a):a^(p-1)%p=1:=by
 have hp1:=hp.1
 have ha0:0<a:=by
  rcases Nat.eq_zero_or_pos a with h | h
  ·subst h;exact absurd (Nat.dvd_zero p) ha
  ·exact h
 have hperm:(lst (fun i=>a*(i+1)%p) (p-1)).Perm (lst (fun i=>i+1) (p-1)):=by
  refine o3 (tA fun i j hij hj he=>?_) (fun x hx=>?_) (by rw[vj,vj];exact Nat.le_refl _)
  ·have h1:=Nat.sub_mod_eq_zero_of_mod_eq he
   rw[← Nat.mul_sub]at h1
   rcases hp.dvd_mul (Nat.dvd_of_mod_eq_zero h1)with h2 | h2
   ·exact ha h2
   ·have:=Nat.le_of_dvd (by omega) h2
    omega
  ·obtain⟨i,hi,rfl⟩:=pO.1 hx
   have hlt:a*(i+1)%p<p:=Nat.mod_lt _ hp.pos
   have hne:a*(i+1)%p≠0:=by
    intro h0
    rcases hp.dvd_mul (Nat.dvd_of_mod_eq_zero h0)with h2 | h2
    ·exact ha h2
    ·have:=Nat.le_of_dvd (by omega) h2
     omega
   exact pO.2 ⟨a*(i+1)%p-1,by omega,by omega⟩
 have h1:=nl a p (p-1)
 rw[EZ hperm]at h1
 have h2:=z8 hp (yd hp (p-1) (by omega)) (Nat.pow_pos ha0:1≤a^(p-1)) (by rw[Nat.one_mul];exact h1.symm)
 rw[h2,Nat.mod_eq_of_lt hp1]
theorem o4{b k P:Nat}(hP:1<P)(h:b%P=1):b^k%P=1:=by
 rw[Nat.pow_mod,h,Nat.one_pow,Nat.mod_eq_of_lt hP]
theorem EN{b P:Nat}(hP:1<P):∀m k,b^m%P=1→b^k%P=1→b^Nat.gcd m k%P=1:=by
 intro m k
 induction m,k using Nat.gcd.induction with
 | H0 k=>intro _ h;rw[Nat.gcd_zero_left];exact h
 | H1 m k hm ih=>
  intro h1 h2
  rw[Nat.gcd_rec]
  refine ih ?_ h1
  have h3:b^k=(b^m)^(k/m)*b^(k%m):=by rw[← Nat.pow_mul,← Nat.pow_add,Nat.div_add_mod]
  rw[h3,Nat.mul_mod,o4 hP h1,Nat.one_mul,Nat.mod_mod]at h2
  exact h2
theorem Ag{q g e:Nat}(hq:aU q)(h:g∣q^(e+1)):g=q^(e+1)∨g∣q^e:=by
 obtain⟨c,hc⟩:=h
 by_cases h1:c=1
 ·subst h1;rw[Nat.mul_one]at hc;exact .inl hc.symm
 ·right
  have hc0:c≠0:=by
   rintro rfl
   have:=Nat.pow_pos (n:=e+1) hq.pos
   omega
  obtain⟨s,hs,hsc⟩:=oh (n:=c) (by omega)
  have hsq:s∣q:=hs.dvd_pow (k:=e+1) (hc ▸ Nat.dvd_trans hsc (Nat.dvd_mul_left c g))
  have hse:s=q:=by
   rcases hq.2 s hsq with h2 | h2
   ·have:=hs.1;omega
   ·exact h2
  subst hse
  obtain⟨c',hc'⟩:=hsc
  refine⟨c',?_⟩
  rw[hc',Nat.pow_succ,Nat.mul_left_comm,Nat.mul_comm]at hc
  exact Nat.eq_of_mul_eq_mul_left hs.pos hc
theorem Vj{n P q e a:Nat}(hP:aU P)(hPn:P∣n)(hn:1<n)(hq:aU q)(hd:(n-1)%q^(e+1)=0)(h1:a^(n-1)%n=1)
  (h2:Nat.gcd (a^((n-1)/q)%n+(n-1)) n=1):q^(e+1)∣P-1:=by
 obtain⟨m,hm⟩:=Nat.dvd_of_mod_eq_zero hd
 have hmod:∀x,x%n=1→x%P=1:=by
  intro x hx
  rw[← Nat.mod_mod_of_dvd x hPn,hx,Nat.mod_eq_of_lt hP.1]
 have hb1:(a^m)^(q^(e+1))%P=1:=by
  rw[← Nat.pow_mul,Nat.mul_comm,← hm];exact hmod _ h1
 have haP:¬P∣a^m:=by
  intro hc
  have:(a^m)^(q^(e+1))%P=0:=by
   rw[Nat.pow_mod,Nat.mod_eq_zero_of_dvd hc,Nat.zero_pow (Nat.pow_pos hq.pos),Nat.zero_mod]
  omega
 have hg:=EN hP.1 _ _ hb1 (Al hP haP)
 rcases Ag hq (Nat.gcd_dvd_left (q^(e+1)) (P-1))with h3 | ⟨c,h3⟩
 ·rw[← h3];exact Nat.gcd_dvd_right _ _
 ·exfalso
  have h4:a^((n-1)/q)%P=1:=by
   have:(n-1)/q=m*q^e:=by
    rw[hm,Nat.pow_succ,Nat.mul_comm (q^e) q,Nat.mul_assoc,Nat.mul_div_cancel_left _ hq.pos,Nat.mul_comm]
   rw[this,Nat.pow_mul,h3,Nat.pow_mul]
   exact o4 hP.1 hg
  have h5:P∣a^((n-1)/q)%n+(n-1):=by
   have h6:a^((n-1)/q)%n%P=1:=by rw[Nat.mod_mod_of_dvd _ hPn];exact h4
   obtain⟨c,hc⟩:=hPn
   have h7:(a^((n-1)/q)%n+(n-1)+1)%P=1%P:=by
    rw[show a^((n-1)/q)%n+(n-1)+1=a^((n-1)/q)%n+P*c by omega,Nat.add_mul_mod_self_left,h6,Nat.mod_eq_of_lt hP.1]
   exact Nat.dvd_of_mod_eq_zero (Nat.add_right_cancel_iff.1 (rfl:0+1=0+1) ▸ (by
    have h8:=Nat.sub_mod_eq_zero_of_mod_eq h7
    rwa [Nat.add_sub_cancel]at h8))
  have h8:=Nat.dvd_gcd h5 hPn
  rw[h2]at h8
  have:=Nat.le_of_dvd (by decide) h8
  have:=hP.1
  omega
def pm(n:Nat):Nat→Nat→Nat→Nat
 | 0,_,_=>1%n
 | f+1,b,e=>cond (Nat.beq (e%2) 1) (b*pm n f (b*b%n) (e/2)%n) (pm n f (b*b%n) (e/2))
theorem tG(n:Nat):∀(f b e:Nat),e<2^f→pm n f b e=b^e%n
 | 0,b,e,h=>by
  have:e=0:=by simpa using h
  subst this;rw[pm,Nat.pow_zero]
 | f+1,b,e,h=>by
  have ih:=tG n f (b*b%n) (e/2) (by rw[Nat.pow_succ]at h;omega)
  have hs:(b*b%n)^(e/2)%n=b^(2*(e/2))%n:=by
   rw[← Nat.pow_mod,← Nat.pow_two,← Nat.pow_mul]
  rw[pm,ih,hs]
  rcases Nat.mod_two_eq_zero_or_one e with h2 | h2
  ·rw[h2]
   show b^(2*(e/2))%n=_
   rw[show 2*(e/2)=e by omega]
  ·rw[h2]
   show b*(b^(2*(e/2))%n)%n=_
   rw[Nat.mul_mod,Nat.mod_mod,← Nat.mul_mod,← Nat.pow_succ',show(2*(e/2)).succ=e by omega]
def pkF:List (Nat×Nat×Nat)→Nat
 | []=>1
 | (q,e,_)::r=>q^(e+1)*pkF r
def Mx(n f:Nat):List (Nat×Nat×Nat)→Bool
 | []=>true
 | (q,e,a)::r=>Nat.beq ((n-1)%q^(e+1)) 0&&(Nat.beq (pm n f a (n-1)) 1&&(Nat.beq (Nat.gcd (pm n f a ((n-1)/q)+(n-1)) n) 1&&(Nat.beq (Nat.gcd (q^(e+1)) (pkF r)) 1&&Mx n f r)))
theorem yb{n f P:Nat}(hP:aU P)(hPn:P∣n)(hn:1<n)(hf:n<2^f):∀{l:List (Nat×Nat×Nat)},(∀x∈l,aU x.1)→Mx n f l=true→pkF l∣P-1
 | [],_,_=>Nat.one_dvd _
 | (q,e,a)::r,hl,h=>by
  simp only[Mx,Bool.and_eq_true,Nat.beq_eq]at h
  obtain⟨h1,h2,h3,h4,h5⟩:=h
  have hq:=hl _ (List.mem_cons_self ..)
  rw[tG n f a _ (by omega)]at h2
  rw[tG n f a _ (Nat.lt_of_le_of_lt (Nat.div_le_self _ _) (by omega))]at h3
  exact Nat.Coprime.mul_dvd_of_dvd_of_dvd h4 (Vj hP hPn hn hq h1 h2 h3) (yb hP hPn hn hf (fun x hx=>hl x (List.mem_cons_of_mem _ hx)) h5)
theorem lU{n f:Nat}(l:List (Nat×Nat×Nat))(hl:∀x∈l,aU x.1)
  (h:(Nat.blt 1 n&&(Nat.blt n (2^f)&&(Nat.blt n ((pkF l+1)*(pkF l+1))&&Mx n f l)))=true):aU n:=by
 simp only[Bool.and_eq_true,Nat.blt_eq]at h
 obtain⟨h1,h2,h3,h4⟩:=h
 apply Classical.byContradiction
 intro hn
 obtain⟨P,hP,hPn,hPP⟩:=o7 h1 hn
 have hd:=yb hP hPn h1 h2 hl h4
 have:=Nat.le_of_dvd (by have:=hP.1;omega) hd
 have hP1:=hP.1
 have hle:pkF l+1≤P:=by omega
 exact Nat.lt_irrefl _ (Nat.lt_of_lt_of_le h3 (Nat.le_trans (Nat.mul_le_mul hle hle) hPP))
def tx(n:Nat):Nat→Nat→Bool
 | lo,0=>!Nat.beq (n%lo) 0
 | lo,k+1=>tx n lo k&&tx n (lo+2^k) k
theorem lQ{n:Nat}:∀{k lo d:Nat},tx n lo k=true→lo≤d→d<lo+2^k→n%d≠0
 | 0,lo,d,h,h1,h2=>by
  have:d=lo:=by simp at h2;omega
  subst this
  intro h0
  rw[tx,h0]at h
  exact absurd h (by decide)
 | k+1,lo,d,h,h1,h2=>by
  simp only[tx,Bool.and_eq_true]at h
  rw[Nat.pow_succ]at h2
  rcases Nat.lt_or_ge d (lo+2^k)with h3 | h3
  ·exact lQ h.1 h1 h3
  ·exact lQ h.2 h3 (by omega)
theorem jM{n:Nat}(k:Nat)(h:(Nat.blt 1 n&&(Nat.blt n ((2+2^k)*(2+2^k))&&tx n 2 k))=true):aU n:=by
 simp only[Bool.and_eq_true,Nat.blt_eq]at h
 obtain⟨h1,h2,h3⟩:=h
 apply Classical.byContradiction
 intro hn
 obtain⟨P,hP,hPn,hPP⟩:=o7 h1 hn
 have hlt:P<2+2^k:=by
  apply Classical.byContradiction
  intro hc
  have:=Nat.mul_le_mul (Nat.le_of_not_lt hc) (Nat.le_of_not_lt hc)
  omega
 exact lQ h3 hP.1 hlt (Nat.mod_eq_zero_of_dvd hPn)
end Go.Proofs.YtndhfbecpghinaaGreat.L.Pr
namespace Go.Proofs.YtndhfbecpghinaaGreat.L.Pr
set_option maxRecDepth 100000
theorem MH:aU 2:=⟨by decide,fun d hd=>by
 have h1:=Nat.le_of_dvd (by decide) hd
 have h2:d≠0:=by rintro rfl;exact absurd (Nat.eq_zero_of_zero_dvd hd) (by decide)
 omega⟩
theorem vN:aU 421987:=jM 10 (by decide +kernel)
theorem IW:aU 13090036741:=lU (f:=34) [(421987,0,2)] (by
 intro x hx
 simp only[List.mem_cons,List.not_mem_nil,or_false]at hx
 rcases hx with rfl
 ·exact vN) (by decide +kernel)
theorem vO:aU 755057:=jM 10 (by decide +kernel)
theorem IV:aU 3819663927398918131021:=lU (f:=72) [(13090036741,0,2),(755057,0,2)] (by
 intro x hx
 simp only[List.mem_cons,List.not_mem_nil,or_false]at hx
 rcases hx with rfl | rfl
 ·exact IW
 ·exact vO) (by decide +kernel)
theorem IU:aU 1125266252156850182658904441386709967:=lU (f:=120) [(3819663927398918131021,0,2)] (by
 intro x hx
 simp only[List.mem_cons,List.not_mem_nil,or_false]at hx
 rcases hx with rfl
 ·exact IV) (by decide +kernel)
theorem IT:aU 15778400344354997994418419698270088123916926905054652752758194827714659:=lU (f:=234) [(1125266252156850182658904441386709967,0,2)] (by
 intro x hx
 simp only[List.mem_cons,List.not_mem_nil,or_false]at hx
 rcases hx with rfl
 ·exact IU) (by decide +kernel)
theorem MJ:aU 4002409555221667393417789825735904156556882819939007885332058136124031650490837864442687629129015664037894272559787:=lU (f:=381) [(15778400344354997994418419698270088123916926905054652752758194827714659,0,2)] (by
 intro x hx
 simp only[List.mem_cons,List.not_mem_nil,or_false]at hx
 rcases hx with rfl
 ·exact IT) (by decide +kernel)
theorem pB:aU 254760293:=jM 14 (by decide +kernel)
theorem rA:aU 52437899:=jM 13 (by decide +kernel)
theorem sG:aU 2529403:=jM 11 (by decide +kernel)
theorem pZ:aU 52435875175126190479447740508185965837690552500527637822603658699938581184513:=lU (f:=255) [(2,31,5),(254760293,1,2),(52437899,0,2),(2529403,0,2)] (by
 intro x hx
 simp only[List.mem_cons,List.not_mem_nil,or_false]at hx
 rcases hx with rfl | rfl | rfl | rfl
 ·exact MH
 ·exact pB
 ·exact rA
 ·exact sG) (by decide +kernel)
end Go.Proofs.YtndhfbecpghinaaGreat.L.Pr
