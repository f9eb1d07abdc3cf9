/- What the proof of the statement about TopApart stands on, part F. Conditions: as each statement says. -/
import Derived.Test.YtndhfbecpghinaaGreatTopApartE
import Derived.Test.YtndhfbecpghinaaGreatProg
namespace Go.Proofs.YtndhfbecpghinaaGreat.L
open Go Go.Proofs
set_option maxRecDepth 100000
section
attribute [local irreducible] Code.wp wpList Af bodyPost L.Go
open Num
theorem N5:Kf.K2.neg (Kf.K2.mul bc (Kf.K2.inv ac))=(k2 1267429692486861341248966778149702982909679559647352497021818409772610022655431990406851082557521626945333186310595 2734979862734806052168823047586201173647203260291655388310239726351421627835405874035836546571494037092561086249192):=by
 rw[Kf.K2.dw p_3 (x:=Kf.K2.neg (k2 1267429692486861341248966778149702982909679559647352497021818409772610022655431990406851082557521626945333186310595 2734979862734806052168823047586201173647203260291655388310239726351421627835405874035836546571494037092561086249192)) N2 (by decide +kernel)]
 decide +kernel
theorem yn{g:Nat}{x y:F2}(hy:Kf.K2.mul y y=co x)(hs:Kf.K2.sgn y=g):cV g x=(y,true):=by
 have hq:Kf.K2.gA (co x)=true:=(Kf.K2.eY p_3).2 ⟨y,hy⟩
 have h2:(cV g x).2=true:=by rw[qc];exact hq
 have hg:g<2:=by rw[← hs];exact Kf.K2.A6 y
 have h1:=yo (g:=g) hq
 have h3:=E9 hg hq (C0 x)
 have e:Kf.K2.mul (Kf.K2.sub (cV g x).1 y) (Kf.K2.add (cV g x).1 y)=Kf.K2.zero:=Kf.K2.C1 (h1.trans hy.symm)
 rcases Kf.K2.aW p_3 e with e | e
 ·have e1:=Kf.K2.aE e
  exact Prod.ext e1 h2
 ·exfalso
  have e1:=Kf.K2.aP e
  rw[e1,Kf.K2.yr p_3 (WF hy),hs]at h3
  omega
theorem tn{u x y t:F2}(ht:Kf.K2.mul t (tz (wz u))=Kf.K2.one)(hx:x=Kf.K2.mul (k2 1267429692486861341248966778149702982909679559647352497021818409772610022655431990406851082557521626945333186310595 2734979862734806052168823047586201173647203260291655388310239726351421627835405874035836546571494037092561086249192) (Kf.K2.add Kf.K2.one t))(hy:Kf.K2.mul y y=co x)(hs:Kf.K2.sgn y=Kf.K2.sgn u):i5 u=(x,y):=by
 have h0:¬tz (wz u)=Kf.K2.zero:=fun e=>by
  rw[e,Kf.K2.aj]at ht
  exact Kf.K2.jt p_3 ht.symm
 have hi:Kf.K2.inv (tz (wz u))=t:=by
  have:=Kf.K2.dw p_3 h0 ht
  rwa [Kf.K2.aR]at this
 have e1:=Bs (w:=wz u) (t:=tz (wz u)) rfl h0
 rw[hi,N5,← hx]at e1
 have e2:=yn hy hs
 have:=vu (u:=u) rfl e1.symm e2.symm rfl
 exact this
theorem nh{x X:F2}(h0:pol x Q2≠Kf.K2.zero)(h:Kf.K2.mul X (pol x Q2)=pol x Q1):phx x=X:=Kf.K2.dw p_3 h0 h
theorem ni{x y Y:F2}(h0:pol x Q4≠Kf.K2.zero)(h:Kf.K2.mul Y (pol x Q4)=Kf.K2.mul y (pol x Q3)):phy x y=Y:=by
 rw[phy,← Kf.K2.mul_assoc']
 exact Kf.K2.dw p_3 h0 h
theorem kz{S:Kf.K2.St}{P:Kf.K2.Pt p}{X Y:F2}(h:Kf.K2.Stands S P)(hz:Kf.K2.isz S.z=false)(hx:Kf.K2.mul X (Kf.K2.mul (Kf.K2.red p S.z) (Kf.K2.red p S.z))=Kf.K2.red p S.x)(hy:Kf.K2.mul Y (Kf.K2.mul (Kf.K2.mul (Kf.K2.red p S.z) (Kf.K2.red p S.z)) (Kf.K2.red p S.z))=Kf.K2.red p S.y):P=some (X,Y):=by
 have z0:Kf.K2.red p S.z≠Kf.K2.zero:=fun e=>by rw[(Kf.K2.dW h.z).2 e]at hz;cases hz
 rw[← h.e,Kf.K2.pA z0]
 have hi:=Kf.K2.j7 p_3 z0
 refine Kf.K2.bD ?_ ?_
 ·rw[Kf.K2.jx,← hx]
  generalize Kf.K2.inv (Kf.K2.red p S.z)=i at hi
  generalize Kf.K2.red p S.z=z at hi
  exact Kf.K2.QN hi
 ·rw[Kf.K2.jy,← hy]
  generalize Kf.K2.inv (Kf.K2.red p S.z)=i at hi
  generalize Kf.K2.red p S.z=z at hi
  exact Kf.K2.QO hi
theorem HD:V hC<2^640:=by decide +kernel
end
end Go.Proofs.YtndhfbecpghinaaGreat.L
