/- What the proof of the statement about TopSigns stands on, part D. Conditions: as each statement says. -/
import Derived.Test.YtndhfbecpghinaaGreatTopSignsC
import Derived.Test.YtndhfbecpghinaaGreatProg
namespace Go.Proofs.YtndhfbecpghinaaGreat.L.Kf
open Pr
namespace K2
variable {n:Nat} [NeZero n]
theorem aY(x y:K2 n):conj (mul x y)=mul (conj x) (conj y):=by
 unfold conj mul
 exact ext' (by grind) (by grind)
theorem eo(x:K2 n):conj (conj x)=x:=ext' rfl (show - -x.im=x.im by grind)
theorem Bo(x:K2 n):∀k,conj (pw x k)=pw (conj x) k
 | 0=>by unfold conj pw one;exact ext' rfl (show-(0:Fin n)=0 by grind)
 | k+1=>by rw[pw,aY,Bo x k];rfl
end K2
namespace T12
variable {n:Nat} [NeZero n]
attribute [local irreducible] K2.add K2.mul K2.sub K2.neg K2.zero K2.one K2.inv K2.xi add mul sub neg zero one inv conj e6 e2 w T6.add T6.mul T6.sub T6.neg T6.zero T6.one T6.inv T6.vv T6.em
theorem am(x:T12 n):mul x one=x:=CR.mul_one' x
theorem bh(x:T12 n):mul one x=x:=CR.aR x
theorem HX(a b c d:T12 n):mul (mul a b) (mul c d)=mul (mul a c) (mul b d):=CR.aH (x:=(.m (.m (.v 0) (.v 1)) (.m (.v 2) (.v 3)))) (y:=(.m (.m (.v 0) (.v 2)) (.m (.v 1) (.v 3)))) (by decide +kernel) [a,b,c,d]
def qq(x:T12 n):T12 n:=mul (conj x) (inv x)
def fin(N:Nat)(x:T12 n):T12 n:=CR.pw (qq x) N
variable (tw:T6.Tw n)
include tw
theorem bP{x y:T12 n}(hx:x≠zero)(hy:y≠zero):mul x y≠zero:=fun h=>(aW tw h).elim hx hy
theorem tk{x y:T12 n}(h:mul x y=one):x≠zero:=fun e=>cH tw (h.symm.trans (by rw[e];exact CR.aG y))
theorem zY{x y:T12 n}(h:mul x y=one):inv x=y:=by
 have h2:=aI tw (tk tw h)
 rw[← am (inv x),← h,← mul_assoc',mul_comm' (inv x),h2,bh]
theorem Lu{x y:T12 n}(hx:x≠zero)(hy:y≠zero):inv (mul x y)=mul (inv x) (inv y):=
 zY tw (by rw[HX,aI tw hx,aI tw hy,am])
theorem ji{x:T12 n}(hx:x≠zero):conj x≠zero:=by
 have h:=congrArg conj (aI tw hx)
 rw[aY,fW]at h
 exact tk tw h
theorem IM{x y:T12 n}(hx:x≠zero)(hy:y≠zero):qq (mul x y)=mul (qq x) (qq y):=by
 rw[qq,aY,Lu tw hx hy,HX];rfl
theorem UW{x:T6 n}(hx:e6 x≠zero):qq (e6 x)=one:=by rw[qq,Bm,aI tw hx]
theorem Cm{x:T12 n}(hx:x≠zero):mul (qq (conj x)) (qq x)=one:=by
 rw[qq,qq,eo,HX,mul_comm' x,← HX,aI tw (ji tw hx),aI tw hx,am]
theorem K0{x:T12 n}(hx:x≠zero):conj (qq x)=qq (conj x):=by
 rw[qq,qq,aY]
 congr 1
 symm
 apply zY tw
 rw[← aY,aI tw hx,fW]
theorem dp{N:Nat}{x y:T12 n}(hx:x≠zero)(hy:y≠zero):fin N (mul x y)=mul (fin N x) (fin N y):=by
 rw[fin,IM tw hx hy];exact CR.ed _ _ _
theorem nQ{N:Nat}{x:T6 n}(hx:e6 x≠zero):fin N (e6 x)=one:=by
 rw[fin,UW tw hx];exact CR.ri _
theorem j1{N:Nat}{x:T12 n}(hx:x≠zero):mul (fin N (conj x)) (fin N x)=one:=by
 show CR.mul (CR.pw _ _) (CR.pw _ _)=_
 rw[← CR.ed]
 show CR.pw (mul _ _) _=_
 rw[Cm tw hx];exact CR.ri _
theorem Om{x:T12 n}(hx:x≠zero):∀k,CR.pw x k≠zero
 | 0=>cH tw
 | k+1=>bP tw (Om hx k) hx
theorem On{x:T12 n}(hx:x≠zero):∀k,qq (CR.pw x k)=CR.pw (qq x) k
 | 0=>by
  show qq one=one
  rw[qq,fW,bh]
  exact zY tw (am _)
 | k+1=>by
  rw[CR.kW,CR.kW,← On hx k];exact IM tw (Om tw hx k) hx
theorem QI{N:Nat}{x:T12 n}(hx:x≠zero)(k:Nat):fin N (CR.pw x k)=CR.pw (fin N x) k:=by
 rw[fin,On tw hx,← CR.bM,Nat.mul_comm,CR.bM];rfl
omit tw
def frc(h:K2 n)(x:T12 n):T12 n:=
 ⟨⟨K2.mul x.a.a (K2.pw h 0),K2.mul x.a.b (K2.pw h 2),K2.mul x.a.c (K2.pw h 4)⟩,⟨K2.mul x.b.a (K2.pw h 1),K2.mul x.b.b (K2.pw h 3),K2.mul x.b.c (K2.pw h 5)⟩⟩
theorem iU(g c:K2 n)(k:Nat):K2.mul (K2.conj (K2.mul (K2.conj c) (K2.pw g k))) (K2.pw g k)=K2.mul c (K2.pw (K2.mul (K2.conj g) g) k):=by
 rw[K2.aY,K2.eo,K2.Bo,K2.mul_assoc',K2.ed]
theorem Le(g:K2 n)(x:T12 n):frb g (frb g x)=frc (K2.mul (K2.conj g) g) x:=by
 have h0:=iU g x.a.a 0
 have h1:=iU g x.b.a 1
 have e0:K2.pw g 0=K2.one:=rfl
 rw[e0,K2.mul_one',K2.mul_one',K2.eo]at h0
 rw[K2.Ax]at h1
 unfold frb frc
 rw[iU,iU,iU,iU,h1,← h0,K2.eo]
theorem BE(h k:K2 n)(x:T12 n):frc h (frc k x)=frc (K2.mul k h) x:=by
 unfold frc
 simp only[K2.ed,K2.mul_assoc']
theorem GX(x:T12 n):frc (K2.neg K2.one) x=conj x:=by
 have h1:∀c:K2 n,K2.mul c (K2.neg K2.one)=K2.neg c:=fun c=>by rw[K2.eY,K2.mul_one']
 have e0:K2.pw (K2.neg (K2.one:K2 n)) 0=K2.one:=rfl
 have e1:∀k,K2.pw (K2.neg (K2.one:K2 n)) (k+2)=K2.pw (K2.neg K2.one) k:=fun k=>by
  show K2.mul (K2.mul _ _) _=_
  rw[h1,h1,K2.br]
 have e2:K2.pw (K2.neg (K2.one:K2 n)) 1=K2.neg K2.one:=K2.Ax _
 unfold frc conj T6.neg
 rw[e1 0,e1 2,e1 0,e1 1,e1 3,e1 1,e0,e2]
 simp only[h1,K2.mul_one']
include tw
theorem IK{m:Nat}(hm:n=6*m+1)(x:T12 n):CR.pw x (n*n)=frc (K2.mul (K2.conj (K2.pw K2.xi m)) (K2.pw K2.xi m)) x:=by
 rw[CR.bM,ru tw hm,ru tw hm,Le]
theorem Ol{m:Nat}(hm:n=6*m+1)(h3:K2.pw (K2.mul (K2.conj (K2.pw K2.xi m)) (K2.pw K2.xi m)) 3=K2.neg (K2.one:K2 n))(x:T12 n):CR.pw x (n*n*(n*n)*(n*n))=conj x:=by
 rw[CR.bM x (n*n*(n*n)) (n*n),CR.bM x (n*n) (n*n),IK tw hm,IK tw hm,IK tw hm,BE,BE,← GX,← h3]
 show frc _ x=frc (K2.mul (K2.mul (K2.mul K2.one _) _) _) x
 rw[K2.aR]
 congr 1
 exact(K2.mul_assoc' _ _ _).symm
theorem GJ{m N r:Nat}(hm:n=6*m+1)(h3:K2.pw (K2.mul (K2.conj (K2.pw K2.xi m)) (K2.pw K2.xi m)) 3=K2.neg (K2.one:K2 n))(hr:n*n*(n*n)*(n*n)+1∣N*r){x:T12 n}(hx:x≠zero):CR.pw (fin N x) r=one:=by
 obtain⟨c,hc⟩:=hr
 rw[fin,← CR.bM,hc,CR.bM,CR.kW,Ol tw hm h3,K0 tw hx]
 show CR.pw (mul _ _) c=_
 rw[Cm tw hx];exact CR.ri _
end T12
end Go.Proofs.YtndhfbecpghinaaGreat.L.Kf
namespace Go.Proofs.YtndhfbecpghinaaGreat.L.Kf
open Pr
namespace K2
variable {n:Nat} [NeZero n]
attribute [local irreducible] add mul sub neg zero one inv xi
structure LD (l x1 y1 x2 y2 x3 y3:K2 n):Prop where
 a:add y1 y3=mul l (sub x1 x3)
 b:add y2 y3=mul l (sub x2 x3)
 s:add (add x1 x2) x3=mul l l
 p:add (mul x1 x2) (mul (add x1 x2) x3)=mul (add l l) (add y3 (mul l x3))
theorem Slp.ld{l x1 y1 x2 y2:K2 n}(h:Slp l x1 y1 x2 y2):LD l x1 y1 x2 y2 (cx l x1 x2) (cy l x1 y1 x2):=
  ⟨CR.aH (x:=(.a (.v 2) (.s (.m (.v 0) (.s (.v 1) (.s (.s (.m (.v 0) (.v 0)) (.v 1)) (.v 3)))) (.v 2)))) (y:=(.m (.v 0) (.s (.v 1) (.s (.s (.m (.v 0) (.v 0)) (.v 1)) (.v 3))))) (by decide +kernel) [l,x1,y1,x2],
   CR.lin (x:=(.a (.v 4) (.s (.m (.v 0) (.s (.v 1) (.s (.s (.m (.v 0) (.v 0)) (.v 1)) (.v 3)))) (.v 2)))) (y:=(.m (.v 0) (.s (.v 3) (.s (.s (.m (.v 0) (.v 0)) (.v 1)) (.v 3))))) [((.c (-1)),(.v 2),(.a (.v 4) (.m (.v 0) (.s (.v 1) (.v 3)))))] (by decide +kernel) [l,x1,y1,x2,y2] ⟨h.a,trivial⟩,
   CR.aH (x:=(.a (.a (.v 1) (.v 2)) (.s (.s (.m (.v 0) (.v 0)) (.v 1)) (.v 2)))) (y:=(.m (.v 0) (.v 0))) (by decide +kernel) [l,x1,x2],
   CR.lin (x:=(.a (.m (.v 1) (.v 3)) (.m (.a (.v 1) (.v 3)) (.s (.s (.m (.v 0) (.v 0)) (.v 1)) (.v 3))))) (y:=(.m (.a (.v 0) (.v 0)) (.a (.s (.m (.v 0) (.s (.v 1) (.s (.s (.m (.v 0) (.v 0)) (.v 1)) (.v 3)))) (.v 2)) (.m (.v 0) (.s (.s (.m (.v 0) (.v 0)) (.v 1)) (.v 3)))))) [((.v 0),(.v 2),(.a (.v 4) (.m (.v 0) (.s (.v 1) (.v 3))))),((.c 1),(.m (.v 0) (.a (.v 2) (.v 4))),(.a (.a (.m (.v 1) (.v 1)) (.m (.v 1) (.v 3))) (.m (.v 3) (.v 3))))] (by decide +kernel) [l,x1,y1,x2,y2] ⟨h.a,h.b,trivial⟩⟩
theorem LD.c{b l x1 y1 x2 y2 x3 y3:K2 n}(h:LD l x1 y1 x2 y2 x3 y3)(h3:mul y3 y3=add (mul (mul x3 x3) x3) b):mul (mul x1 x2) x3=sub (mul (add y3 (mul l x3)) (add y3 (mul l x3))) b:=
 CR.lin (x:=(.m (.m (.v 2) (.v 3)) (.v 4))) (y:=(.s (.m (.a (.v 5) (.m (.v 1) (.v 4))) (.a (.v 5) (.m (.v 1) (.v 4)))) (.v 0))) [((.m (.m (.c (-1)) (.v 4)) (.v 4)),(.a (.a (.v 2) (.v 3)) (.v 4)),(.m (.v 1) (.v 1))),((.m (.c 1) (.v 4)),(.a (.m (.v 2) (.v 3)) (.m (.a (.v 2) (.v 3)) (.v 4))),(.m (.a (.v 1) (.v 1)) (.a (.v 5) (.m (.v 1) (.v 4))))),((.c (-1)),(.m (.v 5) (.v 5)),(.a (.m (.m (.v 4) (.v 4)) (.v 4)) (.v 0)))] (by decide +kernel) [b,l,x1,x2,x3,y3] ⟨h.s,h.p,h3,trivial⟩
def nA(l1 l2 x:K2 n):K2 n:=add x (mul l1 l2)
def nB(l1 l2:K2 n):K2 n:=neg (add l1 l2)
def nC(l1 l2 x y:K2 n):K2 n:=sub (sub (mul x x) (mul (mul l1 l2) x)) (mul (sub l2 l1) y)
section
variable {b l1 l2 x1 y1 x2 y2 xs ys x3 y3 x4 y4:K2 n} (h:LD l1 x1 y1 x2 y2 xs ys) (k:LD l2 xs ys x3 y3 x4 y4) (hs:mul ys ys=add (mul (mul xs xs) xs) b)
include h k
theorem nr1:sub (add (nA l1 l2 xs) (nA l1 l2 xs)) (mul (nB l1 l2) (nB l1 l2))=neg (add (add (add x1 x2) x3) x4):=
 CR.lin (x:=(.s (.a (.a (.v 4) (.m (.v 0) (.v 1))) (.a (.v 4) (.m (.v 0) (.v 1)))) (.m (.n (.a (.v 0) (.v 1))) (.n (.a (.v 0) (.v 1)))))) (y:=(.n (.a (.a (.a (.v 2) (.v 3)) (.v 6)) (.v 7)))) [((.c 1),(.a (.a (.v 2) (.v 3)) (.v 4)),(.m (.v 0) (.v 0))),((.c 1),(.a (.a (.v 4) (.v 6)) (.v 7)),(.m (.v 1) (.v 1)))] (by decide +kernel) [l1,l2,x1,x2,xs,ys,x3,x4,y4] ⟨h.s,k.s,trivial⟩
theorem nr2:add (mul (nA l1 l2 xs) (nA l1 l2 xs)) (add (nC l1 l2 xs ys) (nC l1 l2 xs ys))=add (add (mul x1 x2) (mul x3 x4)) (mul (add x1 x2) (add x3 x4)):=
 CR.lin (x:=(.a (.m (.a (.v 4) (.m (.v 0) (.v 1))) (.a (.v 4) (.m (.v 0) (.v 1)))) (.a (.s (.s (.m (.v 4) (.v 4)) (.m (.m (.v 0) (.v 1)) (.v 4))) (.m (.s (.v 1) (.v 0)) (.v 5))) (.s (.s (.m (.v 4) (.v 4)) (.m (.m (.v 0) (.v 1)) (.v 4))) (.m (.s (.v 1) (.v 0)) (.v 5)))))) (y:=(.a (.a (.m (.v 2) (.v 3)) (.m (.v 6) (.v 7))) (.m (.a (.v 2) (.v 3)) (.a (.v 6) (.v 7))))) [((.a (.m (.c (-1)) (.v 7)) (.a (.m (.c (-1)) (.v 6)) (.m (.c 1) (.v 4)))),(.a (.a (.v 2) (.v 3)) (.v 4)),(.m (.v 0) (.v 0))),((.a (.m (.c 2) (.v 4)) (.m (.m (.c (-1)) (.v 0)) (.v 0))),(.a (.a (.v 4) (.v 6)) (.v 7)),(.m (.v 1) (.v 1))),((.c (-1)),(.a (.m (.v 2) (.v 3)) (.m (.a (.v 2) (.v 3)) (.v 4))),(.m (.a (.v 0) (.v 0)) (.a (.v 5) (.m (.v 0) (.v 4))))),((.m (.c (-2)) (.v 1)),(.a (.v 5) (.v 8)),(.m (.v 1) (.s (.v 4) (.v 7)))),((.c (-1)),(.a (.m (.v 4) (.v 6)) (.m (.a (.v 4) (.v 6)) (.v 7))),(.m (.a (.v 1) (.v 1)) (.a (.v 8) (.m (.v 1) (.v 7)))))] (by decide +kernel) [l1,l2,x1,x2,xs,ys,x3,x4,y4] ⟨h.s,k.s,h.p,k.a,k.p,trivial⟩
theorem nr3:mul (add (nA l1 l2 xs) (nA l1 l2 xs)) (nC l1 l2 xs ys)=neg (add (mul (mul x1 x2) (add x3 x4)) (mul (mul x3 x4) (add x1 x2))):=
 CR.lin (x:=(.m (.a (.a (.v 5) (.m (.v 1) (.v 2))) (.a (.v 5) (.m (.v 1) (.v 2)))) (.s (.s (.m (.v 5) (.v 5)) (.m (.m (.v 1) (.v 2)) (.v 5))) (.m (.s (.v 2) (.v 1)) (.v 6))))) (y:=(.n (.a (.m (.m (.v 3) (.v 4)) (.a (.v 7) (.v 8))) (.m (.m (.v 7) (.v 8)) (.a (.v 3) (.v 4)))))) [((.a (.m (.a (.m (.c 1) (.v 7)) (.m (.c 1) (.v 3))) (.v 8)) (.a (.m (.m (.c 1) (.v 3)) (.v 7)) (.a (.m (.a (.m (.c 1) (.v 5)) (.a (.m (.c 1) (.v 3)) (.m (.m (.c (-1)) (.v 2)) (.v 2)))) (.v 5)) (.m (.m (.m (.c (-1)) (.v 2)) (.v 2)) (.v 3))))),(.a (.a (.v 3) (.v 4)) (.v 5)),(.m (.v 1) (.v 1))),((.a (.m (.a (.m (.c 1) (.v 5)) (.a (.m (.c (-1)) (.v 3)) (.m (.m (.c (-1)) (.v 1)) (.v 1)))) (.v 5)) (.m (.a (.m (.c (-1)) (.v 3)) (.m (.m (.c 1) (.v 1)) (.v 1))) (.v 3))),(.a (.a (.v 5) (.v 7)) (.v 8)),(.m (.v 2) (.v 2))),((.a (.m (.c (-1)) (.v 5)) (.m (.m (.c 1) (.v 2)) (.v 2))),(.a (.m (.v 3) (.v 4)) (.m (.a (.v 3) (.v 4)) (.v 5))),(.m (.a (.v 1) (.v 1)) (.a (.v 6) (.m (.v 1) (.v 5))))),((.a (.m (.m (.c (-2)) (.v 2)) (.v 5)) (.m (.m (.m (.c 2) (.v 1)) (.v 1)) (.v 2))),(.a (.v 6) (.v 9)),(.m (.v 2) (.s (.v 5) (.v 8)))),((.a (.m (.c (-1)) (.v 5)) (.m (.m (.c 1) (.v 1)) (.v 1))),(.a (.m (.v 5) (.v 7)) (.m (.a (.v 5) (.v 7)) (.v 8))),(.m (.a (.v 2) (.v 2)) (.a (.v 9) (.m (.v 2) (.v 8)))))] (by decide +kernel) [l1,l1,l2,x1,x2,xs,ys,x3,x4,y4] ⟨h.s,k.s,h.p,k.a,k.p,trivial⟩
include hs
theorem nr4:sub (mul (nC l1 l2 xs ys) (nC l1 l2 xs ys)) (mul b (mul (nB l1 l2) (nB l1 l2)))=mul (mul x1 x2) (mul x3 x4):=
 CR.lin (x:=(.s (.m (.s (.s (.m (.v 5) (.v 5)) (.m (.m (.v 1) (.v 2)) (.v 5))) (.m (.s (.v 2) (.v 1)) (.v 6))) (.s (.s (.m (.v 5) (.v 5)) (.m (.m (.v 1) (.v 2)) (.v 5))) (.m (.s (.v 2) (.v 1)) (.v 6)))) (.m (.v 0) (.m (.n (.a (.v 1) (.v 2))) (.n (.a (.v 1) (.v 2))))))) (y:=(.m (.m (.v 3) (.v 4)) (.m (.v 7) (.v 8)))) [((.a (.m (.m (.m (.c (-1)) (.v 3)) (.v 7)) (.v 8)) (.m (.a (.m (.a (.m (.c (-1)) (.v 5)) (.m (.c (-1)) (.v 3))) (.v 7)) (.a (.m (.a (.m (.c (-1)) (.v 5)) (.a (.m (.c (-1)) (.v 3)) (.m (.m (.c 1) (.v 2)) (.v 2)))) (.v 5)) (.m (.m (.m (.c 1) (.v 2)) (.v 2)) (.v 3)))) (.v 7))),(.a (.a (.v 3) (.v 4)) (.v 5)),(.m (.v 1) (.v 1))),((.a (.m (.a (.m (.m (.c 2) (.v 1)) (.v 6)) (.a (.m (.a (.m (.c 1) (.v 5)) (.a (.m (.c 1) (.v 3)) (.m (.m (.c 1) (.v 1)) (.v 1)))) (.v 5)) (.m (.a (.m (.c 1) (.v 3)) (.m (.m (.c (-1)) (.v 1)) (.v 1))) (.v 3)))) (.v 7)) (.a (.m (.m (.m (.c 2) (.v 1)) (.v 5)) (.v 6)) (.m (.m (.a (.m (.c 1) (.v 5)) (.m (.m (.c 1) (.v 1)) (.v 1))) (.v 5)) (.v 5)))),(.a (.a (.v 5) (.v 7)) (.v 8)),(.m (.v 2) (.v 2))),((.m (.a (.m (.c 1) (.v 7)) (.a (.m (.c 1) (.v 5)) (.m (.m (.c (-1)) (.v 2)) (.v 2)))) (.v 7)),(.a (.m (.v 3) (.v 4)) (.m (.a (.v 3) (.v 4)) (.v 5))),(.m (.a (.v 1) (.v 1)) (.a (.v 6) (.m (.v 1) (.v 5))))),((.a (.m (.m (.m (.c (-4)) (.v 1)) (.v 2)) (.v 6)) (.m (.a (.m (.m (.c (-2)) (.v 2)) (.v 5)) (.m (.m (.m (.c (-2)) (.v 1)) (.v 1)) (.v 2))) (.v 5))),(.a (.v 6) (.v 9)),(.m (.v 2) (.s (.v 5) (.v 8)))),((.a (.m (.m (.c (-2)) (.v 1)) (.v 6)) (.m (.a (.m (.c (-1)) (.v 5)) (.m (.m (.c (-1)) (.v 1)) (.v 1))) (.v 5))),(.a (.m (.v 5) (.v 7)) (.m (.a (.v 5) (.v 7)) (.v 8))),(.m (.a (.v 2) (.v 2)) (.a (.v 9) (.m (.v 2) (.v 8))))),((.a (.m (.a (.m (.c 1) (.v 2)) (.m (.c 2) (.v 1))) (.v 2)) (.m (.m (.c 1) (.v 1)) (.v 1))),(.m (.v 6) (.v 6)),(.a (.m (.m (.v 5) (.v 5)) (.v 5)) (.v 0)))] (by decide +kernel) [b,l1,l2,x1,x2,xs,ys,x3,x4,y4] ⟨h.s,k.s,h.p,k.a,k.p,hs,trivial⟩
end
theorem nv1{l1 x1 y1 x2 y2 xs ys:K2 n}(h:LD l1 x1 y1 x2 y2 xs ys)(l2:K2 n):add (add (add (mul x1 x1) (mul (nA l1 l2 xs) x1)) (mul (nB l1 l2) y1)) (nC l1 l2 xs ys)=zero:=
 CR.lin (x:=(.a (.a (.a (.m (.v 2) (.v 2)) (.m (.a (.v 5) (.m (.v 0) (.v 1))) (.v 2))) (.m (.n (.a (.v 0) (.v 1))) (.v 3))) (.s (.s (.m (.v 5) (.v 5)) (.m (.m (.v 0) (.v 1)) (.v 5))) (.m (.s (.v 1) (.v 0)) (.v 6))))) (y:=(.c 0)) [((.a (.m (.c 1) (.v 5)) (.m (.c 1) (.v 2))),(.a (.a (.v 2) (.v 4)) (.v 5)),(.m (.v 0) (.v 0))),((.a (.m (.c (-1)) (.v 1)) (.m (.c (-1)) (.v 0))),(.a (.v 3) (.v 6)),(.m (.v 0) (.s (.v 2) (.v 5)))),((.c (-1)),(.a (.m (.v 2) (.v 4)) (.m (.a (.v 2) (.v 4)) (.v 5))),(.m (.a (.v 0) (.v 0)) (.a (.v 6) (.m (.v 0) (.v 5)))))] (by decide +kernel) [l1,l2,x1,y1,x2,xs,ys] ⟨h.s,h.a,h.p,trivial⟩
theorem nv2{l2 x3 y3 x4 y4 xs ys:K2 n}(k:LD l2 xs ys x3 y3 x4 y4)(l1:K2 n):add (add (add (mul x3 x3) (mul (nA l1 l2 xs) x3)) (mul (nB l1 l2) y3)) (nC l1 l2 xs ys)=zero:=
 CR.lin (x:=(.a (.a (.a (.m (.v 2) (.v 2)) (.m (.a (.v 6) (.m (.v 0) (.v 1))) (.v 2))) (.m (.n (.a (.v 0) (.v 1))) (.v 3))) (.s (.s (.m (.v 6) (.v 6)) (.m (.m (.v 0) (.v 1)) (.v 6))) (.m (.s (.v 1) (.v 0)) (.v 7))))) (y:=(.c 0)) [((.a (.m (.c 1) (.v 6)) (.m (.c 1) (.v 2))),(.a (.a (.v 6) (.v 2)) (.v 4)),(.m (.v 1) (.v 1))),((.a (.m (.c (-1)) (.v 1)) (.m (.c 1) (.v 0))),(.a (.v 7) (.v 5)),(.m (.v 1) (.s (.v 6) (.v 4)))),((.a (.m (.c (-1)) (.v 1)) (.m (.c (-1)) (.v 0))),(.a (.v 3) (.v 5)),(.m (.v 1) (.s (.v 2) (.v 4)))),((.c (-1)),(.a (.m (.v 6) (.v 2)) (.m (.a (.v 6) (.v 2)) (.v 4))),(.m (.a (.v 1) (.v 1)) (.a (.v 5) (.m (.v 1) (.v 4)))))] (by decide +kernel) [l1,l2,x3,y3,x4,y4,xs,ys] ⟨k.s,k.a,k.b,k.p,trivial⟩
theorem Fe(hp:P3 n){b a c d a' c' d':K2 n}(h2:No2 b)(h1:sub (add a a) (mul c c)=sub (add a' a') (mul c' c'))(h3:add (mul a a) (add d d)=add (mul a' a') (add d' d'))
  (h4:mul (add a a) d=mul (add a' a') d') (h5:sub (mul d d) (mul b (mul c c))=sub (mul d' d') (mul b (mul c' c'))):a=a'∧d=d'∧(c=c'∨c=neg c'):=by
 obtain⟨i,hi⟩:=BL hp
 have hi:add i i=CR.ofZ 1:=hi
 have e1:a=a':=by
  have e:mul (sub a a') (add (mul (mul (mul (add a a') i) (mul (add a a') i)) (mul (add a a') i)) b)=zero:=
   CR.lin (x:=(.m (.s (.v 0) (.v 3)) (.a (.m (.m (.m (.a (.v 0) (.v 3)) (.v 7)) (.m (.a (.v 0) (.v 3)) (.v 7))) (.m (.a (.v 0) (.v 3)) (.v 7))) (.v 6)))) (y:=(.c 0)) [((.m (.v 6) (.v 7)),(.s (.a (.v 0) (.v 0)) (.m (.v 1) (.v 1))),(.s (.a (.v 3) (.v 3)) (.m (.v 4) (.v 4)))),((.a (.m (.m (.a (.v 0) (.v 3)) (.a (.v 0) (.v 3))) (.m (.m (.v 7) (.v 7)) (.v 7))) (.m (.a (.v 2) (.v 5)) (.m (.v 7) (.v 7)))),(.a (.m (.v 0) (.v 0)) (.a (.v 2) (.v 2))),(.a (.m (.v 3) (.v 3)) (.a (.v 5) (.v 5)))),((.n (.m (.a (.v 0) (.v 3)) (.m (.v 7) (.v 7)))),(.m (.a (.v 0) (.v 0)) (.v 2)),(.m (.a (.v 3) (.v 3)) (.v 5))),((.n (.v 7)),(.s (.m (.v 2) (.v 2)) (.m (.v 6) (.m (.v 1) (.v 1)))),(.s (.m (.v 5) (.v 5)) (.m (.v 6) (.m (.v 4) (.v 4))))),((.a (.m (.a (.m (.a (.m (.a (.m (.a (.m (.c 1) (.v 3)) (.m (.c 2) (.v 0))) (.v 3)) (.m (.m (.c 1) (.v 0)) (.v 0))) (.v 5)) (.a (.m (.a (.m (.m (.c (-1)) (.v 2)) (.v 3)) (.m (.m (.c (-2)) (.v 0)) (.v 2))) (.v 3)) (.m (.m (.m (.c (-1)) (.v 0)) (.v 0)) (.v 2)))) (.v 7)) (.a (.m (.m (.c 1) (.v 5)) (.v 5)) (.m (.m (.c (-1)) (.v 2)) (.v 2)))) (.v 7)) (.m (.a (.m (.c 1) (.v 3)) (.m (.c (-1)) (.v 0))) (.v 6))),(.a (.v 7) (.v 7)),(.c 1))] (by decide +kernel) [a,c,d,a',c',d',b,i] ⟨h1,h3,h4,h5,hi,trivial⟩
  exact aE ((aW hp e).resolve_right (h2 _))
 subst e1
 have e2:d=d':=CR.lin (x:=(.v 1)) (y:=(.v 2)) [((.v 3),(.a (.m (.v 0) (.v 0)) (.a (.v 1) (.v 1))),(.a (.m (.v 0) (.v 0)) (.a (.v 2) (.v 2)))),((.a (.m (.c 1) (.v 2)) (.m (.c (-1)) (.v 1))),(.a (.v 3) (.v 3)),(.c 1))] (by decide +kernel) [a,d,d',i] ⟨h3,hi,trivial⟩
 exact⟨rfl,e2,I7 hp (CR.lin (x:=(.m (.v 1) (.v 1))) (y:=(.m (.v 2) (.v 2))) [((.c (-1)),(.s (.a (.v 0) (.v 0)) (.m (.v 1) (.v 1))),(.s (.a (.v 0) (.v 0)) (.m (.v 2) (.v 2))))] (by decide +kernel) [a,c,c'] ⟨h1,trivial⟩)⟩
end K2
end Go.Proofs.YtndhfbecpghinaaGreat.L.Kf
namespace Go.Proofs.YtndhfbecpghinaaGreat.L.Kf
open Pr
namespace T12
variable {n:Nat} [NeZero n]
open K2 (Pt pa pn Onc No2 Slp LD cx cy f6 dZ nA nB nC)
attribute [local irreducible] K2.add K2.mul K2.sub K2.neg K2.zero K2.one K2.inv K2.xi
def ln(l x y u v:K2 n):T12 n:=⟨⟨K2.sub (K2.mul l x) y,K2.neg (K2.mul l u),K2.zero⟩,⟨K2.zero,v,K2.zero⟩⟩
def vt(x u:K2 n):T6 n:=⟨x,K2.neg u,K2.zero⟩
def nv(a c d u v:K2 n):T12 n:=⟨⟨d,K2.mul a u,K2.mul u u⟩,⟨K2.zero,K2.mul c v,K2.zero⟩⟩
theorem vg(a0 a1 a2 a3 a4 a5 b0 b1 b2 b3 b4 b5:K2 n):mul ⟨⟨a0,a2,a4⟩,⟨a1,a3,a5⟩⟩ ⟨⟨b0,b2,b4⟩,⟨b1,b3,b5⟩⟩ =
    ⟨⟨K2.add (K2.mul a0 b0) (K2.mul K2.xi (K2.add (K2.add (K2.add (K2.mul a1 b5) (K2.mul a5 b1)) (K2.add (K2.mul a2 b4) (K2.mul a4 b2))) (K2.mul a3 b3))),K2.add (K2.add (K2.mul a0 b2) (K2.add (K2.mul a2 b0) (K2.mul a1 b1))) (K2.mul K2.xi (K2.add (K2.add (K2.mul a3 b5) (K2.mul a5 b3)) (K2.mul a4 b4))),K2.add (K2.add (K2.add (K2.mul a0 b4) (K2.mul a4 b0)) (K2.add (K2.add (K2.mul a1 b3) (K2.mul a3 b1)) (K2.mul a2 b2))) (K2.mul K2.xi (K2.mul a5 b5))⟩,
     ⟨K2.add (K2.add (K2.mul a0 b1) (K2.mul a1 b0)) (K2.mul K2.xi (K2.add (K2.add (K2.mul a2 b5) (K2.mul a5 b2)) (K2.add (K2.mul a3 b4) (K2.mul a4 b3)))),K2.add (K2.add (K2.add (K2.mul a0 b3) (K2.mul a3 b0)) (K2.add (K2.mul a1 b2) (K2.mul a2 b1))) (K2.mul K2.xi (K2.add (K2.mul a4 b5) (K2.mul a5 b4))),K2.add (K2.add (K2.add (K2.mul a0 b5) (K2.mul a5 b0)) (K2.add (K2.mul a1 b4) (K2.mul a4 b1))) (K2.add (K2.mul a2 b3) (K2.mul a3 b2))⟩⟩:=by
  unfold mul
  rw[Ux]
  refine ext' (T6.ext' ?_ ?_ ?_) (T6.ext' ?_ ?_ ?_)
  · exact CR.aH (x:=(.a (.a (.m (.v 0) (.v 6)) (.m (.v 12) (.a (.m (.v 2) (.v 10)) (.m (.v 4) (.v 8))))) (.m (.v 12) (.a (.a (.m (.v 1) (.v 11)) (.m (.v 3) (.v 9))) (.m (.v 5) (.v 7)))))) (y:=(.a (.m (.v 0) (.v 6)) (.m (.v 12) (.a (.a (.a (.m (.v 1) (.v 11)) (.m (.v 5) (.v 7))) (.a (.m (.v 2) (.v 10)) (.m (.v 4) (.v 8)))) (.m (.v 3) (.v 9)))))) (by decide +kernel) [a0,a1,a2,a3,a4,a5,b0,b1,b2,b3,b4,b5,K2.xi]
  · exact CR.aH (x:=(.a (.a (.a (.m (.v 0) (.v 8)) (.m (.v 2) (.v 6))) (.m (.v 12) (.m (.v 4) (.v 10)))) (.a (.m (.v 1) (.v 7)) (.m (.v 12) (.a (.m (.v 3) (.v 11)) (.m (.v 5) (.v 9))))))) (y:=(.a (.a (.m (.v 0) (.v 8)) (.a (.m (.v 2) (.v 6)) (.m (.v 1) (.v 7)))) (.m (.v 12) (.a (.a (.m (.v 3) (.v 11)) (.m (.v 5) (.v 9))) (.m (.v 4) (.v 10)))))) (by decide +kernel) [a0,a1,a2,a3,a4,a5,b0,b1,b2,b3,b4,b5,K2.xi]
  · exact CR.aH (x:=(.a (.a (.a (.m (.v 0) (.v 10)) (.m (.v 2) (.v 8))) (.m (.v 4) (.v 6))) (.a (.a (.m (.v 1) (.v 9)) (.m (.v 3) (.v 7))) (.m (.v 12) (.m (.v 5) (.v 11)))))) (y:=(.a (.a (.a (.m (.v 0) (.v 10)) (.m (.v 4) (.v 6))) (.a (.a (.m (.v 1) (.v 9)) (.m (.v 3) (.v 7))) (.m (.v 2) (.v 8)))) (.m (.v 12) (.m (.v 5) (.v 11))))) (by decide +kernel) [a0,a1,a2,a3,a4,a5,b0,b1,b2,b3,b4,b5,K2.xi]
  · exact CR.aH (x:=(.a (.a (.m (.v 0) (.v 7)) (.m (.v 12) (.a (.m (.v 2) (.v 11)) (.m (.v 4) (.v 9))))) (.a (.m (.v 1) (.v 6)) (.m (.v 12) (.a (.m (.v 3) (.v 10)) (.m (.v 5) (.v 8))))))) (y:=(.a (.a (.m (.v 0) (.v 7)) (.m (.v 1) (.v 6))) (.m (.v 12) (.a (.a (.m (.v 2) (.v 11)) (.m (.v 5) (.v 8))) (.a (.m (.v 3) (.v 10)) (.m (.v 4) (.v 9))))))) (by decide +kernel) [a0,a1,a2,a3,a4,a5,b0,b1,b2,b3,b4,b5,K2.xi]
  · exact CR.aH (x:=(.a (.a (.a (.m (.v 0) (.v 9)) (.m (.v 2) (.v 7))) (.m (.v 12) (.m (.v 4) (.v 11)))) (.a (.a (.m (.v 1) (.v 8)) (.m (.v 3) (.v 6))) (.m (.v 12) (.m (.v 5) (.v 10)))))) (y:=(.a (.a (.a (.m (.v 0) (.v 9)) (.m (.v 3) (.v 6))) (.a (.m (.v 1) (.v 8)) (.m (.v 2) (.v 7)))) (.m (.v 12) (.a (.m (.v 4) (.v 11)) (.m (.v 5) (.v 10)))))) (by decide +kernel) [a0,a1,a2,a3,a4,a5,b0,b1,b2,b3,b4,b5,K2.xi]
  · exact CR.aH (x:=(.a (.a (.a (.m (.v 0) (.v 11)) (.m (.v 2) (.v 9))) (.m (.v 4) (.v 7))) (.a (.a (.m (.v 1) (.v 10)) (.m (.v 3) (.v 8))) (.m (.v 5) (.v 6))))) (y:=(.a (.a (.a (.m (.v 0) (.v 11)) (.m (.v 5) (.v 6))) (.a (.m (.v 1) (.v 10)) (.m (.v 4) (.v 7)))) (.a (.m (.v 2) (.v 9)) (.m (.v 3) (.v 8))))) (by decide +kernel) [a0,a1,a2,a3,a4,a5,b0,b1,b2,b3,b4,b5,K2.xi]
theorem TX(a b c:K2 n):e6 ⟨a,b,c⟩=⟨⟨a,b,c⟩,⟨K2.zero,K2.zero,K2.zero⟩⟩:=rfl
theorem Ut{b c l1 l2 x1 y1 x2 y2 xs ys u v:K2 n}(h:LD l1 x1 y1 x2 y2 xs ys)(hb:b=K2.mul K2.xi c)(hs:K2.mul ys ys=K2.add (K2.mul (K2.mul xs xs) xs) b)(hu:K2.mul v v=K2.add (K2.mul (K2.mul u u) u) c):
  mul (ln l1 x1 y1 u v) (ln l2 xs ys u v)=mul (e6 (vt xs u)) (neg (nv (nA l1 l2 xs) (nB l1 l2) (nC l1 l2 xs ys) u v)):=by
 have h0:K2.sub (K2.mul l1 x1) y1=K2.add (K2.mul l1 xs) ys:=CR.lin (x:=(.s (.m (.v 0) (.v 1)) (.v 2))) (y:=(.a (.m (.v 0) (.v 3)) (.v 4))) [((.c (-1)),(.a (.v 2) (.v 4)),(.m (.v 0) (.s (.v 1) (.v 3))))] (by decide +kernel) [l1,x1,y1,xs,ys] ⟨h.a,trivial⟩
 unfold ln vt nv
 rw[h0,TX]
 unfold neg T6.neg
 rw[vg,vg]
 subst hb
 refine ext' (T6.ext' ?_ ?_ ?_) (T6.ext' ?_ ?_ ?_)
 ·exact CR.lin (x:=(.a (.m (.a (.m (.v 1) (.v 3)) (.v 4)) (.s (.m (.v 2) (.v 3)) (.v 4))) (.m (.v 7) (.a (.a (.a (.m (.c 0) (.c 0)) (.m (.c 0) (.c 0))) (.a (.m (.n (.m (.v 1) (.v 5))) (.c 0)) (.m (.c 0) (.n (.m (.v 2) (.v 5)))))) (.m (.v 6) (.v 6)))))) (y:=(.a (.m (.v 3) (.n (.s (.s (.m (.v 3) (.v 3)) (.m (.m (.v 1) (.v 2)) (.v 3))) (.m (.s (.v 2) (.v 1)) (.v 4))))) (.m (.v 7) (.a (.a (.a (.m (.c 0) (.n (.c 0))) (.m (.c 0) (.n (.c 0)))) (.a (.m (.n (.v 5)) (.n (.m (.v 5) (.v 5)))) (.m (.c 0) (.n (.m (.a (.v 3) (.m (.v 1) (.v 2))) (.v 5)))))) (.m (.c 0) (.n (.m (.n (.a (.v 1) (.v 2))) (.v 6)))))))) [((.c (-1)),(.m (.v 4) (.v 4)),(.a (.m (.m (.v 3) (.v 3)) (.v 3)) (.m (.v 7) (.v 0)))),((.v 7),(.m (.v 6) (.v 6)),(.a (.m (.m (.v 5) (.v 5)) (.v 5)) (.v 0)))] (by decide +kernel) [c,l1,l2,xs,ys,u,v,K2.xi] ⟨hs,hu,trivial⟩
 ·exact CR.aH (x:=(.a (.a (.m (.a (.m (.v 1) (.v 3)) (.v 4)) (.n (.m (.v 2) (.v 5)))) (.a (.m (.n (.m (.v 1) (.v 5))) (.s (.m (.v 2) (.v 3)) (.v 4))) (.m (.c 0) (.c 0)))) (.m (.v 7) (.a (.a (.m (.v 6) (.c 0)) (.m (.c 0) (.v 6))) (.m (.c 0) (.c 0)))))) (y:=(.a (.a (.m (.v 3) (.n (.m (.a (.v 3) (.m (.v 1) (.v 2))) (.v 5)))) (.a (.m (.n (.v 5)) (.n (.s (.s (.m (.v 3) (.v 3)) (.m (.m (.v 1) (.v 2)) (.v 3))) (.m (.s (.v 2) (.v 1)) (.v 4))))) (.m (.c 0) (.n (.c 0))))) (.m (.v 7) (.a (.a (.m (.c 0) (.n (.c 0))) (.m (.c 0) (.n (.m (.n (.a (.v 1) (.v 2))) (.v 6))))) (.m (.c 0) (.n (.m (.v 5) (.v 5)))))))) (by decide +kernel) [c,l1,l2,xs,ys,u,v,K2.xi]
 ·exact CR.aH (x:=(.a (.a (.a (.m (.a (.m (.v 1) (.v 3)) (.v 4)) (.c 0)) (.m (.c 0) (.s (.m (.v 2) (.v 3)) (.v 4)))) (.a (.a (.m (.c 0) (.v 6)) (.m (.v 6) (.c 0))) (.m (.n (.m (.v 1) (.v 5))) (.n (.m (.v 2) (.v 5)))))) (.m (.v 7) (.m (.c 0) (.c 0))))) (y:=(.a (.a (.a (.m (.v 3) (.n (.m (.v 5) (.v 5)))) (.m (.c 0) (.n (.s (.s (.m (.v 3) (.v 3)) (.m (.m (.v 1) (.v 2)) (.v 3))) (.m (.s (.v 2) (.v 1)) (.v 4)))))) (.a (.a (.m (.c 0) (.n (.m (.n (.a (.v 1) (.v 2))) (.v 6)))) (.m (.c 0) (.n (.c 0)))) (.m (.n (.v 5)) (.n (.m (.a (.v 3) (.m (.v 1) (.v 2))) (.v 5)))))) (.m (.v 7) (.m (.c 0) (.n (.c 0)))))) (by decide +kernel) [c,l1,l2,xs,ys,u,v,K2.xi]
 ·exact CR.aH (x:=(.a (.a (.m (.a (.m (.v 1) (.v 3)) (.v 4)) (.c 0)) (.m (.c 0) (.s (.m (.v 2) (.v 3)) (.v 4)))) (.m (.v 7) (.a (.a (.m (.n (.m (.v 1) (.v 5))) (.c 0)) (.m (.c 0) (.n (.m (.v 2) (.v 5))))) (.a (.m (.v 6) (.c 0)) (.m (.c 0) (.v 6))))))) (y:=(.a (.a (.m (.v 3) (.n (.c 0))) (.m (.c 0) (.n (.s (.s (.m (.v 3) (.v 3)) (.m (.m (.v 1) (.v 2)) (.v 3))) (.m (.s (.v 2) (.v 1)) (.v 4)))))) (.m (.v 7) (.a (.a (.m (.n (.v 5)) (.n (.c 0))) (.m (.c 0) (.n (.m (.a (.v 3) (.m (.v 1) (.v 2))) (.v 5))))) (.a (.m (.c 0) (.n (.m (.v 5) (.v 5)))) (.m (.c 0) (.n (.m (.n (.a (.v 1) (.v 2))) (.v 6))))))))) (by decide +kernel) [c,l1,l2,xs,ys,u,v,K2.xi]
 ·exact CR.aH (x:=(.a (.a (.a (.m (.a (.m (.v 1) (.v 3)) (.v 4)) (.v 6)) (.m (.v 6) (.s (.m (.v 2) (.v 3)) (.v 4)))) (.a (.m (.c 0) (.n (.m (.v 2) (.v 5)))) (.m (.n (.m (.v 1) (.v 5))) (.c 0)))) (.m (.v 7) (.a (.m (.c 0) (.c 0)) (.m (.c 0) (.c 0)))))) (y:=(.a (.a (.a (.m (.v 3) (.n (.m (.n (.a (.v 1) (.v 2))) (.v 6)))) (.m (.c 0) (.n (.s (.s (.m (.v 3) (.v 3)) (.m (.m (.v 1) (.v 2)) (.v 3))) (.m (.s (.v 2) (.v 1)) (.v 4)))))) (.a (.m (.c 0) (.n (.m (.a (.v 3) (.m (.v 1) (.v 2))) (.v 5)))) (.m (.n (.v 5)) (.n (.c 0))))) (.m (.v 7) (.a (.m (.c 0) (.n (.c 0))) (.m (.c 0) (.n (.m (.v 5) (.v 5)))))))) (by decide +kernel) [c,l1,l2,xs,ys,u,v,K2.xi]
 ·exact CR.aH (x:=(.a (.a (.a (.m (.a (.m (.v 1) (.v 3)) (.v 4)) (.c 0)) (.m (.c 0) (.s (.m (.v 2) (.v 3)) (.v 4)))) (.a (.m (.c 0) (.c 0)) (.m (.c 0) (.c 0)))) (.a (.m (.n (.m (.v 1) (.v 5))) (.v 6)) (.m (.v 6) (.n (.m (.v 2) (.v 5))))))) (y:=(.a (.a (.a (.m (.v 3) (.n (.c 0))) (.m (.c 0) (.n (.s (.s (.m (.v 3) (.v 3)) (.m (.m (.v 1) (.v 2)) (.v 3))) (.m (.s (.v 2) (.v 1)) (.v 4)))))) (.a (.m (.c 0) (.n (.m (.v 5) (.v 5)))) (.m (.c 0) (.n (.c 0))))) (.a (.m (.n (.v 5)) (.n (.m (.n (.a (.v 1) (.v 2))) (.v 6)))) (.m (.c 0) (.n (.m (.a (.v 3) (.m (.v 1) (.v 2))) (.v 5))))))) (by decide +kernel) [c,l1,l2,xs,ys,u,v,K2.xi]
end T12
end Go.Proofs.YtndhfbecpghinaaGreat.L.Kf
namespace Go.Proofs.YtndhfbecpghinaaGreat.L.Kf
open Pr
namespace T12
variable {n:Nat} [NeZero n]
open K2 (Pt pa pn Onc No2 Slp LD cx cy f6 dZ nA nB nC)
attribute [local irreducible] K2.add K2.mul K2.sub K2.neg K2.zero K2.one K2.inv K2.xi
def lin(P A B:Pt n):T12 n:=
 match P,A,B with
 | some P,some A,some B=>
  if A.1=B.1 then if A.2=B.2∧A.2≠K2.zero then ln (f6 A.1 A.2) A.1 A.2 P.1 P.2 else e6 (vt A.1 P.1)
  else ln (dZ A.1 A.2 B.1 B.2) A.1 A.2 P.1 P.2
 | _,_,_=>one
structure Pg (b c:K2 n):Prop where
 tw:T6.Tw n
 hb:b=K2.mul K2.xi c
 n2:No2 b
 n4:No2 c
 nb:∀y,K2.mul y y≠b
theorem gJ(P B:Pt n):lin P none B=one:=by cases P <;> rfl
theorem s7(P A:Pt n):lin P A none=one:=by cases P <;> cases A <;> rfl
theorem dm(hp:P3 n){l x1 y1 x2 y2 u v:K2 n}(h:Slp l x1 y1 x2 y2)(hne:x1≠x2∨K2.add y1 y2≠K2.zero):lin (some (u,v)) (some (x1,y1)) (some (x2,y2))=ln l x1 y1 u v:=by
 by_cases hx:x1=x2
 ·subst hx
  have hy:y1=y2:=by
   have:=h.a
   rwa [K2.aZ,K2.aj,K2.add_zero']at this
  subst hy
  have h2:K2.add y1 y1≠K2.zero:=hne.resolve_left fun h=>h rfl
  have hy0:y1≠K2.zero:=fun e=>h2 (by rw[e,K2.add_zero'])
  have ht:f6 x1 y1=l:=K2.du hp h2 h.b
  show(if x1=x1 then if y1=y1∧y1≠K2.zero then _ else _ else _)=_
  rw[if_pos rfl,if_pos ⟨rfl,hy0⟩,ht]
 ·have hd:K2.sub x2 x1≠K2.zero:=fun e=>hx (K2.aE e).symm
  have hc:dZ x1 y1 x2 y2=l:=K2.du hp hd (CR.lin (x:=(.m (.v 4) (.s (.v 2) (.v 0)))) (y:=(.s (.v 3) (.v 1))) [((.c 1),(.v 1),(.a (.v 3) (.m (.v 4) (.s (.v 0) (.v 2)))))] (by decide +kernel) [x1,y1,x2,y2,l] ⟨h.a,trivial⟩)
  show(if x1=x2 then _ else _)=_
  rw[if_neg hx,hc]
theorem BW(hp:P3 n){x1 y1 x2 y2 u v:K2 n}(hx:x1=x2)(hy:K2.add y1 y2=K2.zero):lin (some (u,v)) (some (x1,y1)) (some (x2,y2))=e6 (vt x1 u):=by
 subst hx
 show(if x1=x1 then if y1=y2∧y1≠K2.zero then _ else _ else _)=_
 rw[if_pos rfl,if_neg]
 rintro⟨rfl,h⟩
 exact K2.ge hp h hy
theorem kb{l x y u v:K2 n}(h:v≠K2.zero):ln l x y u v≠zero:=fun e=>h (congrArg (fun z:T12 n=>z.b.b) e)
theorem yE{x u:K2 n}(h:x≠K2.zero):e6 (vt x u)≠zero:=fun e=>h (congrArg (fun z:T12 n=>z.a.a) e)
theorem H5(z:T12 n):neg z=mul (e6 (T6.neg T6.one)) z:=by
 have h:e6 (T6.neg T6.one)=(CR.neg CR.one:T12 n):=ext' rfl (CR.bj (R:=T6 n)).symm
 rw[h]
 exact(Eq.trans (CR.da _ _) (congrArg _ (CR.aR z))).symm
theorem HG{l x y x' y' u v:K2 n}(h:K2.sub (K2.mul (K2.neg l) x') y'=K2.neg (K2.sub (K2.mul l x) y)):ln (K2.neg l) x' y' u v=neg (conj (ln l x y u v)):=by
 unfold ln
 rw[h]
 refine ext' (T6.ext' rfl ?_ ?_) (T6.ext' ?_ ?_ ?_)
 ·exact CR.aH (x:=(.n (.m (.n (.v 0)) (.v 1)))) (y:=(.n (.n (.m (.v 0) (.v 1))))) (by decide +kernel) [l,u]
 ·exact K2.bj.symm
 ·exact(by show K2.zero=K2.neg (K2.neg K2.zero);rw[K2.br])
 ·exact(K2.br v).symm
 ·exact(by show K2.zero=K2.neg (K2.neg K2.zero);rw[K2.br])
theorem LL{l x y x' y' u v:K2 n}(h:K2.sub (K2.mul l x') y'=K2.sub (K2.mul l x) y):ln l x' y' u v=ln l x y u v:=by
 unfold ln
 rw[h]
theorem nd(hp:P3 n){x1 y1 x2 y2:K2 n}(h:pa (some (x1,y1)) (some (x2,y2))≠none):x1≠x2∨K2.add y1 y2≠K2.zero:=by
 by_cases hx:x1=x2
 ·exact .inr fun e=>h (K2.cY hp hx e)
 ·exact .inl hx
section
variable (tw:T6.Tw n) {N:Nat}
include tw
omit tw in
theorem Am{z:T12 n}(h:z≠zero):neg z≠zero:=fun e=>h (by
 have e2:=CR.br z
 rw[show CR.neg z=zero from e]at e2
 exact e2.symm.trans (CR.bj (R:=T12 n)))
theorem Lc{z:T12 n}(h:z≠zero):fin N (neg z)=fin N z:=by
 have h1:e6 (T6.neg T6.one)≠(zero:T12 n):=fun e=>Am h (by rw[H5,e];exact CR.aG z)
 rw[H5,dp tw h1 h,nQ tw h1,bh]
theorem uQ{z:T12 n}(h:z≠zero):mul (fin N (neg (conj z))) (fin N z)=one:=by
 rw[Lc tw (ji tw h),j1 tw h]
theorem eV:fin N (one:T12 n)=one:=nQ tw (cH tw)
end
theorem qN{x y z:T12 n}(h:mul x y=one)(k:mul x z=one):y=z:=by
 rw[← am y,← k,← mul_assoc',mul_comm' y,h,bh]
theorem GR(hp:P3 n){b l1 l2 l3 l4 x1 y1 x2 y2 x3 y3 xs ys xt yt xw yw:K2 n}(h2:No2 b)(d1:LD l1 x1 y1 x2 y2 xs ys)(d2:LD l2 xs ys x3 y3 xw yw)(d3:LD l3 x2 y2 x3 y3 xt yt)(d4:LD l4 xt yt x1 y1 xw yw)
  (hs:Onc b (some (xs,ys))) (ht:Onc b (some (xt,yt))) (hy:y1≠K2.zero):nA l1 l2 xs=nA l3 l4 xt∧nB l1 l2=nB l3 l4∧nC l1 l2 xs ys=nC l3 l4 xt yt:=by
 have hs:=K2.bK hs
 have ht:=K2.bK ht
 have e1:=(K2.nr1 d1 d2).trans (Eq.trans (CR.aH (x:=(.n (.a (.a (.a (.v 0) (.v 1)) (.v 2)) (.v 3)))) (y:=(.n (.a (.a (.a (.v 1) (.v 2)) (.v 0)) (.v 3)))) (by decide +kernel) [x1,x2,x3,xw]) (K2.nr1 d3 d4).symm)
 have e2:=(K2.nr2 d1 d2).trans (Eq.trans (CR.aH (x:=(.a (.a (.m (.v 0) (.v 1)) (.m (.v 2) (.v 3))) (.m (.a (.v 0) (.v 1)) (.a (.v 2) (.v 3))))) (y:=(.a (.a (.m (.v 1) (.v 2)) (.m (.v 0) (.v 3))) (.m (.a (.v 1) (.v 2)) (.a (.v 0) (.v 3))))) (by decide +kernel) [x1,x2,x3,xw]) (K2.nr2 d3 d4).symm)
 have e3:=(K2.nr3 d1 d2).trans (Eq.trans (CR.aH (x:=(.n (.a (.m (.m (.v 0) (.v 1)) (.a (.v 2) (.v 3))) (.m (.m (.v 2) (.v 3)) (.a (.v 0) (.v 1)))))) (y:=(.n (.a (.m (.m (.v 1) (.v 2)) (.a (.v 0) (.v 3))) (.m (.m (.v 0) (.v 3)) (.a (.v 1) (.v 2)))))) (by decide +kernel) [x1,x2,x3,xw]) (K2.nr3 d3 d4).symm)
 have e4:=(K2.nr4 d1 d2 hs).trans (Eq.trans (CR.aH (x:=(.m (.m (.v 0) (.v 1)) (.m (.v 2) (.v 3)))) (y:=(.m (.m (.v 1) (.v 2)) (.m (.v 0) (.v 3)))) (by decide +kernel) [x1,x2,x3,xw]) (K2.nr4 d3 d4 ht).symm)
 obtain⟨f1,f2,f3⟩:=K2.Fe hp h2 e1 e2 e3 e4
 refine⟨f1,f3.elim id fun f=>?_,f2⟩
 have v1:=K2.nv1 d1 l2
 have v2:=K2.nv2 d4 l3
 rw[f1,f,f2]at v1
 generalize nA l3 l4 xt=a at v1 v2
 generalize nB l3 l4=c at *
 generalize nC l3 l4 xt yt=d at v1 v2
 have h0:K2.add (K2.mul c y1) (K2.mul c y1)=CR.ofZ 0:=CR.lin (x:=(.a (.m (.v 1) (.v 4)) (.m (.v 1) (.v 4)))) (y:=(.c 0)) [((.c (-1)),(.a (.a (.a (.m (.v 3) (.v 3)) (.m (.v 0) (.v 3))) (.m (.n (.v 1)) (.v 4))) (.v 2)),(.c 0)),((.c 1),(.a (.a (.a (.m (.v 3) (.v 3)) (.m (.v 0) (.v 3))) (.m (.v 1) (.v 4))) (.v 2)),(.c 0))] (by decide +kernel) [a,c,d,x1,y1] ⟨v1,v2,trivial⟩
 have hc:K2.mul c y1=K2.zero:=Classical.byContradiction fun h=>K2.ge hp h h0
 rw[f,(K2.aW hp hc).resolve_right hy,K2.bj]
section
variable {b c:K2 n} (H:Pg b c) {N:Nat}
include H
theorem Pg.x_ne{x y:K2 n}(h:Onc b (some (x,y))):x≠K2.zero:=by
 rintro rfl
 refine H.nb y (Eq.trans h ?_)
 rw[K2.aj,K2.aM]
theorem j8{P A B:Pt n}(hP:Onc c P)(hA:Onc b A)(hB:Onc b B):lin P A B≠zero:=by
 cases P with
 | none=>exact cH H.tw
 | some P=>cases A with
  | none=>exact cH H.tw
  | some A=>cases B with
   | none=>exact cH H.tw
   | some B=>
    obtain⟨u,v⟩:=P;obtain⟨x1,y1⟩:=A;obtain⟨x2,y2⟩:=B
    rcases K2.cq (x1:=x1) (y1:=y1) (x2:=x2) (y2:=y2) H.tw.p3 hA hB with⟨h1,h2⟩ | ⟨l,h,hn⟩
    ·rw[BW H.tw.p3 h1 h2];exact yE (H.x_ne hA)
    ·rw[dm H.tw.p3 h hn];exact kb (K2.gF H.n4 hP)
theorem Pg.oa{A B:Pt n}(hA:Onc b A)(hB:Onc b B):Onc b (pa A B):=K2.dh H.tw.p3 hA hB
omit H in
def lam(N:Nat)(P A B:Pt n):T12 n:=fin N (lin P A B)
theorem d9(A B:Pt n):lam N none A B=one:=eV H.tw
theorem dl(P B:Pt n):lam N P none B=one:=by rw[lam,gJ];exact eV H.tw
theorem dy(P A:Pt n):lam N P A none=one:=by rw[lam,s7];exact eV H.tw
theorem cA{x1 y1 x2 y2 u v:K2 n}(hA:Onc b (some (x1,y1)))(hx:x1=x2)(hy:K2.add y1 y2=K2.zero):lam N (some (u,v)) (some (x1,y1)) (some (x2,y2))=one:=by
 rw[lam,BW H.tw.p3 hx hy]
 exact nQ H.tw (yE (H.x_ne hA))
theorem LF{P A:Pt n}(hA:Onc b A):lam N P A (pn A)=one:=by
 cases P with
 | none=>exact d9 H _ _
 | some P=>cases A with
  | none=>exact dl H _ _
  | some A=>exact cA H hA rfl (K2.add_neg' _)
theorem iV{P A B:Pt n}(hA:Onc b A)(hB:Onc b B):lam N P A B=lam N P B A:=by
 cases P with
 | none=>rfl
 | some P=>cases A with
  | none=>rw[dl H,dy H]
  | some A=>cases B with
   | none=>rw[dl H,dy H]
   | some B=>
    obtain⟨u,v⟩:=P;obtain⟨x1,y1⟩:=A;obtain⟨x2,y2⟩:=B
    rcases K2.cq (x1:=x1) (y1:=y1) (x2:=x2) (y2:=y2) H.tw.p3 hA hB with⟨h1,h2⟩ | ⟨l,h,hn⟩
    ·rw[cA H hA h1 h2,cA H hB h1.symm (by rw[K2.add_comm'];exact h2)]
    ·rw[lam,lam,dm H.tw.p3 h hn,dm H.tw.p3 h.symm (hn.imp (fun e=>Ne.symm e) (fun e=>by rw[K2.add_comm'];exact e))]
     rw[LL (l:=l) (x:=x2) (y:=y2) (x':=x1) (y':=y1) (CR.lin (x:=(.s (.m (.v 4) (.v 0)) (.v 1))) (y:=(.s (.m (.v 4) (.v 2)) (.v 3))) [((.c (-1)),(.v 1),(.a (.v 3) (.m (.v 4) (.s (.v 0) (.v 2)))))] (by decide +kernel) [x1,y1,x2,y2,l] ⟨h.a,trivial⟩)]
theorem BU{P A B:Pt n}(hP:Onc c P)(hA:Onc b A)(hB:Onc b B):mul (lam N P (pn A) (pn B)) (lam N P A B)=one:=by
 cases P with
 | none=>rw[d9 H,d9 H,am]
 | some P=>cases A with
  | none=>show mul (lam N (some P) none _) _=_;rw[dl H,dl H,am]
  | some A=>cases B with
   | none=>show mul (lam N (some P) _ none) _=_;rw[dy H,dy H,am]
   | some B=>
    obtain⟨u,v⟩:=P;obtain⟨x1,y1⟩:=A;obtain⟨x2,y2⟩:=B
    show mul (lam N _ (some (x1,K2.neg y1)) (some (x2,K2.neg y2))) _=_
    rcases K2.cq (x1:=x1) (y1:=y1) (x2:=x2) (y2:=y2) H.tw.p3 hA hB with⟨h1,h2⟩ | ⟨l,h,hn⟩
    ·rw[cA H hA h1 h2,cA H (K2.cF hA) h1 (by rw[← K2.dA,h2,K2.bj]),am]
    ·rw[lam,lam,dm H.tw.p3 h hn,dm H.tw.p3 h.opp (hn.imp id fun e h=>e (K2.mR.1 (by rw[K2.dA];exact h)))]
     rw[HG (l:=l) (x:=x1) (y:=y1) (x':=x1) (y':=K2.neg y1) (CR.aH (x:=(.s (.m (.n (.v 0)) (.v 1)) (.n (.v 2)))) (y:=(.n (.s (.m (.v 0) (.v 1)) (.v 2)))) (by decide +kernel) [l,x1,y1])]
     exact uQ H.tw (kb (K2.gF H.n4 hP))
theorem qR{P A B:Pt n}(hP:Onc c P)(hA:Onc b A)(hB:Onc b B):mul (lam N P (pa A B) (pn B)) (lam N P A B)=one:=by
 cases P with
 | none=>rw[d9 H,d9 H,am]
 | some P=>cases A with
  | none=>show mul (lam N (some P) B (pn B)) _=_;rw[LF H hB,dl H,am]
  | some A=>cases B with
   | none=>show mul (lam N (some P) _ none) _=_;rw[dy H,dy H,am]
   | some B=>
    obtain⟨u,v⟩:=P;obtain⟨x1,y1⟩:=A;obtain⟨x2,y2⟩:=B
    have hbk:=K2.jt H.tw.p3 H.n2 hA hB
    rcases K2.cq (x1:=x1) (y1:=y1) (x2:=x2) (y2:=y2) H.tw.p3 hA hB with⟨h1,h2⟩ | ⟨l,h,hn⟩
    ·rw[cA H hA h1 h2,K2.cY H.tw.p3 h1 h2,dl H,am]
    ·rw[K2.cB H.tw.p3 h hn]at hbk ⊢
     rw[lam,lam,dm H.tw.p3 h hn]
     show mul (fin N (lin _ _ (some (x2,K2.neg y2)))) _=_
     rw[dm H.tw.p3 h.back (nd H.tw.p3 (by intro e;exact absurd (hbk.symm.trans e) (by simp)))]
     rw[HG (l:=l) (x:=x1) (y:=y1) (x':=cx l x1 x2) (y':=cy l x1 y1 x2) (CR.aH (x:=(.s (.m (.n (.v 0)) (.s (.s (.m (.v 0) (.v 0)) (.v 1)) (.v 3))) (.s (.m (.v 0) (.s (.v 1) (.s (.s (.m (.v 0) (.v 0)) (.v 1)) (.v 3)))) (.v 2)))) (y:=(.n (.s (.m (.v 0) (.v 1)) (.v 2)))) (by decide +kernel) [l,x1,y1,x2])]
     exact uQ H.tw (kb (K2.gF H.n4 hP))
theorem Uq{l1 l2 x1 y1 x2 y2 xs ys u v:K2 n}(hP:Onc c (some (u,v)))(hS:Onc b (some (xs,ys)))(d:LD l1 x1 y1 x2 y2 xs ys):
  mul (fin N (ln l1 x1 y1 u v)) (fin N (ln l2 xs ys u v))=fin N (neg (nv (nA l1 l2 xs) (nB l1 l2) (nC l1 l2 xs ys) u v)):=by
 have n1:=kb (l:=l1) (x:=x1) (y:=y1) (u:=u) (K2.gF H.n4 hP)
 have n2:=kb (l:=l2) (x:=xs) (y:=ys) (u:=u) (K2.gF H.n4 hP)
 have n3:=yE (u:=u) (H.x_ne hS)
 have e:=Ut (l2:=l2) d H.hb (K2.bK hS) (K2.bK hP)
 have n4:=bP H.tw n1 n2
 rw[e]at n4
 have n5:neg (nv (nA l1 l2 xs) (nB l1 l2) (nC l1 l2 xs ys) u v)≠zero:=fun h=>n4 (by rw[h];exact CR.aj _)
 rw[← dp H.tw n1 n2,e,dp H.tw n3 n5,nQ H.tw n3,bh]
theorem uZ{P A B C:Pt n}(hP:Onc c P)(hA:Onc b A)(hB:Onc b B)(hC:Onc b C):mul (lam N P A B) (lam N P (pa A B) C)=mul (lam N P B C) (lam N P A (pa B C)):=by
 have hp:=H.tw.p3
 cases P with
 | none=>rw[d9 H,d9 H,d9 H,d9 H]
 | some P=>cases A with
  | none=>rw[dl H,dl H,bh,am];rfl
  | some A=>cases B with
   | none=>rw[dl H,dy H,K2.bJ];rfl
   | some B=>cases C with
    | none=>rw[dy H,dy H,K2.bJ,am,bh]
    | some C=>
     have has:=K2.fZ hp H.n2 hA hB hC
     obtain⟨u,v⟩:=P;obtain⟨x1,y1⟩:=A;obtain⟨x2,y2⟩:=B;obtain⟨x3,y3⟩:=C
     rcases K2.cq (x1:=x1) (y1:=y1) (x2:=x2) (y2:=y2) hp hA hB with⟨h1,h2⟩ | ⟨l1,h,hn⟩
     ·have e:(some (x1,y1):Pt n)=pn (some (x2,y2)):=K2.bD h1 (K2.aP h2)
      have:=qR H (N:=N) hP hC hB
      rw[cA H hA h1 h2,K2.cY hp h1 h2,dl H,am,e,iV H hB hC,iV H (K2.cF hB) (H.oa hB hC),K2.dI hp hB hC,mul_comm',this]
     ·rcases K2.cq (x1:=x2) (y1:=y2) (x2:=x3) (y2:=y3) hp hB hC with⟨g1,g2⟩ | ⟨l3,k,kn⟩
      ·have e:(some (x3,y3):Pt n)=pn (some (x2,y2)):=K2.bD g1.symm (K2.aP (by rw[K2.add_comm'];exact g2))
       have:=qR H (N:=N) hP hA hB
       rw[cA H hB g1 g2,K2.cY hp g1 g2,dy H,am,e,mul_comm',this]
      ·have eS:=K2.cB hp h hn
       have eT:=K2.cB hp k kn
       have hS:=H.oa hA hB
       have hT:=H.oa hB hC
       have lB:=qR H (N:=N) hP hA hB
       have aB:lam N (some (u,v)) (some (x1,y1)) (some (x2,y2))=fin N (ln l1 x1 y1 u v):=by rw[lam,dm hp h hn]
       have aC:lam N (some (u,v)) (some (x2,y2)) (some (x3,y3))=fin N (ln l3 x2 y2 u v):=by rw[lam,dm hp k kn]
       have d1:=h.ld
       have d3:=k.ld
       rw[eS]at hS has lB ⊢
       rw[eT]at hT has ⊢
       generalize cx l1 x1 x2=xs at *
       generalize cy l1 x1 y1 x2=ys at *
       generalize cx l3 x2 x3=xt at *
       generalize cy l3 x2 y2 x3=yt at *
       rcases K2.cq (x1:=xs) (y1:=ys) (x2:=x3) (y2:=y3) hp hS hC with⟨g1,g2⟩ | ⟨l2,m,mn⟩
       ·have e:(some (x3,y3):Pt n)=pn (some (xs,ys)):=K2.bD g1.symm (K2.aP (by rw[K2.add_comm'];exact g2))
        have aT:lam N (some (u,v)) (some (x1,y1)) (some (xt,yt))=one:=by
         rcases K2.cq (x1:=x1) (y1:=y1) (x2:=xt) (y2:=yt) hp hA hT with⟨f1,f2⟩ | ⟨l4,q,qn⟩
         ·exact cA H hA f1 f2
         ·rw[K2.cY hp g1 g2,K2.cB hp q qn]at has
          cases has
        rw[cA H hS g1 g2,aT,am,am]
        have n1:=BU H (N:=N) hP hB (K2.cF hS)
        rw[K2.Is,← e,iV H (K2.cF hB) hS]at n1
        exact qN lB n1
       ·have eW:=K2.cB hp m mn
        rcases K2.cq (x1:=x1) (y1:=y1) (x2:=xt) (y2:=yt) hp hA hT with⟨f1,f2⟩ | ⟨l4,q,qn⟩
        ·rw[eW,K2.cY hp f1 f2]at has
         cases has
        ·have aS:lam N (some (u,v)) (some (xs,ys)) (some (x3,y3))=fin N (ln l2 xs ys u v):=by rw[lam,dm hp m mn]
         have aT:lam N (some (u,v)) (some (x1,y1)) (some (xt,yt))=fin N (ln l4 xt yt u v):=by
          rw[iV H hA hT,lam,dm hp q.symm (qn.imp (fun e=>Ne.symm e) (fun e=>by rw[K2.add_comm'];exact e))]
         rw[eW,K2.cB hp q qn]at has
         have d2:=m.ld
         have d4:=q.symm.ld
         rw[K2.jl l4 xt x1,← K2.mw q,← (Prod.mk.inj (Option.some.inj has)).1,← (Prod.mk.inj (Option.some.inj has)).2]at d4
         obtain⟨e1,e2,e3⟩:=GR hp H.n2 d1 d2 d3 d4 hS hT (K2.gF H.n2 hA)
         rw[aB,aS,aC,aT,Uq H hP hS d1,Uq H hP hT d3,e1,e2,e3]
end
end T12
end Go.Proofs.YtndhfbecpghinaaGreat.L.Kf
namespace Go.Proofs.YtndhfbecpghinaaGreat.L.Kf
open Pr
namespace T12
variable {n:Nat} [NeZero n]
open K2 (Pt pa pn Onc No2 Slp LD cx cy f6 dZ)
attribute [local irreducible] K2.add K2.mul K2.sub K2.neg K2.zero K2.one K2.inv K2.xi
def gg(m u v x y:K2 n):T12 n:=⟨⟨y,K2.zero,K2.zero⟩,⟨K2.neg (K2.mul m x),K2.sub (K2.mul m u) v,K2.zero⟩⟩
def gin(P Q A:Pt n):T12 n:=
 match P,Q,A with
 | some P,some Q,some A=>
  if P.1=Q.1 then if P.2=Q.2∧P.2≠K2.zero then gg (f6 P.1 P.2) P.1 P.2 A.1 A.2 else e6 (vt A.1 P.1)
  else gg (dZ P.1 P.2 Q.1 Q.2) P.1 P.2 A.1 A.2
 | _,_,_=>one
theorem j3(hp:P3 n){l x1 y1 x2 y2 u v:K2 n}(h:Slp l x1 y1 x2 y2)(hne:x1≠x2∨K2.add y1 y2≠K2.zero):gin (some (x1,y1)) (some (x2,y2)) (some (u,v))=gg l x1 y1 u v:=by
 by_cases hx:x1=x2
 ·subst hx
  have hy:y1=y2:=by
   have:=h.a
   rwa [K2.aZ,K2.aj,K2.add_zero']at this
  subst hy
  have h2:K2.add y1 y1≠K2.zero:=hne.resolve_left fun h=>h rfl
  have hy0:y1≠K2.zero:=fun e=>h2 (by rw[e,K2.add_zero'])
  have ht:f6 x1 y1=l:=K2.du hp h2 h.b
  show(if x1=x1 then if y1=y1∧y1≠K2.zero then _ else _ else _)=_
  rw[if_pos rfl,if_pos ⟨rfl,hy0⟩,ht]
 ·have hd:K2.sub x2 x1≠K2.zero:=fun e=>hx (K2.aE e).symm
  have hc:dZ x1 y1 x2 y2=l:=K2.du hp hd (CR.lin (x:=(.m (.v 4) (.s (.v 2) (.v 0)))) (y:=(.s (.v 3) (.v 1))) [((.c 1),(.v 1),(.a (.v 3) (.m (.v 4) (.s (.v 0) (.v 2)))))] (by decide +kernel) [x1,y1,x2,y2,l] ⟨h.a,trivial⟩)
  show(if x1=x2 then _ else _)=_
  rw[if_neg hx,hc]
theorem BH(hp:P3 n){x1 y1 x2 y2 u v:K2 n}(hx:x1=x2)(hy:K2.add y1 y2=K2.zero):gin (some (x1,y1)) (some (x2,y2)) (some (u,v))=e6 (vt u x1):=by
 subst hx
 show(if x1=x1 then if y1=y2∧y1≠K2.zero then _ else _ else _)=_
 rw[if_pos rfl,if_neg]
 rintro⟨rfl,h⟩
 exact K2.ge hp h hy
theorem QU(P Q:Pt n):gin P Q none=one:=by cases P <;> cases Q <;> rfl
theorem Hc(P A:Pt n):gin P none A=one:=by cases P <;> rfl
theorem qG{m u v x y:K2 n}(h:y≠K2.zero):gg m u v x y≠zero:=fun e=>h (congrArg (fun z:T12 n=>z.a.a) e)
theorem Hb(m u v x y:K2 n):gg m u v x (K2.neg y)=neg (conj (gg m u v x y)):=by
 unfold gg
 refine ext' (T6.ext' rfl ?_ ?_) (T6.ext' ?_ ?_ ?_)
 ·exact K2.bj.symm
 ·exact K2.bj.symm
 ·exact(K2.br _).symm
 ·exact(K2.br _).symm
 ·exact(K2.br _).symm
theorem BX(l x y u v:K2 n):ln l x y u (K2.neg v)=conj (ln l x y u v):=by
 unfold ln
 exact ext' rfl (T6.ext' K2.bj.symm rfl K2.bj.symm)
omit [NeZero n] in
theorem i9(a b c d e f a' b' c' d' e' f':K2 n):sub ⟨⟨a,b,c⟩,⟨d,e,f⟩⟩ ⟨⟨a',b',c'⟩,⟨d',e',f'⟩⟩=⟨⟨K2.sub a a',K2.sub b b',K2.sub c c'⟩,⟨K2.sub d d',K2.sub e e',K2.sub f f'⟩⟩:=rfl
theorem lp(x:K2 n):K2.sub x K2.zero=x:=by rw[K2.sub_eq,K2.bj,K2.add_zero']
theorem Jr(x:K2 n):K2.sub K2.zero x=K2.neg x:=by rw[K2.sub_eq,K2.aM]
theorem nJ(x y:K2 n):e2 (K2.add x y)=add (e2 x) (e2 y):=by
 rw[iv,iv,iv,gc,K2.add_zero']
theorem uJ(x y:K2 n):e2 (K2.sub x y)=sub (e2 x) (e2 y):=by
 rw[iv,iv,iv,i9,lp]
theorem qZ(c d:K2 n)(k:Nat):mo (K2.add c d) k=add (mo c k) (mo d k):=by
 unfold mo
 rw[nJ];exact CR.cQ _ _ _
theorem HQ(c d:K2 n)(k:Nat):mo (K2.sub c d) k=sub (mo c k) (mo d k):=by
 unfold mo
 rw[uJ]
 exact CR.aH (x:=(.m (.s (.v 0) (.v 1)) (.v 2))) (y:=(.s (.m (.v 0) (.v 2)) (.m (.v 1) (.v 2)))) (by decide +kernel) [e2 c,e2 d,CR.pw w k]
theorem iH(c d:K2 n)(i j:Nat):mul (mo c i) (mo d j)=mo (K2.mul c d) (i+j):=by
 unfold mo
 rw[HX,gT,CR.dP];rfl
theorem HP(c:K2 n):mo c 0=e2 c:=(HN c).trans (iv c).symm
theorem Uu(l x y u v:K2 n):ln l x y u v=sub (sub (mo v 3) (mul (e2 l) (mo u 2))) (e2 (K2.sub y (K2.mul l x))):=by
 rw[← HP l,iH,Nat.zero_add,LQ,HO,iv,i9,i9]
 unfold ln
 refine ext' (T6.ext' ?_ ?_ ?_) (T6.ext' ?_ ?_ ?_)
 ·exact CR.aH (x:=(.s (.m (.v 0) (.v 1)) (.v 2))) (y:=(.s (.s (.c 0) (.c 0)) (.s (.v 2) (.m (.v 0) (.v 1))))) (by decide +kernel) [l,x,y]
 ·exact CR.aH (x:=(.n (.m (.v 0) (.v 1)))) (y:=(.s (.s (.c 0) (.m (.v 0) (.v 1))) (.c 0))) (by decide +kernel) [l,u]
 ·simp only[lp]
 ·simp only[lp]
 ·simp only[lp]
 ·simp only[lp]
theorem Ug(m u v x y:K2 n):gg m u v x y=sub (sub (e2 y) (mul (mo m 1) (e2 x))) (mo (K2.sub v (K2.mul m u)) 3):=by
 rw[← HP x,iH,Nat.add_zero,LP,HO,iv,i9,i9]
 unfold gg
 refine ext' (T6.ext' ?_ ?_ ?_) (T6.ext' ?_ ?_ ?_)
 ·simp only[lp]
 ·simp only[lp]
 ·simp only[lp]
 ·simp only[lp,Jr]
 ·exact CR.aH (x:=(.s (.m (.v 0) (.v 1)) (.v 2))) (y:=(.s (.s (.c 0) (.c 0)) (.s (.v 2) (.m (.v 0) (.v 1))))) (by decide +kernel) [m,u,v]
 ·simp only[lp]
theorem RZ{R:Type}[CR R]{l v m k x1 x2 x3 a1 a2 a3 b:R}(h1:CR.add (CR.add x1 x2) x3=CR.mul m m)(h2:CR.add (CR.mul x1 x2) (CR.mul (CR.add x1 x2) x3)=CR.mul (CR.add m m) k)(h3:CR.mul (CR.mul x1 x2) x3=CR.sub (CR.mul k k) b)
  (g1:CR.add (CR.add a1 a2) a3=CR.mul l l) (g2:CR.add (CR.mul a1 a2) (CR.mul (CR.add a1 a2) a3)=CR.mul (CR.add l l) v) (g3:CR.mul (CR.mul a1 a2) a3=CR.sub (CR.mul v v) b):
  CR.mul (CR.mul (CR.add (CR.sub (CR.sub (CR.mul m x1) k) (CR.mul l x1)) v) (CR.add (CR.sub (CR.sub (CR.mul m x2) k) (CR.mul l x2)) v)) (CR.add (CR.sub (CR.sub (CR.mul m x3) k) (CR.mul l x3)) v) =
  CR.neg (CR.mul (CR.mul (CR.add (CR.sub (CR.sub (CR.mul l a1) v) (CR.mul m a1)) k) (CR.add (CR.sub (CR.sub (CR.mul l a2) v) (CR.mul m a2)) k)) (CR.add (CR.sub (CR.sub (CR.mul l a3) v) (CR.mul m a3)) k)):=
 CR.lin (x:=(.m (.m (.a (.s (.s (.m (.v 2) (.v 4)) (.v 3)) (.m (.v 0) (.v 4))) (.v 1)) (.a (.s (.s (.m (.v 2) (.v 5)) (.v 3)) (.m (.v 0) (.v 5))) (.v 1))) (.a (.s (.s (.m (.v 2) (.v 6)) (.v 3)) (.m (.v 0) (.v 6))) (.v 1)))) (y:=(.n (.m (.m (.a (.s (.s (.m (.v 0) (.v 7)) (.v 1)) (.m (.v 2) (.v 7))) (.v 3)) (.a (.s (.s (.m (.v 0) (.v 8)) (.v 1)) (.m (.v 2) (.v 8))) (.v 3))) (.a (.s (.s (.m (.v 0) (.v 9)) (.v 1)) (.m (.v 2) (.v 9))) (.v 3))))) [((.m (.s (.v 2) (.v 0)) (.m (.s (.v 1) (.v 3)) (.s (.v 1) (.v 3)))),(.a (.a (.v 4) (.v 5)) (.v 6)),(.m (.v 2) (.v 2))),((.m (.m (.s (.v 2) (.v 0)) (.s (.v 2) (.v 0))) (.s (.v 1) (.v 3))),(.a (.m (.v 4) (.v 5)) (.m (.a (.v 4) (.v 5)) (.v 6))),(.m (.a (.v 2) (.v 2)) (.v 3))),((.m (.m (.s (.v 2) (.v 0)) (.s (.v 2) (.v 0))) (.s (.v 2) (.v 0))),(.m (.m (.v 4) (.v 5)) (.v 6)),(.s (.m (.v 3) (.v 3)) (.v 10))),((.n (.m (.s (.v 2) (.v 0)) (.m (.s (.v 1) (.v 3)) (.s (.v 1) (.v 3))))),(.a (.a (.v 7) (.v 8)) (.v 9)),(.m (.v 0) (.v 0))),((.n (.m (.m (.s (.v 2) (.v 0)) (.s (.v 2) (.v 0))) (.s (.v 1) (.v 3)))),(.a (.m (.v 7) (.v 8)) (.m (.a (.v 7) (.v 8)) (.v 9))),(.m (.a (.v 0) (.v 0)) (.v 1))),((.n (.m (.m (.s (.v 2) (.v 0)) (.s (.v 2) (.v 0))) (.s (.v 2) (.v 0)))),(.m (.m (.v 7) (.v 8)) (.v 9)),(.s (.m (.v 1) (.v 1)) (.v 10)))] (by decide +kernel) [l,v,m,k,x1,x2,x3,a1,a2,a3,b] ⟨h1,h2,h3,g1,g2,g3,trivial⟩
theorem Gg(x:K2 n):e2 (K2.neg x)=neg (e2 x):=by
 rw[← Jr,uJ,uK]
 exact(CR.sub_eq (R:=T12 n) _ _).trans (CR.aM _)
theorem Rn(x:K2 n)(k:Nat):mo (K2.neg x) k=neg (mo x k):=by
 unfold mo
 rw[Gg];exact CR.da _ _
theorem CH(x y:T12 n):sub x (neg y)=add x y:=by
 have h:=CR.sub_eq (R:=T12 n) x (neg y)
 rw[show CR.neg (neg y)=y from CR.br (R:=T12 n) y]at h
 exact h
theorem Re{l x y u v m k z:K2 n}(hv:v=K2.sub (K2.mul m u) k)(hy:K2.sub y (K2.mul l x)=K2.neg z):ln l x y u v=add (sub (sub (mul (mo m 1) (mo u 2)) (mo k 3)) (mul (e2 l) (mo u 2))) (e2 z):=by
 rw[Uu,hy,hv,Gg,CH,HQ,iH]
theorem QS{l x y u v m k z:K2 n}(hy:y=K2.sub (K2.mul l x) z)(hv:K2.sub v (K2.mul m u)=K2.neg k):gg m u v x y=add (sub (sub (mul (e2 l) (e2 x)) (e2 z)) (mul (mo m 1) (e2 x))) (mo k 3):=by
 rw[Ug,hv,hy,Rn,CH,uJ,gT]
theorem EB{b c l m x1 y1 x2 y2 xs ys u1 v1 u2 v2 u3 v3:K2 n}(hb:b=K2.mul K2.xi c)(d:LD m u1 v1 u2 v2 u3 v3)(hR:Onc c (some (u3,v3)))(f:LD l x1 y1 x2 y2 xs ys)(hS:Onc b (some (xs,ys))):
  mul (mul (ln l x1 y1 u1 v1) (ln l x1 y1 u2 v2)) (conj (ln l x1 y1 u3 v3))=mul (mul (gg m u1 v1 x1 y1) (gg m u1 v1 x2 y2)) (conj (gg m u1 v1 xs ys)):=by
 have h1:add (add (mo u1 2) (mo u2 2)) (mo u3 2)=mul (mo m 1) (mo m 1):=by rw[← qZ,← qZ,iH,d.s]
 have h2:add (mul (mo u1 2) (mo u2 2)) (mul (add (mo u1 2) (mo u2 2)) (mo u3 2))=mul (add (mo m 1) (mo m 1)) (mo (K2.add v3 (K2.mul m u3)) 3):=by rw[iH,← qZ,iH,← qZ,← qZ,iH,d.p]
 have h3:mul (mul (mo u1 2) (mo u2 2)) (mo u3 2)=sub (mul (mo (K2.add v3 (K2.mul m u3)) 3) (mo (K2.add v3 (K2.mul m u3)) 3)) (e2 b):=by
  rw[iH,iH,iH,d.c (K2.bK hR),HQ,Uw c,HP,hb]
 have g1:add (add (e2 x1) (e2 x2)) (e2 xs)=mul (e2 l) (e2 l):=by rw[← nJ,← nJ,← gT,f.s]
 have g2:add (mul (e2 x1) (e2 x2)) (mul (add (e2 x1) (e2 x2)) (e2 xs))=mul (add (e2 l) (e2 l)) (e2 (K2.add ys (K2.mul l xs))):=by rw[← gT,← nJ,← gT,← nJ,← nJ,← gT,f.p]
 have g3:mul (mul (e2 x1) (e2 x2)) (e2 xs)=sub (mul (e2 (K2.add ys (K2.mul l xs))) (e2 (K2.add ys (K2.mul l xs)))) (e2 b):=by
  rw[← gT,← gT,← gT,← uJ,f.c (K2.bK hS)]
 have q:=RZ (R:=T12 n) h1 h2 h3 g1 g2 g3
 have yl:K2.sub y1 (K2.mul l x1)=K2.neg (K2.add ys (K2.mul l xs)):=CR.lin (x:=(.s (.v 0) (.m (.v 1) (.v 2)))) (y:=(.n (.a (.v 4) (.m (.v 1) (.v 3))))) [((.c 1),(.a (.v 0) (.v 4)),(.m (.v 1) (.s (.v 2) (.v 3))))] (by decide +kernel) [y1,l,x1,xs,ys] ⟨f.a,trivial⟩
 have vm:K2.sub v1 (K2.mul m u1)=K2.neg (K2.add v3 (K2.mul m u3)):=CR.lin (x:=(.s (.v 0) (.m (.v 1) (.v 2)))) (y:=(.n (.a (.v 4) (.m (.v 1) (.v 3))))) [((.c 1),(.a (.v 0) (.v 4)),(.m (.v 1) (.s (.v 2) (.v 3))))] (by decide +kernel) [v1,m,u1,u3,v3] ⟨d.a,trivial⟩
 have p1:=Re (l:=l) (x:=x1) (y:=y1) (u:=u1) (v:=v1) (m:=m) (k:=K2.add v3 (K2.mul m u3)) (CR.lin (x:=(.v 0)) (y:=(.s (.m (.v 1) (.v 2)) (.a (.v 4) (.m (.v 1) (.v 3))))) [((.c 1),(.a (.v 0) (.v 4)),(.m (.v 1) (.s (.v 2) (.v 3))))] (by decide +kernel) [v1,m,u1,u3,v3] ⟨d.a,trivial⟩) yl
 have p2:=Re (l:=l) (x:=x1) (y:=y1) (u:=u2) (v:=v2) (m:=m) (k:=K2.add v3 (K2.mul m u3)) (CR.lin (x:=(.v 0)) (y:=(.s (.m (.v 1) (.v 2)) (.a (.v 4) (.m (.v 1) (.v 3))))) [((.c 1),(.a (.v 0) (.v 4)),(.m (.v 1) (.s (.v 2) (.v 3))))] (by decide +kernel) [v2,m,u2,u3,v3] ⟨d.b,trivial⟩) yl
 have p3:=Re (l:=l) (x:=x1) (y:=y1) (u:=u3) (v:=K2.neg v3) (m:=m) (k:=K2.add v3 (K2.mul m u3)) (CR.aH (x:=(.n (.v 2))) (y:=(.s (.m (.v 0) (.v 1)) (.a (.v 2) (.m (.v 0) (.v 1))))) (by decide +kernel) [m,u3,v3]) yl
 have r1:=QS (m:=m) (u:=u1) (v:=v1) (x:=x1) (y:=y1) (l:=l) (z:=K2.add ys (K2.mul l xs)) (CR.lin (x:=(.v 0)) (y:=(.s (.m (.v 1) (.v 2)) (.a (.v 4) (.m (.v 1) (.v 3))))) [((.c 1),(.a (.v 0) (.v 4)),(.m (.v 1) (.s (.v 2) (.v 3))))] (by decide +kernel) [y1,l,x1,xs,ys] ⟨f.a,trivial⟩) vm
 have r2:=QS (m:=m) (u:=u1) (v:=v1) (x:=x2) (y:=y2) (l:=l) (z:=K2.add ys (K2.mul l xs)) (CR.lin (x:=(.v 0)) (y:=(.s (.m (.v 1) (.v 2)) (.a (.v 4) (.m (.v 1) (.v 3))))) [((.c 1),(.a (.v 0) (.v 4)),(.m (.v 1) (.s (.v 2) (.v 3))))] (by decide +kernel) [y2,l,x2,xs,ys] ⟨f.b,trivial⟩) vm
 have r3:=QS (m:=m) (u:=u1) (v:=v1) (x:=xs) (y:=K2.neg ys) (l:=l) (z:=K2.add ys (K2.mul l xs)) (CR.aH (x:=(.n (.v 2))) (y:=(.s (.m (.v 0) (.v 1)) (.a (.v 2) (.m (.v 0) (.v 1))))) (by decide +kernel) [l,xs,ys]) vm
 have hc:∀z:T12 n,conj z=neg (neg (conj z)):=fun z=>(CR.br (R:=T12 n) _).symm
 rw[← BX,hc (gg m u1 v1 xs ys),← Hb,p1,p2,p3,r1,r2,r3]
 exact q.trans (CR.eY _ _).symm
section
variable {b c:K2 n} (H:Pg b c) {N:Nat}
include H
omit H in
def mu(N:Nat)(P Q A:Pt n):T12 n:=fin N (gin P Q A)
theorem q5(Q A:Pt n):mu N none Q A=one:=eV H.tw
theorem q6(P A:Pt n):mu N P none A=one:=by rw[mu,Hc];exact eV H.tw
theorem ti(P Q:Pt n):mu N P Q none=one:=by rw[mu,QU];exact eV H.tw
theorem lI{x1 y1 x2 y2:K2 n}{A:Pt n}(hA:Onc b A)(hx:x1=x2)(hy:K2.add y1 y2=K2.zero):mu N (some (x1,y1)) (some (x2,y2)) A=one:=by
 cases A with
 | none=>exact ti H _ _
 | some A=>
  rw[mu,BH H.tw.p3 hx hy]
  exact nQ H.tw (yE (H.x_ne hA))
theorem LG{P A B:Pt n}(hP:Onc c P)(hA:Onc b A)(hB:Onc b B):mul (lam N (pn P) A B) (lam N P A B)=one:=by
 cases P with
 | none=>show mul (lam N none _ _) _=_;rw[d9 H,am]
 | some P=>cases A with
  | none=>rw[dl H,dl H,am]
  | some A=>cases B with
   | none=>rw[dy H,dy H,am]
   | some B=>
    obtain⟨u,v⟩:=P;obtain⟨x1,y1⟩:=A;obtain⟨x2,y2⟩:=B
    show mul (lam N (some (u,K2.neg v)) _ _) _=_
    rcases K2.cq (x1:=x1) (y1:=y1) (x2:=x2) (y2:=y2) H.tw.p3 hA hB with⟨h1,h2⟩ | ⟨l,h,hn⟩
    ·rw[cA H hA h1 h2,cA H hA h1 h2,am]
    ·rw[lam,lam,dm H.tw.p3 h hn,dm H.tw.p3 h hn,BX]
     exact j1 H.tw (kb (K2.gF H.n4 hP))
theorem HU{P Q A:Pt n}(hP:Onc c P)(hQ:Onc c Q)(hA:Onc b A):mul (mu N P Q (pn A)) (mu N P Q A)=one:=by
 cases P with
 | none=>rw[q5 H,q5 H,am]
 | some P=>cases Q with
  | none=>rw[q6 H,q6 H,am]
  | some Q=>
   obtain⟨x1,y1⟩:=P;obtain⟨x2,y2⟩:=Q
   rcases K2.cq (x1:=x1) (y1:=y1) (x2:=x2) (y2:=y2) H.tw.p3 hP hQ with⟨h1,h2⟩ | ⟨l,h,hn⟩
   ·rw[lI H (K2.cF hA) h1 h2,lI H hA h1 h2,am]
   ·cases A with
    | none=>show mul (mu N _ _ none) _=_;rw[ti H,am]
    | some A=>
     obtain⟨x,y⟩:=A
     show mul (mu N _ _ (some (x,K2.neg y))) _=_
     rw[mu,mu,j3 H.tw.p3 h hn,j3 H.tw.p3 h hn,Hb]
     exact uQ H.tw (qG (K2.gF H.n2 hA))
theorem BV{P Q A B:Pt n}(hP:Onc c P)(hQ:Onc c Q)(hA:Onc b A)(hB:Onc b B):mul (mul (lam N P A B) (lam N Q A B)) (mu N P Q (pa A B))=mul (lam N (pa P Q) A B) (mul (mu N P Q A) (mu N P Q B)):=by
 have hp:=H.tw.p3
 cases P with
 | none=>rw[d9 H,q5 H,q5 H,q5 H,am,am,am,bh];rfl
 | some P=>cases Q with
  | none=>rw[d9 H,q6 H,q6 H,q6 H,am,am,am,am];rfl
  | some Q=>cases A with
   | none=>rw[dl H,dl H,dl H,ti H,bh,bh,bh,bh];rfl
   | some A=>cases B with
    | none=>rw[dy H,dy H,dy H,ti H,K2.bJ,am,am,bh]
    | some B=>
     obtain⟨u1,v1⟩:=P;obtain⟨u2,v2⟩:=Q;obtain⟨x1,y1⟩:=A;obtain⟨x2,y2⟩:=B
     rcases K2.cq (x1:=u1) (y1:=v1) (x2:=u2) (y2:=v2) hp hP hQ with⟨h1,h2⟩ | ⟨m,k,kn⟩
     ·have e:(some (u1,v1):Pt n)=pn (some (u2,v2)):=K2.bD h1 (K2.aP h2)
      rw[lI H (H.oa hA hB) h1 h2,lI H hA h1 h2,lI H hB h1 h2,K2.cY hp h1 h2,d9 H,am,am,am,e]
      exact LG H hQ hA hB
     ·rcases K2.cq (x1:=x1) (y1:=y1) (x2:=x2) (y2:=y2) hp hA hB with⟨g1,g2⟩ | ⟨l,h,hn⟩
      ·have e:(some (x2,y2):Pt n)=pn (some (x1,y1)):=K2.bD g1.symm (K2.aP (by rw[K2.add_comm'];exact g2))
       have hm:=HU H (N:=N) hP hQ hA
       rw[K2.cB hp k kn,cA H hA g1 g2,cA H hA g1 g2,cA H hA g1 g2,K2.cY hp g1 g2,ti H,am,am,bh,e,mul_comm',hm]
      ·have hR:Onc c (pa (some (u1,v1)) (some (u2,v2))):=K2.dh hp hP hQ
       have hS:=H.oa hA hB
       have q:=EB H.hb k.ld (by rw[← K2.cB hp k kn];exact hR) h.ld (by rw[← K2.cB hp h hn];exact hS)
       rw[K2.cB hp k kn]at hR ⊢
       rw[K2.cB hp h hn]at hS ⊢
       rw[lam,lam,lam,dm hp h hn,dm hp h hn,dm hp h hn,mu,mu,mu,j3 hp k kn,j3 hp k kn,j3 hp k kn]
       have n1:=kb (l:=l) (x:=x1) (y:=y1) (u:=u1) (K2.gF H.n4 hP)
       have n2:=kb (l:=l) (x:=x1) (y:=y1) (u:=u2) (K2.gF H.n4 hQ)
       have n3:=kb (l:=l) (x:=x1) (y:=y1) (u:=cx m u1 u2) (K2.gF H.n4 hR)
       have m1:=qG (m:=m) (u:=u1) (v:=v1) (x:=x1) (K2.gF H.n2 hA)
       have m2:=qG (m:=m) (u:=u1) (v:=v1) (x:=x2) (K2.gF H.n2 hB)
       have m3:=qG (m:=m) (u:=u1) (v:=v1) (x:=cx l x1 x2) (K2.gF H.n2 hS)
       have q2:=congrArg (fin N) q
       rw[dp H.tw (bP H.tw n1 n2) (ji H.tw n3),dp H.tw n1 n2,dp H.tw (bP H.tw m1 m2) (ji H.tw m3),dp H.tw m1 m2]at q2
       have c1:=j1 (N:=N) H.tw n3
       have c2:=j1 (N:=N) H.tw m3
       generalize fin N (ln l x1 y1 u1 v1)=a1 at *
       generalize fin N (ln l x1 y1 u2 v2)=a2 at *
       generalize fin N (ln l x1 y1 (cx m u1 u2) (cy m u1 v1 u2))=a3 at *
       generalize fin N (conj (ln l x1 y1 (cx m u1 u2) (cy m u1 v1 u2)))=a4 at *
       generalize fin N (gg m u1 v1 x1 y1)=b1 at *
       generalize fin N (gg m u1 v1 x2 y2)=b2 at *
       generalize fin N (gg m u1 v1 (cx l x1 x2) (cy l x1 y1 x2))=b3 at *
       generalize fin N (conj (gg m u1 v1 (cx l x1 x2) (cy l x1 y1 x2)))=b4 at *
       replace c1:mul a4 a3=CR.ofZ 1:=c1.trans (CR.dK (R:=T12 n)).symm
       replace c2:mul b4 b3=CR.ofZ 1:=c2.trans (CR.dK (R:=T12 n)).symm
       exact CR.lin (x:=(.m (.m (.v 0) (.v 1)) (.v 6))) (y:=(.m (.v 2) (.m (.v 4) (.v 5)))) [((.m (.v 2) (.v 6)),(.m (.m (.v 0) (.v 1)) (.v 3)),(.m (.m (.v 4) (.v 5)) (.v 7))),((.n (.m (.m (.v 0) (.v 1)) (.v 6))),(.m (.v 3) (.v 2)),(.c 1)),((.m (.v 2) (.m (.v 4) (.v 5))),(.m (.v 7) (.v 6)),(.c 1))] (by decide +kernel) [a1,a2,a3,a4,b1,b2,b3,b4] ⟨q2,c1,c2,trivial⟩
end
end T12
end Go.Proofs.YtndhfbecpghinaaGreat.L.Kf
namespace Go.Proofs.YtndhfbecpghinaaGreat.L.Kf
open Pr
namespace K2
variable {n:Nat} [NeZero n]
theorem fV(x y:K2 n):conj (add x y)=add (conj x) (conj y):=by
 unfold conj add
 exact ext' rfl (by grind)
theorem ci(x y:K2 n):conj (sub x y)=sub (conj x) (conj y):=by
 unfold conj sub
 exact ext' rfl (by grind)
omit [NeZero n] in
theorem qg(x:K2 n):conj (neg x)=neg (conj x):=rfl
theorem iO:conj (zero:K2 n)=zero:=by unfold conj zero;exact ext' rfl (show-(0:Fin n)=0 by grind)
theorem wE{x y:K2 n}(h:conj x=conj y):x=y:=by rw[← eo x,h,eo]
attribute [local irreducible] add mul sub neg zero one inv xi conj
def Rl:Pt n→Prop
 | none=>True
 | some P=>conj P.1=P.1∧conj P.2=P.2
theorem Slp.conj{l x1 y1 x2 y2:K2 n}(h:Slp l x1 y1 x2 y2):Slp (K2.conj l) (K2.conj x1) (K2.conj y1) (K2.conj x2) (K2.conj y2):=
 ⟨by rw[← ci,← aY,← fV,← h.a],by rw[← fV,← aY,h.b,q3,q3,fV,fV,aY,aY,aY]⟩
theorem Tr(hp:P3 n){c:K2 n}{P Q:Pt n}(hP:Onc c P)(hQ:Onc c Q)(h1:Rl P)(h2:Rl Q):Rl (pa P Q):=by
 cases P with
 | none=>exact h2
 | some P=>cases Q with
  | none=>exact h1
  | some Q=>
   obtain⟨x1,y1⟩:=P;obtain⟨x2,y2⟩:=Q
   rcases cq (x1:=x1) (y1:=y1) (x2:=x2) (y2:=y2) hp hP hQ with⟨g1,g2⟩ | ⟨l,h,hn⟩
   ·rw[cY hp g1 g2];trivial
   ·have k:=h.conj
    have a1:K2.conj x1=x1:=h1.1
    have a2:K2.conj y1=y1:=h1.2
    have a3:K2.conj x2=x2:=h2.1
    have a4:K2.conj y2=y2:=h2.2
    rw[a1,a2,a3,a4]at k
    have e:=cB hp h hn
    have e2:=cB hp k hn
    rw[e]at e2 ⊢
    obtain⟨q1,q2⟩:=Prod.mk.inj (Option.some.inj e2)
    refine⟨?_,?_⟩
    ·show K2.conj (cx l x1 x2)=cx l x1 x2
     conv=>rhs;rw[q1]
     rw[cx,cx,ci,ci,aY,a1,a3]
    ·show K2.conj (cy l x1 y1 x2)=cy l x1 y1 x2
     conv=>rhs;rw[q2]
     rw[cy,cy,ci,aY,ci,cx,cx,ci,ci,aY,a1,a2,a3]
omit [NeZero n] in
theorem FG{P:Pt n}(h:Rl P):Rl (pn P):=by
 cases P with
 | none=>trivial
 | some P=>exact⟨h.1,by show K2.conj (neg P.2)=neg P.2;rw[qg,h.2]⟩
def psi(i:K2 n):Pt n→Pt n
 | none=>none
 | some A=>some (mul (mul i i) (K2.conj A.1),mul (mul (mul i i) i) (K2.conj A.2))
theorem Slp.psi{l x1 y1 x2 y2:K2 n}(h:Slp l x1 y1 x2 y2)(i:K2 n):Slp (mul i (K2.conj l)) (mul (mul i i) (K2.conj x1)) (mul (mul (mul i i) i) (K2.conj y1)) (mul (mul i i) (K2.conj x2)) (mul (mul (mul i i) i) (K2.conj y2)):=by
 have k:=h.conj
 generalize K2.conj x1=a1 at *
 generalize K2.conj y1=b1 at *
 generalize K2.conj x2=a2 at *
 generalize K2.conj y2=b2 at *
 generalize K2.conj l=m at *
 exact⟨CR.lin (x:=(.m (.m (.m (.v 0) (.v 0)) (.v 0)) (.v 3))) (y:=(.a (.m (.m (.m (.v 0) (.v 0)) (.v 0)) (.v 5)) (.m (.m (.v 0) (.v 1)) (.s (.m (.m (.v 0) (.v 0)) (.v 2)) (.m (.m (.v 0) (.v 0)) (.v 4)))))) [((.m (.m (.v 0) (.v 0)) (.v 0)),(.v 3),(.a (.v 5) (.m (.v 1) (.s (.v 2) (.v 4)))))] (by decide +kernel) [i,m,a1,b1,a2,b2] ⟨k.a,trivial⟩,CR.lin (x:=(.m (.m (.v 0) (.v 1)) (.a (.m (.m (.m (.v 0) (.v 0)) (.v 0)) (.v 3)) (.m (.m (.m (.v 0) (.v 0)) (.v 0)) (.v 5))))) (y:=(.a (.a (.m (.m (.m (.v 0) (.v 0)) (.v 2)) (.m (.m (.v 0) (.v 0)) (.v 2))) (.m (.m (.m (.v 0) (.v 0)) (.v 2)) (.m (.m (.v 0) (.v 0)) (.v 4)))) (.m (.m (.m (.v 0) (.v 0)) (.v 4)) (.m (.m (.v 0) (.v 0)) (.v 4))))) [((.m (.m (.m (.v 0) (.v 0)) (.v 0)) (.v 0)),(.m (.v 1) (.a (.v 3) (.v 5))),(.a (.a (.m (.v 2) (.v 2)) (.m (.v 2) (.v 4))) (.m (.v 4) (.v 4))))] (by decide +kernel) [i,m,a1,b1,a2,b2] ⟨k.b,trivial⟩⟩
theorem IE(hp:P3 n){i x1 y1 x2 y2:K2 n}(hi:i≠zero)(h:x1≠x2∨add y1 y2≠zero):mul (mul i i) (K2.conj x1)≠mul (mul i i) (K2.conj x2)∨add (mul (mul (mul i i) i) (K2.conj y1)) (mul (mul (mul i i) i) (K2.conj y2))≠zero:=by
 have h2:=bP hp hi hi
 have h3:=bP hp h2 hi
 refine h.imp (fun h e=>h ?_) (fun h e=>h ?_)
 ·rw[mul_comm',mul_comm' (mul i i)]at e
  exact wE (Bj hp h2 e)
 ·rw[← mul_add',← fV]at e
  have:=(aW hp e).resolve_left h3
  exact wE (this.trans iO.symm)
theorem RG(hp:P3 n){b i:K2 n}(hi:i≠zero){A B:Pt n}(hA:Onc b A)(hB:Onc b B):pa (psi i A) (psi i B)=psi i (pa A B):=by
 cases A with
 | none=>rfl
 | some A=>cases B with
  | none=>rfl
  | some B=>
   obtain⟨x1,y1⟩:=A;obtain⟨x2,y2⟩:=B
   show pa (some (_,_)) (some (_,_))=_
   rcases cq (x1:=x1) (y1:=y1) (x2:=x2) (y2:=y2) hp hA hB with⟨g1,g2⟩ | ⟨l,h,hn⟩
   ·rw[cY hp g1 g2,cY hp (by rw[g1]) (by rw[← mul_add',← fV,g2,iO,aj])];rfl
   ·rw[cB hp h hn,cB hp (h.psi i) (IE hp hi hn)]
    show _=some (_,_)
    refine bD ?_ ?_
    ·rw[cx,cx,ci,ci,aY]
     exact CR.aH (x:=(.s (.s (.m (.m (.v 0) (.v 1)) (.m (.v 0) (.v 1))) (.m (.m (.v 0) (.v 0)) (.v 2))) (.m (.m (.v 0) (.v 0)) (.v 3)))) (y:=(.m (.m (.v 0) (.v 0)) (.s (.s (.m (.v 1) (.v 1)) (.v 2)) (.v 3)))) (by decide +kernel) [i,K2.conj l,K2.conj x1,K2.conj x2]
    ·rw[cy,cy,cx,cx,ci,aY,ci,ci,ci,aY]
     exact CR.aH (x:=(.s (.m (.m (.v 0) (.v 1)) (.s (.m (.m (.v 0) (.v 0)) (.v 2)) (.s (.s (.m (.m (.v 0) (.v 1)) (.m (.v 0) (.v 1))) (.m (.m (.v 0) (.v 0)) (.v 2))) (.m (.m (.v 0) (.v 0)) (.v 4))))) (.m (.m (.m (.v 0) (.v 0)) (.v 0)) (.v 3)))) (y:=(.m (.m (.m (.v 0) (.v 0)) (.v 0)) (.s (.m (.v 1) (.s (.v 2) (.s (.s (.m (.v 1) (.v 1)) (.v 2)) (.v 4)))) (.v 3)))) (by decide +kernel) [i,K2.conj l,K2.conj x1,K2.conj y1,K2.conj x2]
end K2
end Go.Proofs.YtndhfbecpghinaaGreat.L.Kf
namespace Go.Proofs.YtndhfbecpghinaaGreat.L
open Go Go.Proofs
set_option maxRecDepth 100000
section
attribute [local irreducible] Code.wp wpList Af bodyPost L.Go
open Num
attribute [local simp] ae aD
def r:Nat:=52435875175126190479447740508185965837690552500527637822603658699938581184513
theorem Cn:0<r:=by decide +kernel
theorem IP:r<W^4:=by decide +kernel
theorem UZ:([18446744069414584321,6034159408538082302,3691218898639771653,8353516859464449352]:List Nat)=D 4 r:=by decide +kernel
attribute [irreducible] r
theorem HR(a:Nat):a%r<W^4:=Nat.lt_trans (Nat.mod_lt _ Cn) IP
theorem sG{a b:Prop}(k:b)(h:Rm b→a:=by intro k;refine aq (v:=LV .u64 (List.replicate 4 0)) (by rfl) (by rfl) ?_;exact k.h):a:=h ⟨k⟩
theorem Lb:Spec Tryz.prog 121 [] ai [] (IsV (LV .u64 (D 4 r))):=by
 refine ad Tryz.func121 rfl rfl rfl fun w _=>?_
 repeat (first|(refine sG ?_;intro _)|refine bk (kk:=.u64) (vs:=[18446744069414584321,6034159408538082302,3691218898639771653,8353516859464449352]) (by rfl) (by rfl) (by rfl) (by rfl) (by rfl) (by rfl) (by rfl) (by rfl) ?_|refine Z03 ?_|refine Z04 ?_|refine Z05 ?_|refine Z06 ?_|refine Z07 ?_|refine Z08 ?_|refine Z09 ?_|refine Z10 ?_|refine Z11 ?_|refine Z12 ?_|refine Z13 ?_|refine Z14 ?_|refine Z29 ?_|refine Z30 ?_|refine Z31 ?_|refine Z32 ?_|refine Z82 fun _=>?_)
 refine Zec fun _ hw=>aa hw SubW.nil ⟨?_,rfl⟩
 rw[← UZ];rfl
theorem qE(s:Value)(xs:List Nat)(hx:Lt 18446744073709551616 xs)(hl:xs.length<1000000):
  Spec Tryz.prog 72 [s] (fun w=>Rd w s (xs.map (N .u64))) [] (IsV (LV .u64 (D 4 (V xs%r)))):=by
 refine ad Tryz.func72 rfl rfl rfl fun w hr=>?_
 have hr:=RdC.mk0 hr
 have hrl:=ae 4 r
 have hv:=eR IP
 have hml:=ae 4 (V xs%r)
 have htk:(D 4 (V xs%r)).take 4=D 4 (V xs%r):=List.take_of_length_le (by omega)
 repeat (first|(refine sG ?_;intro _)|refine ah (by rfl) (by rfl) (by rfl) (Lb) (fun _ _=>trivial) (by rfl) ?_|(refine ax (by rfl) (by rfl) (by rfl) (xy s _ xs (D 4 r) hx (dr _ _) hl (by omega)) .nil (fun w hw=>⟨RdW.old hr w hw,RdW.arrAll (m:=4) fd hrl w hw⟩) (by rfl) ?_;rintro _ _ (⟨hz,_,_⟩ | ⟨_,u,rfl,rfl⟩);exact absurd hz (by rw[hv];exact Nat.ne_of_gt Cn);rw[hv,hrl])|rw[htk]|refine VN ?_|refine Z82 fun _=>?_)
 refine Zec fun _ hw=>aa hw SubW.nil ⟨?_,rfl⟩
 rfl
theorem mC{a:Nat}(ha:a<W^4):Spec Tryz.prog 73 [LV .u64 (D 4 a)] ai [] (IsV (LV .u64 (D 4 (a%r)))):=by
 refine ad Tryz.func73 rfl rfl rfl fun w _=>?_
 have hl:=ae 4 a
 have hv:=eR ha
 have hml:=ae 4 (a%r)
 repeat (first|(refine sG ?_;intro _)|(refine ah (by rfl) (by rfl) (by rfl) (qE _ (D 4 a) (dr _ _) (by omega)) (RdW.arrAll (m:=4) fd hl) (by rfl) ?_;rw[hv])|refine Z03 ?_|refine Z04 ?_|refine Z05 ?_|refine Z06 ?_|refine Z07 ?_|refine Z08 ?_|refine Z09 ?_|refine Z10 ?_|refine Z11 ?_|refine Z12 ?_|refine Z13 ?_|refine Z14 ?_|refine Z29 ?_|refine Z30 ?_|refine Z31 ?_|refine Z32 ?_|refine Z62 ?_|refine Z63 ?_|refine Z81 fun _=>?_|refine Z82 fun _=>?_)
 refine Zec fun _ hw=>aa hw SubW.nil ⟨?_,rfl⟩
 rfl
theorem uR(s:Value)(bs:List Nat)(hb:Lt 256 bs)(hl:bs.length<1000000):
  Spec Tryz.prog 34 [s] (fun w=>Rd w s (bs.map (N .u8))) [] (IsV (LV .u64 (D 4 (bA bs%r)))):=by
 refine ad Tryz.func34 rfl rfl rfl fun w hr=>?_
 have hr:=RdC.mk0 hr
 have hv:=eR (kR hb)
 have hml:=ae 4 (bA bs%r)
 have hdl:=ae ((bs.length+7)/8) (bA bs)
 repeat (first|(refine sG ?_;intro _)|(refine ax (by rfl) (by rfl) (by rfl) (ii s bs hb (by omega)) .nil (RdW.old hr) (by rfl) ?_;rintro u _ rfl)|(refine ah (by rfl) (by rfl) (by rfl) (qE _ (D ((bs.length+7)/8) (bA bs)) (dr _ _) (by omega)) (RdW.own fd) (by rfl) ?_;rw[hv])|refine VH ?_|refine Z82 fun _=>?_)
 refine Zec fun _ hw=>aa hw SubW.nil ⟨?_,rfl⟩
 rfl
theorem VS{a b:Prop}(k:b)(h:Rm b→a:=by intro k;(first|refine Z03 ?_|refine Z04 ?_|refine Z05 ?_|refine Z06 ?_|refine Z07 ?_|refine Z08 ?_|refine Z09 ?_|refine Z10 ?_|refine Z11 ?_|refine Z12 ?_|refine Z13 ?_|refine Z14 ?_|refine Z24 ?_|refine Z26 ?_|refine Z27 ?_|refine Z29 ?_|refine Z30 ?_|refine Z31 ?_|refine Z32 ?_|refine Z62 ?_|refine Z63 ?_|refine Z66 ?_|refine Z67 ?_);exact k.h):a:=h ⟨k⟩
theorem wQ{a:Nat}(ha:a<W^4):Spec Tryz.prog 35 [LV .u64 (D 4 a)] ai [] (IsV (LV .u8 (bv (a%r) 32))):=by
 refine ad Tryz.func35 rfl rfl rfl fun w _=>?_
 have hla:=ae 4 a
 have hl1:=ae 4 (a%r)
 have hol:=aD (a%r) 32
 have hv:=eR (HR a)
 have htk:(bv (a%r) 32).take 32=bv (a%r) 32:=List.take_of_length_le (by omega)
 repeat (first|(refine A3 ?_;intro _)|refine y_4 (mC ha) ?_|((refine ax (by rfl) (by rfl) (by rfl) (oL _ (D 4 (a%r)) 32 (dr _ _) (by omega) (by decide)) .nil (RdW.arrAll (m:=4) fd hl1) (by rfl) ?_;rintro u _ rfl);rw[hv])|rw[htk]|refine VS ?_|refine Z81 fun _=>?_|refine Z82 fun _=>?_)
 refine Zec fun _ hw=>aa hw SubW.nil ⟨?_,rfl⟩
 rfl
theorem GD{a b:Nat}(ha:a<W^4)(hb:b<W^4):(D 4 a=D 4 b)=(a=b):=by
 refine propext ⟨fun h=>?_,fun h=>by rw[h]⟩
 have:=Bc h
 rwa [Nat.mod_eq_of_lt ha,Nat.mod_eq_of_lt hb]at this
theorem Nq{a b:Prop}(k:b)(h:Rm b→a:=by intro k;(first|refine Z01 ?_|refine Z02 ?_|refine Z03 ?_|refine Z04 ?_|refine Z05 ?_|refine Z06 ?_|refine Z07 ?_|refine Z08 ?_|refine Z09 ?_|refine Z10 ?_|refine Z11 ?_|refine Z12 ?_|refine Z13 ?_|refine Z14 ?_|refine Z17 ?_|refine Z18 ?_|refine Z20 ?_|refine Z21 ?_|refine Z24 ?_|refine Z26 ?_|refine Z27 ?_|refine Z29 ?_|refine Z30 ?_|refine Z31 ?_|refine Z32 ?_|refine Z66 ?_|refine Z67 ?_|refine Z77 ?_|refine Z78 ?_|refine Z79 ?_);exact k.h):a:=h ⟨k⟩
theorem VT{a b:Prop}(k:b)(h:Rm b→a:=by intro k;(first|refine Z01 ?_|refine Z02 ?_|refine Z17 ?_|refine Z18 ?_|refine Z20 ?_|refine Z21 ?_|refine Z66 ?_|refine Z77 ?_|refine Z78 ?_|refine Z79 ?_);exact k.h):a:=h ⟨k⟩
theorem VU{a b:Prop}(k:b)(h:Rm b→a:=by intro k;refine R.Zpp (by rfl) (by intro _ _ _;(first|refine Z24 ?_|refine Z26 ?_|refine Z27 ?_|refine Z67 ?_|refine Z20 ?_|refine Z21 ?_|refine Z66 ?_);exact Zq) ?_;exact k.h):a:=h ⟨k⟩
theorem ag{S1 a b:Prop}(s1:S1)(k:b)(h:S1→Rm b→a:=by intro s1 k;refine R.Zpp (by rfl) (by intro _ _ _;refine ah (by rfl) (by rfl) (by rfl) s1 (fun _ _=>trivial) (by rfl) ?_;exact Zq) ?_;exact k.h):a:=h s1 ⟨k⟩
theorem A6{a b:Prop}(k:b)(h:Rm b→a:=by intro k;refine R.Zpn (by rfl) (by intro _ _ _;(first|refine Z82 fun _=>?_);exact R.Zpx) ?_;exact k.h):a:=h ⟨k⟩
theorem aA{a b:Prop}(k:b)(h:Rm b→a:=by intro k;refine R.Zps (by rfl) (by intro _ _ _;(first|refine nD ?_);exact Zqq) ?_;exact k.h):a:=h ⟨k⟩
theorem uS(s:Value)(bs:List Nat)(hb:Lt 256 bs)(h:bs.length=32):
  Spec Tryz.prog 71 [s] (fun w=>Rd w s (bs.map (N .u8))) [] (IsV (if bA bs<r then .tuple #[LV .u64 (D 4 (bA bs)),N .i64 0]else .tuple #[LV .u64 (D 4 0),N .i64 61])):=by
 refine ad Tryz.func71 rfl rfl rfl fun w hr=>?_
 have hr:=RdC.mk0 hr
 have hdl:=ae 4 (bA bs)
 have hfit:=kR hb
 rw[h,show(32+7)/8=4 from rfl]at hfit
 have hdm:=ae 4 (bA bs%r)
 have htk:(D 4 (bA bs)).take 4=D 4 (bA bs):=List.take_of_length_le (by omega)
 repeat (first|(refine sG ?_;intro _)|refine y_5 ?_|((refine ax (by rfl) (by rfl) (by rfl) (ii s bs hb (by omega)) .nil (RdW.old hr) (by rfl) ?_;rintro u _ rfl);rw[h,show(32+7)/8=4 from rfl])|rw[htk]|refine Nq ?_|refine Z82 fun _=>?_)
 refine R.af [0,1,2,3] (by rfl) ?_
 repeat (first|(refine R.Zpf (by rfl) (by intro _ _ _;(first|refine VT ?_);exact Zq) ?_)|refine VU ?_|refine ag (mC hfit) ?_|refine aA ?_|(refine A6 ?_;intro _))
 refine R.Zp0 ?_
 by_cases hlt:bA bs<r
 ·rw[if_pos hlt]
  have he:(!decide (D 4 (bA bs%r)=D 4 (bA bs)))=false:=by rw[Nat.mod_eq_of_lt hlt];simp
  repeat (first|rw[he]|refine Nq ?_|refine Z82 fun _=>?_)
  refine aJ (by rfl) (by rfl) (by rfl) fd (by rfl) (by rfl) (by first | with_reducible assumption | (simp[*];done)) fun _ hw=>aa hw SubW.nil ⟨?_,rfl⟩
  rfl
 ·rw[if_neg hlt]
  have he:(!decide (D 4 (bA bs%r)=D 4 (bA bs)))=true:=by
   have:=Nat.mod_lt (bA bs) Cn
   rw[decide_eq_false (by rw[GD (HR _) hfit];omega)];rfl
  repeat (first|rw[he]|refine bk (kk:=.u64) (vs:=[]) (by rfl) (by rfl) (by rfl) (by rfl) (by rfl) (by rfl) (by rfl) (by rfl) ?_|refine Z01 ?_|refine Z02 ?_|refine Z03 ?_|refine Z04 ?_|refine Z05 ?_|refine Z06 ?_|refine Z07 ?_|refine Z08 ?_|refine Z09 ?_|refine Z10 ?_|refine Z11 ?_|refine Z12 ?_|refine Z13 ?_|refine Z14 ?_|refine Z17 ?_|refine Z18 ?_|refine Z20 ?_|refine Z21 ?_|refine Z24 ?_|refine Z26 ?_|refine Z27 ?_|refine Z29 ?_|refine Z30 ?_|refine Z31 ?_|refine Z32 ?_|refine Z66 ?_|refine Z67 ?_|refine Z77 ?_|refine Z78 ?_|refine Z79 ?_|refine Z82 fun _=>?_)
  refine aJ (by rfl) (by rfl) (by rfl) fd (by rfl) (by rfl) (by first | with_reducible assumption | (simp[*];done)) fun _ hw=>aa hw SubW.nil ⟨?_,rfl⟩
  rw[nH];rfl
end
section
attribute [local irreducible] Code.wp wpList Af bodyPost L.Go
open Num
attribute [local simp] ae
theorem Ah{T x M A VP V' Pk w c c' mk:Nat}(h1:V'+A*Pk=VP+A*w)(h2:w+18446744073709551616*c'=Pk+x*mk+c)(h3:VP+A*c=T+x*(M%A)):
  V'+A*18446744073709551616*c'=T+x*(M%A+A*mk):=by
 have h4:A*(w+18446744073709551616*c')=A*(Pk+x*mk+c):=by rw[h2]
 rw[Nat.mul_add,Nat.mul_add,Nat.mul_add,Nat.mul_left_comm A x mk]at h4
 rw[Nat.mul_assoc,Nat.mul_add x]
 omega
theorem HT{P:List Nat}{c Z:Nat}(hl:P.length=8)(hP:Lt 18446744073709551616 P)(hV:V P+W^6*c=Z)(hZ:Z<W^8):
  (P.set 6 ((P.getD 6 0+c)%18446744073709551616)).set 7 ((P.getD 7 0+(P.getD 6 0+c)/18446744073709551616)%18446744073709551616)=D 8 Z:=by
 match P,hl with
 | [a0,a1,a2,a3,a4,a5,a6,a7],_=>
  have h6:=hP.getD (by decide) 6
  have h7:=hP.getD (by decide) 7
  simp only[List.getD_cons_succ,List.getD_cons_zero,List.set_cons_succ,List.set_cons_zero]at h6 h7 ⊢
  have e:V [a0,a1,a2,a3,a4,a5,a6,a7]=V [a0,a1,a2,a3,a4,a5]+W^6*(a6+W*a7):=by
   have:=mf [a0,a1,a2,a3,a4,a5] [a6,a7]
   simp only[List.cons_append,List.nil_append,List.length_cons,List.length_nil]at this
   rw[this,show V [a6,a7]=a6+W*a7 by rw[fo,db,← fo,FH]]
  have hlo:Lt 18446744073709551616 [a0,a1,a2,a3,a4,a5]:=fun y hy=>hP y (by simp at hy;rcases hy with h | h | h | h | h | h <;> simp[h])
  have hW:W=18446744073709551616:=rfl
  have hs:a6+c+W*a7<W*W:=by
   have h8:W^8=W^6*(W*W):=by rw[show 8=6+2 from rfl,Nat.pow_add,Nat.pow_two]
   have h9:W^6*(a6+c+W*a7)<W^6*(W*W):=by
    rw[← h8]
    have:W^6*(a6+c+W*a7)=W^6*(a6+W*a7)+W^6*c:=by rw[← Nat.mul_add];congr 1;omega
    omega
   exact Nat.lt_of_mul_lt_mul_left h9
  have h7':a7+(a6+c)/18446744073709551616<18446744073709551616:=by
   rw[hW]at hs;omega
  rw[Nat.mod_eq_of_lt h7']
  refine uq (fun y hy=>?_) rfl ?_
  ·simp at hy
   rcases hy with rfl | rfl | rfl | rfl | rfl | rfl | rfl | rfl
   ·exact hP _ (by simp)
   ·exact hP _ (by simp)
   ·exact hP _ (by simp)
   ·exact hP _ (by simp)
   ·exact hP _ (by simp)
   ·exact hP _ (by simp)
   ·exact Nat.mod_lt _ (by decide)
   ·exact h7'
  ·have e2:V [a0,a1,a2,a3,a4,a5,(a6+c)%18446744073709551616,a7+(a6+c)/18446744073709551616]=V [a0,a1,a2,a3,a4,a5]+W^6*((a6+c)%18446744073709551616+W*(a7+(a6+c)/18446744073709551616)):=by
    have:=mf [a0,a1,a2,a3,a4,a5] [(a6+c)%18446744073709551616,a7+(a6+c)/18446744073709551616]
    simp only[List.cons_append,List.nil_append,List.length_cons,List.length_nil]at this
    rw[this,show V [(a6+c)%18446744073709551616,a7+(a6+c)/18446744073709551616]=(a6+c)%18446744073709551616+W*(a7+(a6+c)/18446744073709551616) by rw[fo,db,← fo,FH]]
   rw[e2,← hV,e,Nat.add_assoc,← Nat.mul_add]
   congr 2
   rw[hW];omega
theorem FB(X:Nat)(h:X<W^8):(D 8 X).drop 1++[0]=D 8 (X/W):=by
 refine uq (fun y hy=>?_) (by simp) ?_
 ·rcases List.mem_append.1 hy with hy | hy
  ·exact dr _ _ y (List.mem_of_mem_drop hy)
  ·simp at hy;subst hy;decide
 ·rw[mf,PV (dr _ _),FH,Nat.mul_zero,Nat.add_zero,eR h,Nat.pow_one]
theorem Nr{a b:Prop}(k:b)(h:Rm b→a:=by intro k;(first|refine Z01 ?_|refine Z02 ?_|refine Z03 ?_|refine Z04 ?_|refine Z05 ?_|refine Z06 ?_|refine Z07 ?_|refine Z08 ?_|refine Z09 ?_|refine Z10 ?_|refine Z11 ?_|refine Z12 ?_|refine Z13 ?_|refine Z14 ?_|refine Z15 ?_|refine Z16 ?_|refine Z17 ?_|refine Z18 ?_|refine Z19 ?_|refine Z22 ?_|refine Z23 ?_|refine Z24 ?_|refine Z26 ?_|refine Z27 ?_|refine Z29 ?_|refine Z30 ?_|refine Z31 ?_|refine Z32 ?_|refine Z33 ?_|refine Z46 ?_|refine Z62 ?_|refine Z63 ?_|refine Z67 ?_|refine Z71 ?_|refine Z75 ?_|refine Z76 ?_);exact k.h):a:=h ⟨k⟩
theorem W7{a b:Prop}(k:b)(h:Rm b→a:=by intro k;(first|refine Z01 ?_|refine Z02 ?_|refine Z15 ?_|refine Z16 ?_|refine Z17 ?_|refine Z18 ?_|refine Z19 ?_|refine Z22 ?_|refine Z23 ?_|refine Z33 ?_|refine Z46 ?_|refine Z62 ?_|refine Z63 ?_|refine Z71 ?_);exact k.h):a:=h ⟨k⟩
theorem Vv{a b:Prop}(k:b)(h:Rm b→a:=by intro k;refine Zqf (by intro _ _ _;(first|refine W7 ?_);exact Zq) ?_;exact k.h):a:=h ⟨k⟩
theorem Kx{a b:Prop}(k:b)(h:Rm b→a:=by intro k;(first|refine Vv ?_|refine Kb ?_|refine ga ?_|refine Kc ?_|refine Zqn ?_);exact k.h):a:=h ⟨k⟩
set_option maxHeartbeats 4000000 in
theorem rq(x T M sh bt bm:Nat)(hx:x<18446744073709551616)(hM:M<W^6)(hT:T+x*M<W^8)(hs:sh≤1):
  Spec Tryz.prog 130 [N .u64 x,pt bm 0,N .i64 sh,pt bt 0] ai [.blk bt (LV .u64 (D 8 T)) 167,.blk bm (LV .u64 (D 6 M)) 32]
   (fun v Wr=>v = .tuple #[]∧Wr=[.blk bt (LV .u64 (D 8 ((T+x*M)/W^sh))) 167,.blk bm (LV .u64 (D 6 M)) 32]):=by
 refine ad Tryz.func130 rfl rfl rfl fun w _=>?_
 have hlm:=ae 6 M
 have hTW:T<W^8:=by omega
 repeat (first|refine Nr ?_)
 refine ay (ι:=Nat×List Nat×Nat) (fun q=>q.1≤6∧q.2.1.length=8∧Lt 18446744073709551616 q.2.1∧q.2.2<18446744073709551616∧V q.2.1+W^q.1*q.2.2=T+x*(M%W^q.1))
  (fun q=>[(0,N .u64 x),(2,N .i64 sh),(3,pt bt 0),(7,N .u64 q.2.2),(14,pt bm 0),(15,N .i64 q.1)])
  (fun q=>[.blk bt (LV .u64 q.2.1) 167,.blk bm (LV .u64 (D 6 M)) 32]) (fun q=>6-q.1) (0,D 8 T,0) ⟨by simp,ae _ _,dr _ _,by simp,by simp only[Nat.pow_zero,Nat.mod_one,Nat.mul_zero,Nat.add_zero];exact eR hTW⟩ sbq sw ?_
 rintro⟨k,P,c⟩ ⟨hk,hPl,hPb,hc,hP⟩
 simp only at hk hPl hPb hc hP ⊢
 by_cases hk':k<6
 ·have hyk:=(dr 6 M).getD (by decide) k
  have hyv:=l9 hM k
  have hpb:=hPb.getD (by decide) k
  obtain⟨hw1,hw2⟩:=H2 hpb hc (n8 hx hyk)
  repeat (first|refine y_8 ?_|refine Z01 ?_|refine Z02 ?_|refine Z03 ?_|refine Z04 ?_|refine Z05 ?_|refine Z06 ?_|refine Z07 ?_|refine Z08 ?_|refine Z09 ?_|refine Z10 ?_|refine Z11 ?_|refine Z12 ?_|refine Z13 ?_|refine Z14 ?_|refine Z15 ?_|refine Z16 ?_|refine Z17 ?_|refine Z18 ?_|refine Z19 ?_|refine Z22 ?_|refine Z23 ?_|refine Z24 ?_|refine Z26 ?_|refine Z27 ?_|refine Z29 ?_|refine Z30 ?_|refine Z31 ?_|refine Z32 ?_|refine Z33 ?_|refine Z46 ?_|refine Z62 ?_|refine Z63 ?_|refine Z67 ?_|refine Z71 ?_|refine Z75 ?_|refine Z76 ?_)
  refine au (by rfl) ?_
  repeat (first|refine Kx ?_)
  refine Zq0 ?_ (by kernel_rfl)
  repeat (first|refine y_4 (q7 x ((D 6 M).getD k 0) hx hyk) ?_|refine SZ ?_|refine Z01 ?_|refine Z02 ?_|refine Z03 ?_|refine Z04 ?_|refine Z05 ?_|refine Z06 ?_|refine Z07 ?_|refine Z08 ?_|refine Z09 ?_|refine Z10 ?_|refine Z11 ?_|refine Z12 ?_|refine Z13 ?_|refine Z14 ?_|refine Z15 ?_|refine Z16 ?_|refine Z17 ?_|refine Z18 ?_|refine Z19 ?_|refine Z22 ?_|refine Z23 ?_|refine Z24 ?_|refine Z26 ?_|refine Z27 ?_|refine Z29 ?_|refine Z30 ?_|refine Z31 ?_|refine Z32 ?_|refine Z33 ?_|refine Z46 ?_|refine Z62 ?_|refine Z63 ?_|refine Z67 ?_|refine Z71 ?_|refine Z75 ?_|refine Z76 ?_)
  refine ap (k+1,P.set k _,_) ⟨by simp only;omega,by simp only[List.length_set];exact hPl,hPb.set (Nat.mod_lt _ (by decide)) _,hw2,?_⟩ (by simp only;omega) sbq sw
  simp only
  have hvs:=Nz hPb k ((P.getD k 0+(x*(D 6 M).getD k 0%18446744073709551616+c)%18446744073709551616)%18446744073709551616) (by omega)
  rw[cX,← hyv,Nat.pow_succ]
  exact Ah hvs hw1 hP
 ·have hke:k=6:=by omega
  subst hke
  rw[Nat.mod_eq_of_lt hM]at hP
  have htop:=HT hPl hPb hP hT
  have hg7:(P.set 6 ((P.getD 6 0+c)%18446744073709551616)).getD 7 0=P.getD 7 0:=by
   rw[List.getD_eq_getElem?_getD,List.getElem?_set_ne (by decide),← List.getD_eq_getElem?_getD]
  have hl8:=ae 8 (T+x*M)
  repeat (first|refine y_5 ?_|refine SZ ?_|rw[hg7]|rw[htop]|refine Nr ?_)
  obtain⟨Z,hZ⟩:∃Z,Z=T+x*M:=⟨_,rfl⟩
  rw[← hZ]at hl8 hT ⊢
  have h01:sh=0∨sh=1:=by omega
  rcases h01 with rfl | rfl
  ·have e1:List.take 0 (D 8 Z)++List.take (8-0) (List.drop 0 (List.take 8 (D 8 Z)))++List.drop (0+min (List.drop 0 (List.take 8 (D 8 Z))).length (8-0)) (D 8 Z)=D 8 Z:=by
    simp[hl8,List.take_of_length_le]
   have e2:List.take 8 (D 8 Z)++List.replicate (8-8) 0++List.drop 8 (D 8 Z)=D 8 Z:=by
    simp[hl8,List.take_of_length_le]
   refine au (by rfl) ?_
   repeat (first|refine Kx ?_)
   refine Zq0 ?_ (by kernel_rfl)
   rw[e1]
   repeat (first|refine ya (by rfl) fd (by rfl) (by rfl) hl8 (by omega) (by omega) ?_|rw[e2]|refine Nr ?_)
   refine gC (by rfl) fun _ hw=>aa hw (Wout:=[.blk bt (LV .u64 (D 8 Z)) 167,.blk bm (LV .u64 (D 6 M)) 32]) (by exact sw) ⟨rfl,by rw[Nat.pow_zero,Nat.div_one]⟩
  ·have hsh:=FB Z hT
   have a1:(D 8 Z).take 8=D 8 Z:=List.take_of_length_le (by omega)
   have a2:((D 8 Z).drop 1).length=7:=by rw[List.length_drop,hl8]
   have e1:List.take 0 (D 8 Z)++List.take (8-0) (List.drop 1 (List.take 8 (D 8 Z)))++List.drop (0+min (List.drop 1 (List.take 8 (D 8 Z))).length (8-0)) (D 8 Z)=(D 8 Z).drop 1++(D 8 Z).drop 7:=by
    rw[a1,List.take_of_length_le (l:=(D 8 Z).drop 1) (by omega),a2];rfl
   have hl9:((D 8 Z).drop 1++(D 8 Z).drop 7).length=8:=by rw[List.length_append,a2,List.length_drop,hl8]
   have e2:List.take 7 ((D 8 Z).drop 1++(D 8 Z).drop 7)++List.replicate (8-7) 0++List.drop 8 ((D 8 Z).drop 1++(D 8 Z).drop 7)=D 8 (Z/W):=by
    rw[List.take_left' a2,List.drop_eq_nil_of_le (Nat.le_of_eq hl9),List.append_nil,← hsh];rfl
   refine au (by rfl) ?_
   repeat (first|refine Kx ?_)
   refine Zq0 ?_ (by kernel_rfl)
   rw[e1]
   repeat (first|refine ya (by rfl) fd (by rfl) (by rfl) hl9 (by omega) (by omega) ?_|rw[e2]|refine Nr ?_)
   refine gC (by rfl) fun _ hw=>aa hw (Wout:=[.blk bt (LV .u64 (D 8 (Z/W))) 167,.blk bm (LV .u64 (D 6 M)) 32]) (by exact sw) ⟨rfl,by rw[Nat.pow_one]⟩
def Ri:Nat:=3231460744492646417066832100176244795738767926513225105051837195607029917124509527734802654356338138714468589979680
theorem KO:W^6*Ri%p=1:=by decide +kernel
theorem LO:9940570264628428797*p%18446744073709551616=18446744073709551615:=by decide +kernel
theorem Sh:([17644856173732828998,754043588434789617,10224657059481499349,7488229067341005760,11130996698012816685,1267921511277847466]:List Nat)=D 6 (W^12%p):=by decide +kernel
attribute [irreducible] Ri
def f5(a b:Nat):Nat:=a*b*Ri%p
theorem Mu(a b:Nat):f5 a b<p:=Nat.mod_lt _ bX
theorem Mv{T a b:Nat}(h:T*W^6%p=a*b%p):T%p=f5 a b:=by
 unfold f5
 rw[Nat.mul_mod,← h,← Nat.mul_mod,Nat.mul_assoc,Nat.mul_mod,KO,Nat.mul_one,Nat.mod_mod]
theorem FO(u:Nat):(u+u*18446744073709551615%18446744073709551616)%18446744073709551616=0:=by
 have e3:u+u*18446744073709551615=u*18446744073709551616:=by omega
 have e4:=Nat.add_mod_mod u (u*18446744073709551615) 18446744073709551616
 rw[e3]at e4
 exact e4.trans (Nat.mul_mod_left _ _)
theorem EF(T:Nat):(T+T%18446744073709551616*9940570264628428797%18446744073709551616*p)%18446744073709551616=0:=by
 have h:=LO
 have e:T%18446744073709551616*9940570264628428797%18446744073709551616*p%18446744073709551616=T%18446744073709551616*18446744073709551615%18446744073709551616:=by
  rw[Nat.mod_mul_mod,Nat.mul_assoc,Nat.mul_mod,h,Nat.mod_mod]
 rw[Nat.add_mod,e]
 exact FO _
theorem IV{T x b a i:Nat}(hT:T<2*p)(hx:x<18446744073709551616)(hb:b<p)(h:T*W^i%p=a%W^i*b%p)(hxa:x=a/W^i%W)(m:Nat)(hm:m=(T+x*b)%18446744073709551616*9940570264628428797%18446744073709551616):
  (T+x*b+m*p)/W<2*p∧(T+x*b+m*p)/W*W^(i+1)%p=a%W^(i+1)*b%p:=by
 have hm1:m<18446744073709551616:=by rw[hm];exact Nat.mod_lt _ (by decide)
 have hd:W∣T+x*b+m*p:=by rw[hm];exact Nat.dvd_of_mod_eq_zero (EF _)
 have h1:x*b≤18446744073709551615*p:=Nat.mul_le_mul (by omega) (Nat.le_of_lt hb)
 have h2:m*p≤18446744073709551615*p:=Nat.mul_le_mul (by omega) (Nat.le_refl _)
 constructor
 ·refine Nat.div_lt_of_lt_mul ?_
  rw[show W=18446744073709551616 from rfl]
  omega
 ·have e:(T+x*b+m*p)/W*W^(i+1)=(T+x*b+m*p)*W^i:=by
   rw[Nat.pow_succ,Nat.mul_comm (W^i) W,← Nat.mul_assoc,Nat.div_mul_cancel hd]
  rw[e,Nat.add_mul,Nat.mul_right_comm m p,Nat.add_mul_mod_self_right,Nat.add_mul,Nat.add_mod,h,← Nat.add_mod,cX,← hxa,Nat.add_mul]
  congr 2
  rw[Nat.mul_right_comm,Nat.mul_comm x]
theorem xL:Spec Tryz.prog 102 [] ai [] (IsV (LV .u64 (D 6 (W^12%p)))):=by
 refine ad Tryz.func102 rfl rfl rfl fun w _=>?_
 repeat (first|(refine cJ ?_;intro _)|refine bk (kk:=.u64) (vs:=[17644856173732828998,754043588434789617,10224657059481499349,7488229067341005760,11130996698012816685,1267921511277847466]) (by rfl) (by rfl) (by rfl) (by rfl) (by rfl) (by rfl) (by rfl) (by rfl) ?_|refine Z03 ?_|refine Z04 ?_|refine Z05 ?_|refine Z06 ?_|refine Z07 ?_|refine Z08 ?_|refine Z09 ?_|refine Z10 ?_|refine Z11 ?_|refine Z12 ?_|refine Z13 ?_|refine Z14 ?_|refine Z29 ?_|refine Z30 ?_|refine Z31 ?_|refine Z32 ?_|refine Z82 fun _=>?_)
 refine Zec fun _ hw=>aa hw SubW.nil ⟨?_,rfl⟩
 rw[← Sh];rfl
theorem VV{a b:Prop}(k:b)(h:Rm b→a:=by intro k;(first|refine Z01 ?_|refine Z02 ?_|refine Z03 ?_|refine Z04 ?_|refine Z05 ?_|refine Z06 ?_|refine Z07 ?_|refine Z08 ?_|refine Z09 ?_|refine Z10 ?_|refine Z11 ?_|refine Z12 ?_|refine Z13 ?_|refine Z14 ?_|refine Z15 ?_|refine Z17 ?_|refine Z18 ?_|refine Z22 ?_|refine Z23 ?_|refine Z24 ?_|refine Z26 ?_|refine Z27 ?_|refine Z29 ?_|refine Z30 ?_|refine Z31 ?_|refine Z32 ?_|refine Z35 ?_|refine Z48 ?_|refine Z57 ?_|refine Z62 ?_|refine Z63 ?_|refine Z66 ?_|refine Z67 ?_);exact k.h):a:=h ⟨k⟩
set_option maxHeartbeats 4000000 in
theorem ee{a b:Nat}(ha:a<W^6)(hb:b<p):Spec Tryz.prog 101 [LV .u64 (D 6 a),LV .u64 (D 6 b)] ai [] (IsV (LV .u64 (D 6 (f5 a b)))):=by
 refine ad Tryz.func101 rfl rfl rfl fun w _=>?_
 have hla:=ae 6 a
 have hlb:=ae 6 b
 have hlp:=ae 6 p
 have hpl:=lL
 have hp2:=Og
 repeat (first|(refine cJ ?_;intro _)|refine aq (v:=LV .u64 (List.replicate 8 0)) (by rfl) (by rfl) fun _=>?_|refine KD ?_|refine Z01 ?_|refine Z02 ?_|refine Z03 ?_|refine Z04 ?_|refine Z05 ?_|refine Z06 ?_|refine Z07 ?_|refine Z08 ?_|refine Z09 ?_|refine Z10 ?_|refine Z11 ?_|refine Z12 ?_|refine Z13 ?_|refine Z14 ?_|refine Z15 ?_|refine Z17 ?_|refine Z18 ?_|refine Z22 ?_|refine Z23 ?_|refine Z24 ?_|refine Z26 ?_|refine Z27 ?_|refine Z29 ?_|refine Z30 ?_|refine Z31 ?_|refine Z32 ?_|refine Z35 ?_|refine Z48 ?_|refine Z57 ?_|refine Z62 ?_|refine Z63 ?_|refine Z66 ?_|refine Z67 ?_|refine Z81 fun _=>?_|refine Z82 fun _=>?_)
 rename_i b2 b3 b4 b5 b6
 rw[show List.replicate 8 0=D 8 0 from(nH 8).symm]
 refine ay (ι:=Nat×Nat) (fun q=>q.1≤6∧q.2<2*p∧q.2*W^q.1%p=a%W^q.1*b%p)
  (fun q=>[(3,pt b3 0),(4,pt b4 0),(5,pt b5 0),(6,pt b6 0),(7,.func (.func 130) #[] #[pt b6 0]),(12,LV .u64 (D 6 a)),(13,N .i64 q.1)])
  (fun q=>[.blk b6 (LV .u64 (D 8 q.2)) 167,.blk b5 (LV .u64 (D 6 p)) 32,.blk b3 (LV .u64 (D 6 b)) 32,.blk b4 (LV .u64 (List.replicate 6 0)) 32]) (fun q=>6-q.1) (0,0) ⟨by simp,by have:=bX;simp only;omega,by simp[Nat.mod_one]⟩ sbq sw ?_
 rintro⟨i,T⟩ ⟨hi,hT,hq⟩
 simp only at hi hT hq ⊢
 have hT8:T<W^8:=Nat.lt_trans (Nat.lt_of_lt_of_le hT (by omega)) (Nat.lt_of_lt_of_le hp2 (KQ (by decide)))
 by_cases h:i<6
 ·have hxi:=(dr 6 a).getD (by decide) i
  have hxv:=l9 ha i
  generalize hx:(D 6 a).getD i 0=x at hxi hxv
  obtain⟨r1,r2⟩:=IV hT hxi hb hq hxv _ rfl
  have hW8:W^8=18446744073709551616*18446744073709551616*W^6:=by decide
  have h1:x*b≤18446744073709551615*p:=Nat.mul_le_mul (by omega) (Nat.le_of_lt hb)
  have t1:T+x*b<W^8:=by omega
  have hm1:(T+x*b)%18446744073709551616*9940570264628428797%18446744073709551616<18446744073709551616:=Nat.mod_lt _ (by decide)
  generalize hm:(T+x*b)%18446744073709551616*9940570264628428797%18446744073709551616=m at r1 r2 hm1
  have h2:m*p≤18446744073709551615*p:=Nat.mul_le_mul (by omega) (Nat.le_refl _)
  have t2:T+x*b+m*p<W^8:=by omega
  have hg:(D 8 (T+x*b)).getD 0 0=(T+x*b)%18446744073709551616:=by rw[l9 t1,Nat.pow_zero,Nat.div_one];rfl
  have hl8:=ae 8 (T+x*b)
  repeat (first|refine y_8 ?_|rw[hx]|(refine ax (by rfl) (by rfl) (by rfl) (rq x T b 0 b6 b3 hxi (Nat.lt_trans hb hpl) t1 (by decide)) (.cons fd (.cons fd .nil)) (fun _ _=>trivial) (by rfl) ?_;rintro _ _ ⟨rfl,rfl⟩;rw[Nat.pow_zero,Nat.div_one])|rw[hg]|rw[hm]|(refine ax (by rfl) (by rfl) (by rfl) (rq m (T+x*b) p 1 b6 b5 hm1 hpl t2 (by decide)) (.cons fd (.cons fd .nil)) (fun _ _=>trivial) (by rfl) ?_;rintro _ _ ⟨rfl,rfl⟩;rw[Nat.pow_one])|refine VV ?_|refine Z81 fun _=>?_|refine Z82 fun _=>?_)
  exact ap (i+1,(T+x*b+m*p)/W) ⟨by simp only;omega,r1,r2⟩ (by simp only;omega) sbq sw
 ·have hie:i=6:=by omega
  subst hie
  rw[Nat.mod_eq_of_lt ha]at hq
  have hv:=Mv hq
  have hT6:T<W^6:=by omega
  have hl8:=ae 8 T
  have hg6:(D 8 T).getD 6 0=0:=by rw[l9 hT8,Nat.div_eq_of_lt hT6,Nat.zero_mod]
  have htk:List.take 6 (List.drop 0 (List.take 6 (D 8 T)))=D 6 T:=by
   rw[List.drop_zero,List.take_take,Nat.min_self,show(8:Nat)=6+2 from rfl,Ti,List.take_left' (ae 6 T)]
  have hlv:iW 6 p T 0=f5 a b:=by
   rw[← hv];unfold iW
   rw[Nat.zero_mul,Nat.add_zero]
   by_cases hlt:T<p
   ·rw[if_pos hlt,Nat.mod_eq_of_lt hlt]
   ·rw[if_neg hlt,Nat.mod_eq_sub_mod (by omega),Nat.mod_eq_of_lt (by omega)]
  have hlr:=ae 6 (f5 a b)
  repeat (first|refine y_5 ?_|refine Z01 ?_|refine Z02 ?_|refine Z03 ?_|refine Z04 ?_|refine Z05 ?_|refine Z06 ?_|refine Z07 ?_|refine Z08 ?_|refine Z09 ?_|refine Z10 ?_|refine Z11 ?_|refine Z12 ?_|refine Z13 ?_|refine Z14 ?_|refine Z15 ?_|refine Z17 ?_|refine Z18 ?_|refine Z22 ?_|refine Z23 ?_|refine Z24 ?_|refine Z26 ?_|refine Z27 ?_|refine Z29 ?_|refine Z30 ?_|refine Z31 ?_|refine Z32 ?_|refine Z35 ?_|refine Z48 ?_|refine Z57 ?_|refine Z62 ?_|refine Z63 ?_|refine Z66 ?_|refine Z67 ?_|refine Z81 fun _=>?_|refine Z82 fun _=>?_)
  refine au (by rfl) ?_
  repeat (first|(refine Zqf (by intro _ _ _;(first|refine Z01 ?_|refine Z02 ?_|refine Z15 ?_|refine Z17 ?_|refine Z18 ?_|refine Z22 ?_|refine Z23 ?_|refine Z35 ?_|refine Z48 ?_|refine Z57 ?_|refine Z62 ?_|refine Z63 ?_|refine Z66 ?_);exact Zq) ?_)|(refine Zqp (by intro _ _ _;(refine ll (ys:=List.drop 0 (List.take 6 (D 8 T))) (by rfl) (by rfl) (by rfl) (RdW.arrN fd (by omega) (by omega) hl8) (by rw[List.drop_zero,List.length_take];omega) (by decide) (by rfl) ?_;rw[htk]);exact Zq) ?_)|(refine Zqp (by intro _ _ _;(refine tS (by rfl) fd (by omega) (by rfl) (by rfl) ?_;rw[hg6]);exact Zq) ?_)|(refine Zqp (by intro _ _ _;(refine ah (by rfl) (by rfl) (by rfl) (gV hT6 (Nat.zero_le 1)) (fun _ _=>trivial) (by rfl) ?_;rw[hlv]);exact Zq) ?_)|(refine Zqp (by intro _ _ _;(first|refine Z24 ?_|refine Z26 ?_|refine Z27 ?_|refine Z67 ?_|refine Z23 ?_|refine Z62 ?_|refine Z66 ?_);exact Zq) ?_)|refine ga ?_|refine Zqn ?_)
  refine Zq0 ?_ (by kernel_rfl)
  repeat (first|refine VV ?_|refine Z81 fun _=>?_|refine Z82 fun _=>?_)
  refine Zec fun _ hw=>aa hw SubW.nil ⟨?_,rfl⟩
  rfl
theorem V2:Ri*(W^12%p)*Ri%p=1:=by decide +kernel
theorem V3:(W^12%p)*Ri%p=W^6%p:=by decide +kernel
theorem rx(a b:Nat):f5 (a%p) (b%p)=f5 a b:=by
 unfold f5
 rw[Nat.mul_mod (a%p*(b%p)),← Nat.mul_mod a b,← Nat.mul_mod]
theorem Az(a b:Nat):f5 (a%p) b=f5 a b:=by
 unfold f5
 rw[Nat.mul_assoc,Nat.mod_mul_mod,← Nat.mul_assoc]
theorem IU(a b:Nat):f5 (f5 a b) (W^12%p)=a*b%p:=by
 show f5 (a*b*Ri%p) (W^12%p)=_
 rw[Az]
 unfold f5
 have e:a*b*Ri*(W^12%p)*Ri=a*b*(Ri*(W^12%p)*Ri):=by
  generalize W^12%p=s
  simp only[Nat.mul_assoc]
 rw[e,Nat.mul_mod,V2,Nat.mul_one,Nat.mod_mod]
theorem Mw(a b:Nat):f5 a b<W^6:=Nat.lt_trans (Mu a b) lL
theorem I8:W^12%p<p:=Nat.mod_lt _ bX
theorem bU{a b:Prop}(k:b)(h:Rm b→a:=by intro k;(first|refine Z03 ?_|refine Z04 ?_|refine Z05 ?_|refine Z06 ?_|refine Z07 ?_|refine Z08 ?_|refine Z09 ?_|refine Z10 ?_|refine Z11 ?_|refine Z12 ?_|refine Z13 ?_|refine Z14 ?_|refine Z24 ?_|refine Z26 ?_|refine Z27 ?_|refine Z29 ?_|refine Z30 ?_|refine Z31 ?_|refine Z32 ?_|refine Z67 ?_);exact k.h):a:=h ⟨k⟩
theorem ft{a b:Prop}(k:b)(h:Rm b→a:=by intro k;(first|refine sf ?_|refine ga ?_|refine Zqn ?_);exact k.h):a:=h ⟨k⟩
theorem Em{a b:Nat}(ha:a<W^6)(hb:b<W^6):Spec Tryz.prog 50 [LV .u64 (D 6 a),LV .u64 (D 6 b)] ai [] (IsV (LV .u64 (D 6 (a*b%p)))):=by
 refine ad Tryz.func50 rfl rfl rfl fun w _=>?_
 have hl0:=fun x=>ae 6 x
 have e1:=rx a b
 have e2:=IU a b
 repeat (first|(refine cJ ?_;intro _)|refine bU ?_|refine Z81 fun _=>?_|refine Z82 fun _=>?_)
 refine au (by rfl) ?_
 repeat (first|(refine Zqf (by intro _ _ _;(first|contradiction);exact Zq) ?_)|refine bS (bR ha) ?_|refine bS (bR hb) ?_|(refine Zqp (by intro _ _ _;(refine ah (by rfl) (by rfl) (by rfl) (ee (oJ a) (Nat.mod_lt b bX)) (fun _ _=>trivial) (by rfl) ?_;rw[e1]);exact Zq) ?_)|(refine Zqp (by intro _ _ _;refine ah (by rfl) (by rfl) (by rfl) (xL) (fun _ _=>trivial) (by rfl) ?_;exact Zq) ?_)|(refine Zqp (by intro _ _ _;(refine ah (by rfl) (by rfl) (by rfl) (ee (Mw a b) I8) (fun _ _=>trivial) (by rfl) ?_;rw[e2]);exact Zq) ?_)|refine ft ?_)
 refine Zq0 ?_ (by kernel_rfl)
 repeat (first|refine bU ?_|refine Z81 fun _=>?_|refine Z82 fun _=>?_)
 refine Zec fun _ hw=>aa hw SubW.nil ⟨?_,rfl⟩
 rfl
set_option maxHeartbeats 2000000 in
theorem tB{a:Nat}(ha:a<W^6):Spec Tryz.prog 52 [LV .u64 (D 6 a)] ai [] (IsV (LV .u64 (D 6 ((p-a%p)%p)))):=by
 refine ad Tryz.func52 rfl rfl rfl fun w _=>?_
 have hl0:=fun x=>ae 6 x
 have hA:=Nat.mod_lt a bX
 have hlp:=hl0 p
 repeat (first|(refine cJ ?_;intro _)|refine y_4 (bR ha) ?_|refine O7 ?_|refine Z81 fun _=>?_|refine Z82 fun _=>?_)
 generalize a%p=A at *
 have hpl:=lL
 have hAl:A<W^6:=by omega
 have hla:=hl0 A
 rename_i b1 b2 b3
 refine ay (ι:=Nat) (fun i=>i≤6) (fun i=>[(1,pt b1 0),(2,pt b2 0),(3,pt b3 0),(4,N .u64 (cp gk (D 6 p) (D 6 A) i).2),(9,N .i64 i)])
  (fun i=>[.blk b3 (LV .u64 ((cp gk (D 6 p) (D 6 A) i).1++(D 6 p).drop i)) 32,.blk b1 (LV .u64 (D 6 A)) 32,.blk b2 (LV .u64 (List.replicate 6 0)) 32]) (fun i=>6-i) 0 (by omega) (by rw[iG];exact sbq) (by rw[iG];exact sw) ?_
 intro i hi
 have hc1:=jk 6 p A i
 have hl:=gR gk (D 6 p) (D 6 A) i
 have hol:((cp gk (D 6 p) (D 6 A) i).1++(D 6 p).drop i).length=6:=by simp;omega
 have hdg:=jW (xs:=D 6 p) hl
 by_cases h:i<6
 ·repeat (first|refine Dd ?_|refine Z81 fun _=>?_|refine Z82 fun _=>?_)
  refine au (by rfl) ?_
  repeat (first|(refine Zqf (by intro _ _ _;(first|refine g9 (by rfl) (by rfl) (by rfl) (v8 _ _ _ hc1) (by rfl) ?_|refine KE ?_);exact Zq) ?_)|refine um ?_)
  refine Zq0 ?_ (by kernel_rfl)
  rw[hdg,← rS,← rT,← gS,kB gk (D 6 p) (D 6 A) i (by omega)]
  repeat (first|refine sj ?_|refine Z81 fun _=>?_|refine Z82 fun _=>?_)
  exact ap (i+1) (by omega) (by omega) sbq sw
 ·have hie:i=6:=by omega
  subst hie
  have hdr:(D 6 p).drop 6=[]:=List.drop_eq_nil_of_le (by omega)
  rw[nI hpl hAl,hdr,List.append_nil,FC (Nat.le_of_lt hA)]at *
  simp only at *
  have hv:iW 6 p (p-A) 0=(p-A)%p:=by
   unfold iW
   rw[Nat.zero_mul,Nat.add_zero]
   rcases Nat.eq_zero_or_pos A with h0 | h0
   ·subst h0;rw[Nat.sub_zero,if_neg (by omega),Nat.sub_self,Nat.mod_self]
   ·rw[if_pos (by omega),Nat.mod_eq_of_lt (by omega)]
  have hl3:=hl0 ((p-A)%p)
  repeat (first|refine y_5 ?_|(refine ah (by rfl) (by rfl) (by rfl) (gV (a:=p-A) (by omega) (Nat.zero_le 1)) (fun _ _=>trivial) (by rfl) ?_;rw[hv])|refine sj ?_|refine Z81 fun _=>?_|refine Z82 fun _=>?_)
  refine Zec fun _ hw=>aa hw SubW.nil ⟨?_,rfl⟩
  rfl
theorem og{a b:Nat}(ha:a<W^6)(hb:b<W^6):Spec Tryz.prog 113 [LV .u64 (D 6 a),LV .u64 (D 6 b)] ai [] (IsV (LV .u64 (D 6 ((a+(p-b%p)%p)%p)))):=by
 refine ad Tryz.func113 rfl rfl rfl fun w _=>?_
 have hl0:=fun x=>ae 6 x
 repeat (first|(refine cJ ?_;intro _)|refine bU ?_|refine Z81 fun _=>?_|refine Z82 fun _=>?_)
 refine au (by rfl) ?_
 repeat (first|(refine Zqf (by intro _ _ _;(first|contradiction);exact Zq) ?_)|refine bS (tB hb) ?_|refine bS (tu ha (oJ (p-b%p))) ?_|refine ft ?_)
 refine Zq0 ?_ (by kernel_rfl)
 repeat (first|refine bU ?_|refine Z81 fun _=>?_|refine Z82 fun _=>?_)
 refine Zec fun _ hw=>aa hw SubW.nil ⟨?_,rfl⟩
 rfl
set_option maxHeartbeats 2000000 in
theorem mJ{a b:Nat}(ha:a<W^6)(hb:b≤a):Spec Tryz.prog 133 [LV .u64 (D 6 a),LV .u64 (D 6 b)] ai [] (IsV (LV .u64 (D 6 (a-b)))):=by
 refine ad Tryz.func133 rfl rfl rfl fun w _=>?_
 have hl0:=fun x=>ae 6 x
 have hla:=hl0 a
 repeat (first|(refine cJ ?_;intro _)|refine sj ?_|refine Z81 fun _=>?_|refine Z82 fun _=>?_)
 rename_i b2 b3 b4
 refine ay (ι:=Nat) (fun i=>i≤6) (fun i=>[(2,pt b2 0),(3,pt b3 0),(4,pt b4 0),(5,N .u64 (cp gk (D 6 a) (D 6 b) i).2),(7,N .i64 i)])
  (fun i=>[.blk b2 (LV .u64 ((cp gk (D 6 a) (D 6 b) i).1++(D 6 a).drop i)) 32,.blk b3 (LV .u64 (D 6 b)) 32,.blk b4 (LV .u64 (List.replicate 6 0)) 32]) (fun i=>6-i) 0 (by omega) (by rw[iG];exact sbq) (by rw[iG];exact sw) ?_
 intro i hi
 have hc1:=jk 6 a b i
 have hl:=gR gk (D 6 a) (D 6 b) i
 have hol:((cp gk (D 6 a) (D 6 b) i).1++(D 6 a).drop i).length=6:=by simp;omega
 have hdg:=jW (xs:=D 6 a) hl
 by_cases h:i<6
 ·repeat (first|refine Dd ?_|refine Z81 fun _=>?_|refine Z82 fun _=>?_)
  refine au (by rfl) ?_
  repeat (first|(refine Zqf (by intro _ _ _;(first|refine g9 (by rfl) (by rfl) (by rfl) (v8 _ _ _ hc1) (by rfl) ?_|refine KE ?_);exact Zq) ?_)|refine um ?_)
  refine Zq0 ?_ (by kernel_rfl)
  rw[hdg,← rS,← rT,← gS,kB gk (D 6 a) (D 6 b) i (by omega)]
  repeat (first|refine sj ?_|refine Z81 fun _=>?_|refine Z82 fun _=>?_)
  exact ap (i+1) (by omega) (by omega) sbq sw
 ·have hie:i=6:=by omega
  subst hie
  have hdr:(D 6 a).drop 6=[]:=List.drop_eq_nil_of_le (by omega)
  rw[nI ha (Nat.lt_of_le_of_lt hb ha),hdr,List.append_nil,FC hb]at *
  simp only at *
  have hl3:=hl0 (a-b)
  repeat (first|refine O8 ?_|refine Z81 fun _=>?_|refine Z82 fun _=>?_)
  refine Zec fun _ hw=>aa hw SubW.nil ⟨?_,rfl⟩
  rfl
theorem WA:([1]++List.replicate (6-[1].length) 0:List Nat)=D 6 1:=by decide +kernel
theorem PO:([]++List.replicate (6-([]:List Nat).length) 0:List Nat)=D 6 0:=by rw[nH];rfl
theorem UQ(a x:Nat):f5 (a^x*W^6%p) (a^x*W^6%p)=a^(2*x)*W^6%p:=by
 rw[rx]
 unfold f5
 have e:a^x*W^6*(a^x*W^6)*Ri=a^(2*x)*W^6*(W^6*Ri):=by
  rw[Nat.two_mul,Nat.pow_add]
  generalize a^x=y;generalize W^6=z
  simp only[Nat.mul_assoc,Nat.mul_left_comm]
 rw[e,Nat.mul_mod,KO,Nat.mul_one,Nat.mod_mod]
theorem bM(a x:Nat):f5 (a^x*W^6%p) (a*W^6%p)=a^(x+1)*W^6%p:=by
 rw[rx]
 unfold f5
 have e:a^x*W^6*(a*W^6)*Ri=a^(x+1)*W^6*(W^6*Ri):=by
  rw[Nat.pow_succ a x]
  generalize a^x=y;generalize W^6=z
  simp only[Nat.mul_assoc,Nat.mul_left_comm]
 rw[e,Nat.mul_mod,KO,Nat.mul_one,Nat.mod_mod]
theorem m9(a:Nat):f5 (a%p) (W^12%p)=a*W^6%p:=by
 rw[Az]
 unfold f5
 rw[Nat.mul_assoc,Nat.mul_mod,V3,← Nat.mul_mod]
theorem Mm:f5 1 (W^12%p)=1*W^6%p:=by decide +kernel
theorem RQ(y:Nat):f5 (y*W^6%p) 1=y%p:=by
 rw[Az]
 unfold f5
 rw[Nat.mul_one,Nat.mul_assoc,Nat.mul_mod,KO,Nat.mul_one,Nat.mod_mod]
theorem mj{ys:List Nat}(hy:Lt 18446744073709551616 ys)(i:Nat):(ys.getD (i/64) 0 >>> (i%64)%18446744073709551616 &&& 1%18446744073709551616)=V ys/2^i%2:=by
 rw[show 1%18446744073709551616=1 from rfl,Nat.and_one_is_mod,Nat.mod_mod_of_dvd _ (by decide),cP hy]
 exact JM _ _
theorem zd{a b:Prop}(k:b)(h:Rm b→a:=by intro k;refine bk (kk:=.u64) (vs:=[1]) (by rfl) (by rfl) (by rfl) (by rfl) (by rfl) (by rfl) (by rfl) (by rfl) ?_;rw[WA];exact k.h):a:=h ⟨k⟩
theorem Fw{a b:Prop}(k:b)(h:Rm b→a:=by intro k;(first|refine Z01 ?_|refine Z02 ?_|refine Z03 ?_|refine Z04 ?_|refine Z05 ?_|refine Z06 ?_|refine Z07 ?_|refine Z08 ?_|refine Z09 ?_|refine Z10 ?_|refine Z11 ?_|refine Z12 ?_|refine Z13 ?_|refine Z14 ?_|refine Z16 ?_|refine Z17 ?_|refine Z18 ?_|refine Z20 ?_|refine Z21 ?_|refine Z22 ?_|refine Z23 ?_|refine Z24 ?_|refine Z26 ?_|refine Z27 ?_|refine Z29 ?_|refine Z30 ?_|refine Z31 ?_|refine Z32 ?_|refine Z36 ?_|refine Z37 ?_|refine Z38 ?_|refine Z40 ?_|refine Z42 ?_|refine Z67 ?_|refine Z71 ?_);exact k.h):a:=h ⟨k⟩
set_option maxHeartbeats 4000000 in
theorem Eo{a:Nat}(ha:a<W^6)(s:Value)(xs:List Nat)(hx:Lt 18446744073709551616 xs)(hl:xs.length<65536):
  Spec Tryz.prog 95 [LV .u64 (D 6 a),s] (fun w=>Rd w s (xs.map (N .u64))) [] (IsV (LV .u64 (D 6 (a^V xs%p)))):=by
 refine ad Tryz.func95 rfl rfl rfl fun w hr=>?_
 have hr:=RdC.mk0 hr
 have hl0:=fun x=>ae 6 x
 have e1:=m9 a
 have h1W:1<W^6:=by decide
 have h1p:1<p:=fc.1
 have hz:V xs/2^(64*xs.length)=0:=Nat.div_eq_of_lt (by rw[Nat.pow_mul,← W_2];exact uu hx)
 repeat (first|(refine cJ ?_;intro _)|refine y_4 (bR ha) ?_|refine ah (by rfl) (by rfl) (by rfl) (xL) (fun _ _=>trivial) (by rfl) ?_|(refine ah (by rfl) (by rfl) (by rfl) (ee (oJ a) I8) (fun _ _=>trivial) (by rfl) ?_;rw[e1])|refine zd ?_|(refine ah (by rfl) (by rfl) (by rfl) (ee h1W I8) (fun _ _=>trivial) (by rfl) ?_;rw[Mm])|refine Fw ?_|refine Z81 fun _=>?_|refine Z82 fun _=>?_)
 rename_i b2 b4 b5 b6
 refine ay (ι:=Nat) (fun j=>j≤64*xs.length) (fun j=>[(1,s),(4,pt b4 0),(5,pt b5 0),(6,pt b6 0),(7,.int .i64 ((j:Int)-1))])
  (fun j=>[.blk b6 (LV .u64 (D 6 (a^(V xs/2^j)*W^6%p))) 32,.blk b5 (LV .u64 (D 6 (a*W^6%p))) 32,.blk b4 (LV .u64 (List.replicate 6 0)) 32]) (fun j=>j) (64*xs.length) (Nat.le_refl _) sbq (by rw[hz,Nat.pow_zero];exact sw) ?_
 intro j hj
 have hl6:=fun x=>hl0 (a^x*W^6%p)
 have hlb:=hl0 (a*W^6%p)
 repeat (first|refine Fw ?_|refine Z81 fun _=>?_|refine Z82 fun _=>?_)
 refine ao (by rfl) (fun h=>?_) (fun h=>?_)
 ·have h0:(0:Int)≤(j:Int)-1:=h
  obtain⟨i,rfl⟩:∃i,j=i+1:=⟨j-1,by omega⟩
  rw[show((i+1:Nat):Int)-1=Int.ofNat i by simp]
  have hst:=ml (V xs) i
  have hbt:=mj hx i
  generalize V xs/2^(i+1)=x at hst ⊢
  have hla:=hl6 x
  have hla2:=hl6 (2*x)
  have hla3:=hl6 (2*x+1)
  have q1:=UQ a x
  have q2:=bM a (2*x)
  repeat (first|(refine ah (by rfl) (by rfl) (by rfl) (ee (a:=a^x*W^6%p) (b:=a^x*W^6%p) (oJ _) (Nat.mod_lt _ bX)) (fun _ _=>trivial) (by rfl) ?_;rw[q1])|refine ie (by rfl) (by rfl) (show i%64≤64 by omega) (by rfl) ?_|rw[hbt]|refine Fw ?_|refine Z81 fun _=>?_|refine Z82 fun _=>?_)
  refine ao (by rfl) (fun hb=>?_) (fun hb=>?_)
  ·have hx1:V xs/2^i=2*x+1:=by omega
   repeat (first|(refine ah (by rfl) (by rfl) (by rfl) (ee (a:=a^(2*x)*W^6%p) (b:=a*W^6%p) (oJ _) (Nat.mod_lt _ bX)) (fun _ _=>trivial) (by rfl) ?_;rw[q2])|refine Fw ?_|refine Z81 fun _=>?_|refine Z82 fun _=>?_)
   refine ap i (by omega) (by omega) ?_ (by rw[hx1];exact sw)
   rw[show((i:Int)-1)=Int.ofNat i-Int.ofNat 1 from rfl]
   exact sbq
  ·have hx1:V xs/2^i=2*x:=by omega
   repeat (first|refine Fw ?_|refine Z81 fun _=>?_|refine Z82 fun _=>?_)
   refine ap i (by omega) (by omega) ?_ (by rw[hx1];exact sw)
   rw[show((i:Int)-1)=Int.ofNat i-Int.ofNat 1 from rfl]
   exact sbq
 ·have hp0:¬(0:Int)≤(j:Int)-1:=h
  have hj0:j=0:=by omega
  subst hj0
  have hle:=hl0 (a^V xs%p)
  have q3:=RQ (a^V xs)
  rw[Nat.pow_zero,Nat.div_one]
  repeat (first|refine zd ?_|(refine ah (by rfl) (by rfl) (by rfl) (ee (a:=a^V xs*W^6%p) (oJ _) h1p) (fun _ _=>trivial) (by rfl) ?_;rw[q3])|refine Fw ?_|refine Z81 fun _=>?_|refine Z82 fun _=>?_)
  refine Zec fun _ hw=>aa hw SubW.nil ⟨?_,rfl⟩
  rfl
theorem B6(X i:Nat):((X/W^i%W) >>> 1%18446744073709551616 ||| (X/W^(i+1)%W) <<< 63%18446744073709551616%18446744073709551616)=X/2/W^i%W:=by
 have h:=AE (w:=1) (by decide) X i
 rw[Nat.pow_one,show 64-1=63 from rfl]at h
 rw[← h]
 have hx:X/W^i%W<W:=Nat.mod_lt _ mg
 generalize X/W^i%W=x at *
 generalize X/W^(i+1)%W=y
 have e1:x >>> 1=x/2:=by rw[Nat.shiftRight_eq_div_pow]
 have e2:y <<< 63%18446744073709551616=2^63*(y%2):=by rw[Nat.shiftLeft_eq];omega
 have hW:W=18446744073709551616:=rfl
 rw[e1,e2,Nat.mod_eq_of_lt (a:=x/2) (by omega),Nat.mod_eq_of_lt (a:=2^63*(y%2)) (by omega),Nat.or_comm,← Nat.two_pow_add_eq_or_of_lt (by omega),Nat.mod_eq_of_lt (a:=x/2+2^63*(y%2)) (by omega),Nat.add_comm]
theorem S9{a b:Prop}(k:b)(h:Rm b→a:=by intro k;(first|refine Z01 ?_|refine Z02 ?_|refine Z03 ?_|refine Z04 ?_|refine Z05 ?_|refine Z06 ?_|refine Z07 ?_|refine Z08 ?_|refine Z09 ?_|refine Z10 ?_|refine Z11 ?_|refine Z12 ?_|refine Z13 ?_|refine Z14 ?_|refine Z15 ?_|refine Z17 ?_|refine Z18 ?_|refine Z22 ?_|refine Z23 ?_|refine Z24 ?_|refine Z26 ?_|refine Z27 ?_|refine Z29 ?_|refine Z30 ?_|refine Z31 ?_|refine Z32 ?_|refine Z41 ?_|refine Z42 ?_|refine Z43 ?_|refine Z46 ?_|refine Z67 ?_);exact k.h):a:=h ⟨k⟩
theorem VW{a b:Prop}(k:b)(h:Rm b→a:=by intro k;(first|refine ie (by rfl) (by rfl) (show 1≤64 by decide) (by rfl) ?_|refine Z01 ?_|refine Z02 ?_|refine Z15 ?_|refine Z17 ?_|refine Z18 ?_|refine Z22 ?_|refine Z23 ?_|refine Z41 ?_|refine Z42 ?_|refine Z43 ?_|refine Z46 ?_);exact k.h):a:=h ⟨k⟩
set_option maxHeartbeats 4000000 in
theorem nV(a h ba:Nat)(ha:a<W^6)(hh:h≤1):
  Spec Tryz.prog 151 [pt ba 0,N .u64 h] ai [.blk ba (LV .u64 (D 6 a)) 32] (fun v Wr=>v = .tuple #[]∧Wr=[.blk ba (LV .u64 (D 6 ((a+h*W^6)/2))) 32]):=by
 refine ad Tryz.func151 rfl rfl rfl fun w _=>?_
 obtain⟨X,hX⟩:∃X,X=a+h*W^6:=⟨_,rfl⟩
 have hDX:D 6 a=D 6 X:=by rw[hX,← ma 6 (a+h*W^6),Nat.add_mul_mod_self_right,ma]
 have hX6:X/W^6%W=h:=by
  rw[hX,Nat.add_mul_div_right _ _ (bO 6),Nat.div_eq_of_lt ha,Nat.zero_add,Nat.mod_eq_of_lt (by have:W=18446744073709551616:=rfl;omega)]
 rw[← hX,hDX]
 have hdx:=ae 6 X
 have hg:∀j,j<6→(D 6 X).getD j 0=X/W^j%W:=fun j hj=>zi 6 X j hj
 repeat (first|refine S9 ?_)
 refine ay (ι:=Nat) (fun i=>i≤5) (fun i=>[(0,pt ba 0),(1,N .u64 h),(5,N .i64 i)]) (fun i=>[.blk ba (LV .u64 (D i (X/2)++(D 6 X).drop i)) 32]) (fun i=>5-i) 0 (by omega) sbq (by rw[D_0,List.nil_append,List.drop_zero];exact sw) ?_
 intro i hi
 have hdl:=ae i (X/2)
 have hpl:(D i (X/2)++(D 6 X).drop i).length=6:=by rw[List.length_append,hdl,List.length_drop,hdx];omega
 have hg0:=(jW (xs:=D 6 X) hdl).trans (hg i (by omega))
 by_cases h5:i<5
 ·have hg1:=(DJ (xs:=D 6 X) hdl).trans (hg (i+1) (by omega))
  repeat (first|refine y_8 ?_|refine Z01 ?_|refine Z02 ?_|refine Z03 ?_|refine Z04 ?_|refine Z05 ?_|refine Z06 ?_|refine Z07 ?_|refine Z08 ?_|refine Z09 ?_|refine Z10 ?_|refine Z11 ?_|refine Z12 ?_|refine Z13 ?_|refine Z14 ?_|refine Z15 ?_|refine Z17 ?_|refine Z18 ?_|refine Z22 ?_|refine Z23 ?_|refine Z24 ?_|refine Z26 ?_|refine Z27 ?_|refine Z29 ?_|refine Z30 ?_|refine Z31 ?_|refine Z32 ?_|refine Z41 ?_|refine Z42 ?_|refine Z43 ?_|refine Z46 ?_|refine Z67 ?_)
  refine au (by rfl) ?_
  repeat (first|(refine Zqf (by intro _ _ _;(first|refine VW ?_);exact Zq) ?_)|refine Ke ?_|refine ga ?_|refine Zqn ?_)
  refine Zq0 ?_ (by kernel_rfl)
  rw[hg0,hg1,B6,qi hdl (by omega),← ur]
  repeat (first|refine S9 ?_)
  exact ap (i+1) (by omega) (by omega) sbq sw
 ·have hie:i=5:=by omega
  subst hie
  have ho:=B6 X 5
  rw[show(5+1:Nat)=6 from rfl,hX6]at ho
  repeat (first|refine y_5 ?_|refine Z01 ?_|refine Z02 ?_|refine Z03 ?_|refine Z04 ?_|refine Z05 ?_|refine Z06 ?_|refine Z07 ?_|refine Z08 ?_|refine Z09 ?_|refine Z10 ?_|refine Z11 ?_|refine Z12 ?_|refine Z13 ?_|refine Z14 ?_|refine Z15 ?_|refine Z17 ?_|refine Z18 ?_|refine Z22 ?_|refine Z23 ?_|refine Z24 ?_|refine Z26 ?_|refine Z27 ?_|refine Z29 ?_|refine Z30 ?_|refine Z31 ?_|refine Z32 ?_|refine Z41 ?_|refine Z42 ?_|refine Z43 ?_|refine Z46 ?_|refine Z67 ?_)
  refine au (by rfl) ?_
  repeat (first|(refine Zqf (by intro _ _ _;(first|refine VW ?_);exact Zq) ?_)|refine Ke ?_|refine ga ?_|refine Zqn ?_)
  refine Zq0 ?_ (by kernel_rfl)
  rw[hg0,ho,qi hdl (by omega),← ur,List.drop_eq_nil_of_le (by omega),List.append_nil]
  repeat (first|refine S9 ?_)
  refine gC (by rfl) fun _ hw=>aa hw (Wout:=[.blk ba (LV .u64 (D 6 (X/2))) 32]) (by exact sw) ⟨rfl,rfl⟩
theorem va{u:Nat}(hu:u<W^6):((D 6 u).getD 0 0%18446744073709551616 &&& 1%18446744073709551616)=u%2:=by
 rw[l9 hu,Nat.pow_zero,Nat.div_one,show 1%18446744073709551616=1 from rfl,Nat.and_one_is_mod,show W=18446744073709551616 from rfl]
 omega
theorem Io:p%2=1:=by decide +kernel
theorem N1{A x u:Nat}(h:A*(2*x)%p=2*u%p):A*x%p=u%p:=by
 rw[Nat.mul_left_comm]at h
 have h2:¬p∣2:=fun hd=>by
  have:=Nat.le_of_dvd (by decide) hd
  have:=Io
  have:=fc.1
  have h3:p=2:=by omega
  omega
 rcases Nat.le_total (A*x) u with hle | hle
 ·exact(Pr.zz fc h2 hle (by rw[Nat.mul_comm u,Nat.mul_comm (A*x)];exact h.symm)).symm
 ·exact Pr.zz fc h2 hle (by rw[Nat.mul_comm u,Nat.mul_comm (A*x)];exact h)
theorem ze{a b:Prop}(k:b)(h:Rm b→a:=by intro k;(first|refine Z01 ?_|refine Z02 ?_|refine Z03 ?_|refine Z04 ?_|refine Z05 ?_|refine Z06 ?_|refine Z07 ?_|refine Z08 ?_|refine Z09 ?_|refine Z10 ?_|refine Z11 ?_|refine Z12 ?_|refine Z13 ?_|refine Z14 ?_|refine Z15 ?_|refine Z17 ?_|refine Z18 ?_|refine Z19 ?_|refine Z22 ?_|refine Z23 ?_|refine Z24 ?_|refine Z26 ?_|refine Z27 ?_|refine Z29 ?_|refine Z30 ?_|refine Z31 ?_|refine Z32 ?_|refine Z40 ?_|refine Z46 ?_|refine Z67 ?_);exact k.h):a:=h ⟨k⟩
set_option maxHeartbeats 8000000 in
theorem sO(U X A bu bx:Nat)(hU:0<U)(hUW:U<W^6)(hX:X<p)(hA:A*X%p=U%p):
  Spec Tryz.prog 132 [pt bu 0,pt bx 0] ai [.blk bu (LV .u64 (D 6 U)) 32,.blk bx (LV .u64 (D 6 X)) 32]
   (fun v Wr=>v = .tuple #[]∧∃u x,Wr=[.blk bu (LV .u64 (D 6 u)) 32,.blk bx (LV .u64 (D 6 x)) 32]∧u∣U∧u%2=1∧x<p∧A*x%p=u%p):=by
 refine ad Tryz.func132 rfl rfl rfl fun w _=>?_
 have hpl:=lL
 have hp2:=Og
 have hpo:=Io
 have hl0:=fun x=>ae 6 x
 repeat (first|refine ze ?_|refine Z82 fun _=>?_)
 refine ay (ι:=Nat×Nat) (fun q=>0<q.1∧q.1∣U∧q.2<p∧A*q.2%p=q.1%p) (fun _=>[(0,pt bu 0),(1,pt bx 0)]) (fun q=>[.blk bu (LV .u64 (D 6 q.1)) 32,.blk bx (LV .u64 (D 6 q.2)) 32]) (fun q=>q.1) (U,X) ⟨hU,Nat.dvd_refl U,hX,hA⟩ sbq sw ?_
 rintro⟨u,x⟩ ⟨h1,h2,h3,h4⟩
 simp only at h1 h2 h3 h4 ⊢
 have huU:=Nat.le_of_dvd hU h2
 have huW:u<W^6:=by omega
 have hxW:x<W^6:=by omega
 have hb1:=va huW
 have hb2:=va hxW
 have hlu:=hl0 u
 have hlx:=hl0 x
 repeat (first|rw[hb1]|refine ze ?_|refine Z82 fun _=>?_)
 refine ao (by rfl) (fun he=>?_) (fun he=>?_)
 ·obtain⟨y,rfl⟩:∃y,u=2*y:=⟨u/2,by omega⟩
  have hy:(2*y+0*W^6)/2=y:=by rw[Nat.zero_mul];omega
  have hly:=hl0 y
  have hdv:y∣U:=Nat.dvd_trans (Nat.dvd_mul_left y 2) h2
  repeat (first|(refine ax (by rfl) (by rfl) (by rfl) (nV (2*y) 0 bu huW (Nat.zero_le 1)) (.cons fd .nil) (fun _ _=>trivial) (by rfl) ?_;rintro _ _ ⟨rfl,rfl⟩;rw[hy])|rw[hb2]|refine ze ?_|refine Z82 fun _=>?_)
  refine ao (by rfl) (fun hx=>?_) (fun hx=>?_)
  ·obtain⟨z,rfl⟩:∃z,x=2*z:=⟨x/2,by omega⟩
   have hz:(2*z+0*W^6)/2=z:=by rw[Nat.zero_mul];omega
   have hm:=N1 h4
   repeat (first|(refine ax (by rfl) (by rfl) (by rfl) (nV (2*z) 0 bx hxW (Nat.zero_le 1)) (.cons fd .nil) (fun _ _=>trivial) (by rfl) ?_;rintro _ _ ⟨rfl,rfl⟩;rw[hz])|refine ze ?_|refine Z82 fun _=>?_)
   exact ap (y,z) ⟨by omega,hdv,by omega,hm⟩ (by simp only;omega) sbq sw
  ·have hlp:=hl0 p
   have hm:A*((x+p)/2)%p=y%p:=by
    refine N1 ?_
    rw[show 2*((x+p)/2)=x+p by omega,Nat.mul_add,Nat.add_mul_mod_self_right]
    exact h4
   have hs:(x+p)/2<p:=by omega
   clear h4 hb1 hb2 h2 huU
   repeat (first|refine KD ?_|(refine cJ ?_;intro _)|refine ze ?_|refine Z82 fun _=>?_)
   rename_i b4
   refine ay (ι:=Nat) (fun i=>i≤6) (fun i=>[(0,pt bu 0),(1,pt bx 0),(4,pt b4 0),(5,N .u64 (cp iM (D 6 x) (D 6 p) i).2),(24,N .i64 i)])
    (fun i=>[.blk bx (LV .u64 ((cp iM (D 6 x) (D 6 p) i).1++(D 6 x).drop i)) 32,.blk bu (LV .u64 (D 6 y)) 32,.blk b4 (LV .u64 (D 6 p)) 32]) (fun i=>6-i) 0 (by omega) (by rw[iG];exact sbq) (by rw[iG];exact sw) ?_
   intro i hi
   have hc1:=mr 6 x p i
   have hl:=gR iM (D 6 x) (D 6 p) i
   have hol:((cp iM (D 6 x) (D 6 p) i).1++(D 6 x).drop i).length=6:=by simp;omega
   have hdg:=jW (xs:=D 6 x) hl
   by_cases h:i<6
   ·repeat (first|refine y_8 ?_|refine Z01 ?_|refine Z02 ?_|refine Z03 ?_|refine Z04 ?_|refine Z05 ?_|refine Z06 ?_|refine Z07 ?_|refine Z08 ?_|refine Z09 ?_|refine Z10 ?_|refine Z11 ?_|refine Z12 ?_|refine Z13 ?_|refine Z14 ?_|refine Z15 ?_|refine Z17 ?_|refine Z18 ?_|refine Z19 ?_|refine Z22 ?_|refine Z23 ?_|refine Z24 ?_|refine Z26 ?_|refine Z27 ?_|refine Z29 ?_|refine Z30 ?_|refine Z31 ?_|refine Z32 ?_|refine Z40 ?_|refine Z46 ?_|refine Z67 ?_|refine Z82 fun _=>?_)
    refine au (by rfl) ?_
    repeat (first|(refine Zqf (by intro _ _ _;(first|refine g9 (by rfl) (by rfl) (by rfl) (zo _ _ _ hc1) (by rfl) ?_|refine Z01 ?_|refine Z02 ?_|refine Z15 ?_|refine Z17 ?_|refine Z18 ?_|refine Z19 ?_|refine Z22 ?_|refine Z23 ?_|refine Z40 ?_|refine Z46 ?_);exact Zq) ?_)|refine um ?_)
    refine Zq0 ?_ (by kernel_rfl)
    rw[hdg,← wu,← wv,← gS,kB iM (D 6 x) (D 6 p) i (by omega)]
    repeat (first|refine ze ?_|refine Z82 fun _=>?_)
    exact ap (i+1) (by omega) (by omega) sbq sw
   ·have hie:i=6:=by omega
    subst hie
    have hdr:(D 6 x).drop 6=[]:=List.drop_eq_nil_of_le (by omega)
    have hxp:x+p<W^6:=by omega
    have h0:(x+p)/W^6=0:=Nat.div_eq_of_lt hxp
    have hz:(x+p+0*W^6)/2=(x+p)/2:=by rw[Nat.zero_mul,Nat.add_zero]
    rw[sM hxW hpl,hdr,List.append_nil]at *
    simp only[h0]at *
    have hlz:=hl0 ((x+p)/2)
    repeat (first|refine y_5 ?_|(refine ax (by rfl) (by rfl) (by rfl) (nV (x+p) 0 bx hxp (Nat.zero_le 1)) (.cons fd .nil) (fun _ _=>trivial) (by rfl) ?_;rintro _ _ ⟨rfl,rfl⟩;rw[hz])|refine ze ?_|refine Z82 fun _=>?_)
    exact ap (y,(x+p)/2) ⟨by omega,hdv,hs,hm⟩ (by simp only;omega) sbq sw
 ·repeat (first|refine ze ?_|refine Z82 fun _=>?_)
  refine gC (by rfl) fun _ hw=>aa hw (Wout:=[.blk bu (LV .u64 (D 6 u)) 32,.blk bx (LV .u64 (D 6 x)) 32]) (by exact sw) ⟨rfl,u,x,rfl,h2,by omega,h3,h4⟩
instance nzp:NeZero p:=⟨Nat.ne_of_gt bX⟩
theorem Lv{a r:Nat}(h:a*r%p=1):r%p=a^(p-2)%p:=by
 have hk:Kf.κ p a*Kf.κ p r=1:=by
  rw[← Kf.go,← Kf.κ_1,Kf.sr,h,Nat.mod_eq_of_lt fc.1]
 have h2:=Kf.zZ fc hk
 rw[Kf.inv,← Kf.wk,Kf.sr]at h2
 exact h2.symm
theorem CI{A x y u v:Nat}(hx:A*x%p=u%p)(hy:A*y%p=v%p)(h:v≤u):A*((x+(p-y%p)%p)%p)%p=(u-v)%p:=by
 have e1:Kf.κ p A*Kf.κ p x=Kf.κ p u:=by rw[← Kf.go,Kf.sr];exact hx
 have e2:Kf.κ p A*Kf.κ p y=Kf.κ p v:=by rw[← Kf.go,Kf.sr];exact hy
 rw[← Kf.sr,Kf.go,Kf.lZ,Kf.fL,Kf.lZ,Kf.wj (Nat.le_of_lt (Nat.mod_lt _ bX)),Kf.lZ,Kf.Bb h]
 grind
theorem Li{a b c d:Nat}(h:Nat.gcd a b=1)(hc:c∣a)(hd:d∣b):Nat.gcd c d=1:=
 Nat.eq_one_of_dvd_one (h ▸ Nat.dvd_gcd (Nat.dvd_trans (Nat.gcd_dvd_left c d) hc) (Nat.dvd_trans (Nat.gcd_dvd_right c d) hd))
theorem wY{a b:Nat}(h:Nat.gcd a b=1)(hle:b≤a):Nat.gcd (a-b) b=1:=
 Nat.eq_one_of_dvd_one (h ▸ Nat.dvd_gcd (by
  have:=Nat.dvd_add (Nat.gcd_dvd_left (a-b) b) (Nat.gcd_dvd_right (a-b) b)
  rwa [Nat.sub_add_cancel hle]at this) (Nat.gcd_dvd_right _ _))
theorem G8{a b:Nat}(h:Nat.gcd a b=1)(hle:a≤b):Nat.gcd a (b-a)=1:=by
 rw[Nat.gcd_comm]at h ⊢
 exact wY h hle
theorem Uf{A:Nat}(h0:0<A)(hA:A<p):Nat.gcd A p=1:=by
 rcases fc.2 _ (Nat.gcd_dvd_right A p)with h | h
 ·exact h
 ·have:=Nat.le_of_dvd h0 (h ▸ Nat.gcd_dvd_left A p)
  omega
theorem VX{a b:Prop}(k:b)(h:Rm b→a:=by intro k;refine bk (kk:=.u64) (vs:=[]) (by rfl) (by rfl) (by rfl) (by rfl) (by rfl) (by rfl) (by rfl) (by rfl) ?_;rw[PO];exact k.h):a:=h ⟨k⟩
theorem ph{a b:Prop}(k:b)(h:Rm b→a:=by intro k;(first|refine Z02 ?_|refine Z03 ?_|refine Z04 ?_|refine Z05 ?_|refine Z06 ?_|refine Z07 ?_|refine Z08 ?_|refine Z09 ?_|refine Z10 ?_|refine Z11 ?_|refine Z12 ?_|refine Z13 ?_|refine Z14 ?_|refine Z17 ?_|refine Z18 ?_|refine Z24 ?_|refine Z26 ?_|refine Z27 ?_|refine Z29 ?_|refine Z30 ?_|refine Z31 ?_|refine Z32 ?_|refine Z62 ?_|refine Z63 ?_|refine Z67 ?_|refine Z77 ?_|refine Z78 ?_|refine Z79 ?_);exact k.h):a:=h ⟨k⟩
theorem W8{a b:Prop}(k:b)(h:Rm b→a:=by intro k;(first|refine Z02 ?_|refine Z17 ?_|refine Z18 ?_|refine Z62 ?_|refine Z63 ?_|refine Z77 ?_|refine Z78 ?_|refine Z79 ?_);exact k.h):a:=h ⟨k⟩
theorem VY{a b:Prop}(k:b)(h:Rm b→a:=by intro k;(first|refine Z24 ?_|refine Z26 ?_|refine Z27 ?_|refine Z67 ?_|refine Z62 ?_);exact k.h):a:=h ⟨k⟩
theorem De{a b:Prop}(k:b)(h:Rm b→a:=by intro k;refine Zqf (by intro _ _ _;(first|refine W8 ?_);exact Zq) ?_;exact k.h):a:=h ⟨k⟩
theorem Vw{a b:Prop}(k:b)(h:Rm b→a:=by intro k;refine Zqp (by intro _ _ _;(first|refine VY ?_);exact Zq) ?_;exact k.h):a:=h ⟨k⟩
theorem un{a b:Prop}(k:b)(h:Rm b→a:=by intro k;(first|refine Vw ?_|refine ga ?_|refine Zqn ?_);exact k.h):a:=h ⟨k⟩
set_option maxHeartbeats 8000000 in
theorem El{a:Nat}(ha:a<W^6):Spec Tryz.prog 111 [LV .u64 (D 6 a)] ai [] (IsV (LV .u64 (D 6 (a^(p-2)%p)))):=by
 refine ad Tryz.func111 rfl rfl rfl fun w _=>?_
 have hpl:=lL
 have hp0:=bX
 have hp1:=fc.1
 have hl0:=fun x=>ae 6 x
 have hlp:=hl0 p
 have hAp:=Nat.mod_lt a bX
 have hz0:=wm (oJ a) (show 0<W^6 by decide)
 repeat (first|(refine cJ ?_;intro _)|refine y_4 (bR ha) ?_|refine KD ?_|refine zd ?_|refine VX ?_|refine Z02 ?_|refine Z03 ?_|refine Z04 ?_|refine Z05 ?_|refine Z06 ?_|refine Z07 ?_|refine Z08 ?_|refine Z09 ?_|refine Z10 ?_|refine Z11 ?_|refine Z12 ?_|refine Z13 ?_|refine Z14 ?_|refine Z17 ?_|refine Z18 ?_|refine Z24 ?_|refine Z26 ?_|refine Z27 ?_|refine Z29 ?_|refine Z30 ?_|refine Z31 ?_|refine Z32 ?_|refine Z62 ?_|refine Z63 ?_|refine Z67 ?_|refine Z77 ?_|refine Z78 ?_|refine Z79 ?_|refine Z81 fun _=>?_|refine Z82 fun _=>?_)
 refine ao (by rfl) (fun hb=>?_) (fun hb=>?_)
 ·rw[hz0]at hb
  have hv:a^(p-2)%p=a%p:=by
   rw[Nat.pow_mod,hb,Nat.zero_pow (by have:=Io;omega),Nat.zero_mod]
  rw[← hv]
  rw[← hv]at hz0
  have hla:=hl0 (a^(p-2)%p)
  repeat (first|refine ph ?_|refine Z81 fun _=>?_|refine Z82 fun _=>?_)
  refine Zec fun _ hw=>aa hw SubW.nil ⟨?_,rfl⟩
  rfl
 ·rw[hz0]at hb
  have hA0:0<a%p:=by omega
  have hg0:=Uf hA0 hAp
  have hi0:a%p*1%p=(a%p)%p:=by rw[Nat.mul_one]
  have hi1:a%p*0%p=p%p:=by rw[Nat.mul_zero,Nat.mod_self,Nat.zero_mod]
  have hval:∀r,r<p→a%p*r%p=1%p→r=a^(p-2)%p:=by
   intro r hr h
   rw[Nat.mod_mul_mod,Nat.mod_eq_of_lt hp1]at h
   rw[← Lv h,Nat.mod_eq_of_lt hr]
  generalize a^(p-2)%p=R at *
  generalize a%p=A at *
  clear hb hz0
  repeat (first|(refine cJ ?_;intro _)|refine ph ?_|refine Z81 fun _=>?_|refine Z82 fun _=>?_)
  rename_i b1 b2 b3 b4 b5 b6 b7
  refine ay (ι:=(Nat×Nat)×(Nat×Nat)) (fun q=>(0<q.1.1∧q.1.1≤p∧q.2.1<p∧A*q.2.1%p=q.1.1%p)∧(0<q.1.2∧q.1.2≤p∧q.2.2<p∧A*q.2.2%p=q.1.2%p)∧Nat.gcd q.1.1 q.1.2=1)
   (fun _=>[(2,pt b2 0),(3,pt b3 0),(4,pt b4 0),(5,pt b5 0),(6,pt b6 0),(7,pt b7 0)])
   (fun q=>[.blk b2 (LV .u64 (List.replicate 6 0)) 32,.blk b3 (LV .u64 (D 6 q.1.1)) 32,.blk b4 (LV .u64 (D 6 q.1.2)) 32,.blk b5 (LV .u64 (D 6 q.2.1)) 32,.blk b6 (LV .u64 (D 6 q.2.2)) 32,.blk b7 (LV .u64 (D 6 1)) 32]) (fun q=>q.1.1+q.1.2) ((A,p),(1,0))
   ⟨⟨hA0,Nat.le_of_lt hAp,hp1,hi0⟩,⟨hp0,Nat.le_refl p,hp0,hi1⟩,hg0⟩ sbq sw ?_
  rintro⟨⟨u,v⟩,⟨x,y⟩⟩ ⟨⟨hu0,hu,hx,hux⟩,⟨hv0,hv,hy,hvy⟩,hg⟩
  simp only at hu0 hu hx hux hv0 hv hy hvy hg ⊢
  have huW:u<W^6:=by omega
  have hvW:v<W^6:=by omega
  repeat (first|(refine ax (by rfl) (by rfl) (by rfl) (sO u x A b3 b5 hu0 huW hx hux) (.cons fd (.cons fd .nil)) (fun _ _=>trivial) (by rfl) ?_;rintro _ _ ⟨rfl,u1,x1,rfl,hd1,ho1,hx1,hux1⟩)|(refine ax (by rfl) (by rfl) (by rfl) (sO v y A b4 b6 hv0 hvW hy hvy) (.cons fd (.cons fd .nil)) (fun _ _=>trivial) (by rfl) ?_;rintro _ _ ⟨rfl,v1,y1,rfl,hd2,ho2,hy1,hvy1⟩)|refine ph ?_|refine Z81 fun _=>?_|refine Z82 fun _=>?_)
  have hg1:=Li hg hd1 hd2
  have hu1:=Nat.le_of_dvd hu0 hd1
  have hv1:=Nat.le_of_dvd hv0 hd2
  have huW1:u1<W^6:=by omega
  have hvW1:v1<W^6:=by omega
  have hz1:=wm huW1 (show 1<W^6 by decide)
  have hz2:=wm hvW1 (show 1<W^6 by decide)
  clear hux hvy hd1 hd2 hg
  have hlx1:=hl0 x1
  have hly1:=hl0 y1
  have hlu1:=hl0 u1
  have hlv1:=hl0 v1
  refine ao (by rfl) (fun hb=>?_) (fun hb=>?_)
  ·rw[hz1]at hb
   have hr:=hval x1 hx1 (by rw[hux1,hb])
   repeat (first|refine ph ?_|refine Z81 fun _=>?_|refine Z82 fun _=>?_)
   refine Zec fun _ hw=>aa hw SubW.nil ⟨?_,rfl⟩
   rw[hr]
  rw[hz1]at hb
  repeat (first|refine ph ?_|refine Z81 fun _=>?_|refine Z82 fun _=>?_)
  refine ao (by rfl) (fun hb2=>?_) (fun hb2=>?_)
  ·rw[hz2]at hb2
   have hr:=hval y1 hy1 (by rw[hvy1,hb2])
   repeat (first|refine ph ?_|refine Z81 fun _=>?_|refine Z82 fun _=>?_)
   refine Zec fun _ hw=>aa hw SubW.nil ⟨?_,rfl⟩
   rw[hr]
  rw[hz2]at hb2
  have hne:u1≠v1:=by
   rintro rfl
   rw[Nat.gcd_self]at hg1
   exact hb hg1
  have hp1:=dr 6 u1
  have hp2:=dr 6 v1
  by_cases hlt:u1<v1
  ·have q1:0<u1:=by omega
   have q2:u1≤p:=by omega
   have q3:0<v1-u1:=by omega
   have q4:v1-u1≤p:=by omega
   have ho:vq (V (D 6 u1)) (V (D 6 v1)) = -1:=by rw[eR huW1,eR hvW1];exact pJ hlt
   repeat (first|refine ph ?_|refine Z81 fun _=>?_|refine Z82 fun _=>?_)
   refine au (by rfl) ?_
   repeat (first|refine De ?_|(refine Zqp (by intro _ _ _;(refine ah (by rfl) (by rfl) (by rfl) (mm _ _ (D 6 u1) (D 6 v1) hp1 hp2 (by omega) (by omega)) (fun w hw=>⟨RdW.arrAll (m:=6) fd hlu1 w hw,RdW.arrAll (m:=6) fd hlv1 w hw⟩) (by rfl) ?_;rw[ho]);exact Zq) ?_)|refine un ?_)
   refine Zq0 ?_ (by kernel_rfl)
   rw[show decide (Int.ofNat 0 ≤ -1)=false from by decide]
   repeat (first|refine ph ?_|refine Z81 fun _=>?_|refine Z82 fun _=>?_)
   refine au (by rfl) ?_
   repeat (first|refine De ?_|refine bS (mJ hvW1 (Nat.le_of_lt hlt)) ?_|refine bS (og (Nat.lt_trans hy1 hpl) (Nat.lt_trans hx1 hpl)) ?_|refine un ?_)
   refine Zq0 ?_ (by kernel_rfl)
   repeat (first|refine ph ?_|refine Z81 fun _=>?_|refine Z82 fun _=>?_)
   exact ap ((u1,v1-u1),(x1,(y1+(p-x1%p)%p)%p)) ⟨⟨q1,q2,hx1,hux1⟩,⟨q3,q4,Nat.mod_lt _ hp0,CI hvy1 hux1 (Nat.le_of_lt hlt)⟩,G8 hg1 (Nat.le_of_lt hlt)⟩ (by simp only;omega) sbq sw
  ·have q1:0<v1:=by omega
   have q2:v1≤p:=by omega
   have q3:0<u1-v1:=by omega
   have q4:u1-v1≤p:=by omega
   have ho:vq (V (D 6 u1)) (V (D 6 v1))=1:=by rw[eR huW1,eR hvW1];exact pI (by omega)
   repeat (first|refine ph ?_|refine Z81 fun _=>?_|refine Z82 fun _=>?_)
   refine au (by rfl) ?_
   repeat (first|refine De ?_|(refine Zqp (by intro _ _ _;(refine ah (by rfl) (by rfl) (by rfl) (mm _ _ (D 6 u1) (D 6 v1) hp1 hp2 (by omega) (by omega)) (fun w hw=>⟨RdW.arrAll (m:=6) fd hlu1 w hw,RdW.arrAll (m:=6) fd hlv1 w hw⟩) (by rfl) ?_;rw[ho]);exact Zq) ?_)|refine un ?_)
   refine Zq0 ?_ (by kernel_rfl)
   rw[show decide ((0:Nat)≤1)=true from by decide]
   repeat (first|refine ph ?_|refine Z81 fun _=>?_|refine Z82 fun _=>?_)
   refine au (by rfl) ?_
   repeat (first|refine De ?_|refine bS (mJ huW1 (Nat.le_of_not_lt hlt)) ?_|refine bS (og (Nat.lt_trans hx1 hpl) (Nat.lt_trans hy1 hpl)) ?_|refine un ?_)
   refine Zq0 ?_ (by kernel_rfl)
   repeat (first|refine ph ?_|refine Z81 fun _=>?_|refine Z82 fun _=>?_)
   exact ap ((u1-v1,v1),((x1+(p-y1%p)%p)%p,y1)) ⟨⟨q3,q4,Nat.mod_lt _ hp0,CI hux1 hvy1 (Nat.le_of_not_lt hlt)⟩,⟨q1,q2,hy1,hvy1⟩,wY hg1 (Nat.le_of_not_lt hlt)⟩ (by simp only;omega) sbq sw
abbrev Fq:=Fin p
abbrev kp(a:Nat):Fq:=Kf.κ p a
theorem dx(x:Fq):kp x.val=x:=Kf.iK x
theorem an(x:Fq):x.val<W^6:=Nat.lt_trans x.isLt lL
theorem p_3:Kf.P3 p:=⟨fc,by decide +kernel⟩
theorem Ly(a b:Nat):(a+b)%p=(kp a+kp b).val:=by rw[← Kf.fL,Kf.dQ]
theorem LA(a b:Nat):a*b%p=(kp a*kp b).val:=by rw[← Kf.go,Kf.dQ]
theorem LB(a:Nat):(p-a%p)%p=(- kp a).val:=by rw[← Kf.dQ (n:=p),Kf.wj (Nat.le_of_lt (Nat.mod_lt _ bX)),Kf.lZ]
theorem LC(a b:Nat):(a+(p-b%p)%p)%p=(kp a-kp b).val:=by
 rw[← Kf.dQ (n:=p),Kf.fL,Kf.lZ,Kf.wj (Nat.le_of_lt (Nat.mod_lt _ bX)),Kf.lZ]
 exact congrArg Fin.val (by grind)
theorem mG(a e:Nat):a^e%p=(kp a^e).val:=by rw[← Kf.wk,Kf.dQ]
theorem Lz(a:Nat):a^(p-2)%p=(Kf.inv (kp a)).val:=by rw[mG];rfl
theorem dc{a:Nat}(ha:a<W^6):Spec Tryz.prog 98 [LV .u64 (D 6 a)] ai [] (IsV (LV .u64 (D 6 (kp a).val))):=bR ha
theorem gG{a b:Nat}(ha:a<W^6)(hb:b<W^6):Spec Tryz.prog 49 [LV .u64 (D 6 a),LV .u64 (D 6 b)] ai [] (IsV (LV .u64 (D 6 (kp a+kp b).val))):=by
 rw[← Ly];exact tu ha hb
theorem dG{a b:Nat}(ha:a<W^6)(hb:b<W^6):Spec Tryz.prog 50 [LV .u64 (D 6 a),LV .u64 (D 6 b)] ai [] (IsV (LV .u64 (D 6 (kp a*kp b).val))):=by
 rw[← LA];exact Em ha hb
theorem kH{a b:Nat}(ha:a<W^6)(hb:b<W^6):Spec Tryz.prog 113 [LV .u64 (D 6 a),LV .u64 (D 6 b)] ai [] (IsV (LV .u64 (D 6 (kp a-kp b).val))):=by
 rw[← LC];exact og ha hb
theorem gH{a:Nat}(ha:a<W^6):Spec Tryz.prog 52 [LV .u64 (D 6 a)] ai [] (IsV (LV .u64 (D 6 (- kp a).val))):=by
 rw[← LB];exact tB ha
theorem D2{a:Nat}(ha:a<W^6):Spec Tryz.prog 111 [LV .u64 (D 6 a)] ai [] (IsV (LV .u64 (D 6 (Kf.inv (kp a)).val))):=by
 rw[← Lz];exact El ha
theorem D3{a:Nat}(ha:a<W^6)(s:Value)(xs:List Nat)(hx:Lt 18446744073709551616 xs)(hl:xs.length<65536):
  Spec Tryz.prog 95 [LV .u64 (D 6 a),s] (fun w=>Rd w s (xs.map (N .u64))) [] (IsV (LV .u64 (D 6 (kp a^V xs).val))):=by
 rw[← mG];exact Eo ha s xs hx hl
theorem gU(x y:Fq):Spec Tryz.prog 49 [LV .u64 (D 6 x.val),LV .u64 (D 6 y.val)] ai [] (IsV (LV .u64 (D 6 (x+y).val))):=by
 have:=gG (an x) (an y);rwa [dx,dx]at this
theorem dv(x y:Fq):Spec Tryz.prog 50 [LV .u64 (D 6 x.val),LV .u64 (D 6 y.val)] ai [] (IsV (LV .u64 (D 6 (x*y).val))):=by
 have:=dG (an x) (an y);rwa [dx,dx]at this
theorem lF(x y:Fq):Spec Tryz.prog 113 [LV .u64 (D 6 x.val),LV .u64 (D 6 y.val)] ai [] (IsV (LV .u64 (D 6 (x-y).val))):=by
 have:=kH (an x) (an y);rwa [dx,dx]at this
theorem jm(x:Fq):Spec Tryz.prog 52 [LV .u64 (D 6 x.val)] ai [] (IsV (LV .u64 (D 6 (-x).val))):=by
 have:=gH (an x);rwa [dx]at this
theorem lD(x:Fq):Spec Tryz.prog 111 [LV .u64 (D 6 x.val)] ai [] (IsV (LV .u64 (D 6 (Kf.inv x).val))):=by
 have:=D2 (an x);rwa [dx]at this
theorem zV(x:Fq):Spec Tryz.prog 98 [LV .u64 (D 6 x.val)] ai [] (IsV (LV .u64 (D 6 x.val))):=by
 have:=dc (an x);rwa [dx]at this
theorem gO(x y:Fq):(D 6 x.val=D 6 y.val)=(x=y):=by rw[wm (an x) (an y)];exact propext ⟨Fin.ext,fun h=>h ▸ rfl⟩
theorem CT:(0:Fq).val=0:=rfl
theorem z6:List.replicate 6 0=D 6 (0:Fq).val:=by rw[CT,nH]
theorem xM:([17185665809301629611,552535377879302143,15693976698673184137,15644892545385841839,10576397981472451381,468449654411884966]:List Nat)=D 6 ((p+1)/4):=by decide +kernel
theorem lE{a:Nat}(ha:a<W^6):Spec Tryz.prog 97 [LV .u64 (D 6 a)] ai [] (IsV (N .i64 (Kf.sg (kp a)))):=by
 refine ad Tryz.func97 rfl rfl rfl fun w _=>?_
 have hl0:=fun x=>ae 6 x
 have hla:=hl0 (kp a).val
 have hb:=va (an (kp a))
 repeat (first|refine y_4 (dc ha) ?_|rw[hb]|refine Z02 ?_|refine Z03 ?_|refine Z04 ?_|refine Z05 ?_|refine Z06 ?_|refine Z07 ?_|refine Z08 ?_|refine Z09 ?_|refine Z10 ?_|refine Z11 ?_|refine Z12 ?_|refine Z13 ?_|refine Z14 ?_|refine Z24 ?_|refine Z26 ?_|refine Z27 ?_|refine Z40 ?_|refine Z44 ?_|refine Z45 ?_|refine Z57 ?_|refine Z67 ?_|refine Z74 ?_|refine Z81 fun _=>?_)
 refine Ze1 fun _ hw=>aa hw SubW.nil ⟨?_,rfl⟩
 rfl
theorem vH:Spec Tryz.prog 94 [] ai [] (IsV (LV .u64 (D 6 ((p+1)/4)))):=by
 refine ad Tryz.func94 rfl rfl rfl fun w _=>?_
 repeat (first|(refine cJ ?_;intro _)|refine bk (kk:=.u64) (vs:=[17185665809301629611,552535377879302143,15693976698673184137,15644892545385841839,10576397981472451381,468449654411884966]) (by rfl) (by rfl) (by rfl) (by rfl) (by rfl) (by rfl) (by rfl) (by rfl) ?_|refine Z03 ?_|refine Z04 ?_|refine Z05 ?_|refine Z06 ?_|refine Z07 ?_|refine Z08 ?_|refine Z09 ?_|refine Z10 ?_|refine Z11 ?_|refine Z12 ?_|refine Z13 ?_|refine Z14 ?_|refine Z29 ?_|refine Z30 ?_|refine Z31 ?_|refine Z32 ?_|refine Z82 fun _=>?_)
 refine Zec fun _ hw=>aa hw SubW.nil ⟨?_,rfl⟩
 rw[← xM];rfl
theorem Ta{a b:Prop}(k:b)(h:Rm b→a:=by intro k;(first|refine Z03 ?_|refine Z04 ?_|refine Z05 ?_|refine Z06 ?_|refine Z07 ?_|refine Z08 ?_|refine Z09 ?_|refine Z10 ?_|refine Z11 ?_|refine Z12 ?_|refine Z13 ?_|refine Z14 ?_|refine Z17 ?_|refine Z18 ?_|refine Z24 ?_|refine Z26 ?_|refine Z27 ?_|refine Z29 ?_|refine Z30 ?_|refine Z31 ?_|refine Z32 ?_|refine Z67 ?_);exact k.h):a:=h ⟨k⟩
theorem Gu(x:Fq):Spec Tryz.prog 96 [LV .u64 (D 6 x.val)] ai [] (IsV (LV .u64 (D 6 (Kf.evn x).val))):=by
 refine ad Tryz.func96 rfl rfl rfl fun w _=>?_
 have hl0:=fun x=>ae 6 x
 have hs:=lE (an x)
 rw[dx]at hs
 repeat (first|(refine cJ ?_;intro _)|refine y_4 hs ?_|refine Ta ?_|refine Z81 fun _=>?_|refine Z82 fun _=>?_)
 refine ao (by rfl) (fun h=>?_) (fun h=>?_)
 ·have he:Kf.evn x = -x:=if_pos h
  repeat (first|refine y_4 (jm x) ?_|refine Ta ?_|refine Z81 fun _=>?_|refine Z82 fun _=>?_)
  refine Zec fun _ hw=>aa hw SubW.nil ⟨?_,rfl⟩
  rw[he]
 ·have he:Kf.evn x=x:=if_neg h
  repeat (first|refine Ta ?_|refine Z81 fun _=>?_|refine Z82 fun _=>?_)
  refine Zec fun _ hw=>aa hw SubW.nil ⟨?_,rfl⟩
  rw[he]
theorem U1(a:Nat):kp a^V (D 6 ((p+1)/4))=Kf.rt (kp a):=by
 rw[eR (by have:=lL;omega)];rfl
theorem ik{a b:Prop}(k:b)(h:Rm b→a:=by intro k;refine R.Zpb (by rfl) (by intro _ _ _;refine aq (v:=LV .u64 (List.replicate 6 0)) (by rfl) (by rfl) fun _=>?_;exact R.eM) ?_;exact k.h):a:=h ⟨k⟩
theorem aV{a b:Prop}(k:b)(h:Rm b→a:=by intro k;refine R.Zpn (by rfl) (by intro _ _ _;(first|refine Z81 fun _=>?_|refine Z82 fun _=>?_);exact R.Zpx) ?_;exact k.h):a:=h ⟨k⟩
theorem Tb{a b:Prop}(k:b)(h:Rm b→a:=by intro k;(first|refine Z01 ?_|refine Z02 ?_|refine Z03 ?_|refine Z04 ?_|refine Z05 ?_|refine Z06 ?_|refine Z07 ?_|refine Z08 ?_|refine Z09 ?_|refine Z10 ?_|refine Z11 ?_|refine Z12 ?_|refine Z13 ?_|refine Z14 ?_|refine Z24 ?_|refine Z26 ?_|refine Z27 ?_|refine Z29 ?_|refine Z30 ?_|refine Z31 ?_|refine Z32 ?_|refine Z62 ?_|refine Z63 ?_|refine Z67 ?_|refine Z77 ?_|refine Z78 ?_|refine Z79 ?_);exact k.h):a:=h ⟨k⟩
theorem ul{a b:Prop}(k:b)(h:Rm b→a:=by intro k;refine R.Zpp (by rfl) (by intro _ _ _;(first|refine VY ?_);exact Zq) ?_;exact k.h):a:=h ⟨k⟩
theorem zW{a:Nat}(ha:a<W^6):Spec Tryz.prog 48 [LV .u64 (D 6 a)] ai [] (IsV (.tuple [LV .u64 (D 6 (Kf.K2.fsq (kp a)).1.val),.bool (Kf.K2.fsq (kp a)).2].toArray)):=by
 refine ad Tryz.func48 rfl rfl rfl fun w _=>?_
 have hl0:=fun x=>ae 6 x
 have hlq:=hl0 ((p+1)/4)
 have hpw:=fun s=>D3 ha s (D 6 ((p+1)/4)) (dr _ _) (by omega)
 rw[U1]at hpw
 repeat (first|(refine cJ ?_;intro _)|refine ah (by rfl) (by rfl) (by rfl) (vH) (fun _ _=>trivial) (by rfl) ?_|refine Z01 ?_|refine Z02 ?_|refine Z03 ?_|refine Z04 ?_|refine Z05 ?_|refine Z06 ?_|refine Z07 ?_|refine Z08 ?_|refine Z09 ?_|refine Z10 ?_|refine Z11 ?_|refine Z12 ?_|refine Z13 ?_|refine Z14 ?_|refine Z24 ?_|refine Z26 ?_|refine Z27 ?_|refine Z29 ?_|refine Z30 ?_|refine Z31 ?_|refine Z32 ?_|refine Z62 ?_|refine Z63 ?_|refine Z67 ?_|refine Z77 ?_|refine Z78 ?_|refine Z79 ?_|refine Z81 fun _=>?_|refine Z82 fun _=>?_)
 refine R.af [0,1,2,3,4] (by rfl) ?_
 repeat (first|(refine R.Zpf (by rfl) (by intro _ _ _;(first|refine Z01 ?_|refine Z02 ?_|refine Z62 ?_|refine Z63 ?_|refine Z77 ?_|refine Z78 ?_|refine Z79 ?_);exact Zq) ?_)|refine ul ?_|(refine R.Zpp (by rfl) (by intro _ _ _;refine ah (by rfl) (by rfl) (by rfl) (hpw _) (RdW.arrAll (m:=6) fd hlq) (by rfl) ?_;exact Zq) ?_)|refine aA ?_|(refine ik ?_;intro _)|(refine aV ?_;intro _))
 refine R.Zp0 ?_
 repeat (first|refine Tb ?_|refine Z81 fun _=>?_|refine Z82 fun _=>?_)
 refine au (by rfl) ?_
 repeat (first|(refine Zqf (by intro _ _ _;(first|refine Z01 ?_|refine Z02 ?_|refine Z62 ?_|refine Z63 ?_|refine Z77 ?_|refine Z78 ?_|refine Z79 ?_);exact Zq) ?_)|refine bS (dv (Kf.rt (kp a)) (Kf.rt (kp a))) ?_|refine bS (dc ha) ?_|refine un ?_)
 refine Zq0 ?_ (by kernel_rfl)
 repeat (first|refine Tb ?_|refine Z81 fun _=>?_|refine Z82 fun _=>?_)
 by_cases h2:Kf.rt (kp a)*Kf.rt (kp a)=kp a
 ·have hq:Kf.K2.fsq (kp a)=(Kf.evn (Kf.rt (kp a)),true):=if_pos h2
  have hb:(!decide (D 6 (Kf.rt (kp a)*Kf.rt (kp a)).val=D 6 (kp a).val))=false:=by rw[h2];simp
  rw[hq,hb]
  have hle:=hl0 (Kf.evn (Kf.rt (kp a))).val
  repeat (first|refine y_4 (Gu (Kf.rt (kp a))) ?_|refine Tb ?_|refine Z81 fun _=>?_|refine Z82 fun _=>?_)
  refine aJ (by rfl) (by rfl) (by rfl) fd (by rfl) (by rfl) (by first | with_reducible assumption | (simp[*];done)) fun _ hw=>aa hw SubW.nil ⟨?_,rfl⟩
  rfl
 ·have hq:Kf.K2.fsq (kp a)=(0,false):=if_neg h2
  have hb:(!decide (D 6 (Kf.rt (kp a)*Kf.rt (kp a)).val=D 6 (kp a).val))=true:=by simp[gO,h2]
  rw[hq,hb]
  repeat (first|refine VX ?_|refine Z01 ?_|refine Z02 ?_|refine Z03 ?_|refine Z04 ?_|refine Z05 ?_|refine Z06 ?_|refine Z07 ?_|refine Z08 ?_|refine Z09 ?_|refine Z10 ?_|refine Z11 ?_|refine Z12 ?_|refine Z13 ?_|refine Z14 ?_|refine Z24 ?_|refine Z26 ?_|refine Z27 ?_|refine Z29 ?_|refine Z30 ?_|refine Z31 ?_|refine Z32 ?_|refine Z62 ?_|refine Z63 ?_|refine Z67 ?_|refine Z77 ?_|refine Z78 ?_|refine Z79 ?_|refine Z81 fun _=>?_|refine Z82 fun _=>?_)
  refine aJ (by rfl) (by rfl) (by rfl) fd (by rfl) (by rfl) (by first | with_reducible assumption | (simp[*];done)) fun _ hw=>aa hw SubW.nil ⟨?_,rfl⟩
  rfl
theorem Ii(A B:Nat):decide (Int.ofNat 0<vq A B)=decide (B<A):=by
 rcases Nat.lt_trichotomy A B with h | h | h
 ·rw[pJ h,decide_eq_false (by omega:¬B<A)];rfl
 ·rw[vu h,decide_eq_false (by omega:¬B<A)];rfl
 ·rw[pI h,decide_eq_true h];rfl
theorem Tc{a b:Prop}(k:b)(h:Rm b→a:=by intro k;(first|refine Z02 ?_|refine Z03 ?_|refine Z04 ?_|refine Z05 ?_|refine Z06 ?_|refine Z07 ?_|refine Z08 ?_|refine Z09 ?_|refine Z10 ?_|refine Z11 ?_|refine Z12 ?_|refine Z13 ?_|refine Z14 ?_|refine Z17 ?_|refine Z18 ?_|refine Z24 ?_|refine Z26 ?_|refine Z27 ?_|refine Z29 ?_|refine Z30 ?_|refine Z31 ?_|refine Z32 ?_|refine Z62 ?_|refine Z63 ?_|refine Z67 ?_);exact k.h):a:=h ⟨k⟩
theorem Td{a b:Prop}(k:b)(h:Rm b→a:=by intro k;(first|refine Z02 ?_|refine Z17 ?_|refine Z18 ?_|refine Z62 ?_|refine Z63 ?_);exact k.h):a:=h ⟨k⟩
theorem nM{a:Nat}(ha:a<W^6):Spec Tryz.prog 51 [LV .u64 (D 6 a)] ai [] (IsV (.bool (decide ((- kp a).val<(kp a).val)))):=by
 refine ad Tryz.func51 rfl rfl rfl fun w _=>?_
 have hl0:=fun x=>ae 6 x
 have hlx:=hl0 (kp a).val
 have hly:=hl0 (- kp a).val
 have hv1:=eR (an (kp a))
 have hv2:=eR (an (- kp a))
 repeat (first|(refine cJ ?_;intro _)|refine Tc ?_|refine Z81 fun _=>?_|refine Z82 fun _=>?_)
 refine R.af [0,1,2,3,4,5,6,7] (by rfl) ?_
 repeat (first|(refine R.Zpf (by rfl) (by intro _ _ _;(first|refine Td ?_);exact Zq) ?_)|refine ul ?_|refine ag (dc ha) ?_|refine ag (gH ha) ?_|refine aA ?_|(refine R.pc (by rfl) (by rfl) (by intro _ _ _;refine aq (v:=LV .u64 (List.replicate 6 0)) (by rfl) (by rfl) fun _=>?_;exact R.eM) (by intro _ _ _;refine aq (v:=LV .u64 (List.replicate 6 0)) (by rfl) (by rfl) fun _=>?_;exact R.eM) (fun _=>?_) (fun _=>?_))|(refine ik ?_;intro _)|(refine aV ?_;intro _))
 all_goals
  repeat (first|(refine R.Zpf (by rfl) (by intro _ _ _;(first|refine Td ?_);exact Zq) ?_)|refine ul ?_|refine ag (dc ha) ?_|refine ag (gH ha) ?_|refine aA ?_|(refine R.pc (by rfl) (by rfl) (by intro _ _ _;refine aq (v:=LV .u64 (List.replicate 6 0)) (by rfl) (by rfl) fun _=>?_;exact R.eM) (by intro _ _ _;refine aq (v:=LV .u64 (List.replicate 6 0)) (by rfl) (by rfl) fun _=>?_;exact R.eM) (fun _=>?_) (fun _=>?_))|(refine ik ?_;intro _)|(refine aV ?_;intro _))
 all_goals refine R.Zp0 ?_
 all_goals
  repeat (first|refine Tc ?_|refine Z81 fun _=>?_|refine Z82 fun _=>?_)
  refine au (by rfl) ?_
  repeat (first|(refine Zqf (by intro _ _ _;(first|refine Td ?_);exact Zq) ?_)|(refine Zqp (by intro _ _ _;(refine ah (by rfl) (by rfl) (by rfl) (mm _ _ (D 6 (kp a).val) (D 6 (- kp a).val) (dr _ _) (dr _ _) (by omega) (by omega)) (fun w hw=>⟨RdW.arrAll (m:=6) fd hlx w hw,RdW.arrAll (m:=6) fd hly w hw⟩) (by rfl) ?_;rw[hv1,hv2]);exact Zq) ?_)|refine un ?_)
  refine Zq0 ?_ (by kernel_rfl)
  rw[Ii]
  repeat (first|refine Tc ?_|refine Z81 fun _=>?_|refine Z82 fun _=>?_)
  refine Ze1 fun _ hw=>aa hw SubW.nil ⟨?_,rfl⟩
  rfl
end
section
attribute [local irreducible] Code.wp wpList Af bodyPost L.Go ab
open Num
attribute [local simp] ae
abbrev F2:=Kf.K2 p
abbrev k2(a b:Nat):F2:=⟨kp a,kp b⟩
abbrev E2(x:F2):List Nat:=D 6 x.re.val++D 6 x.im.val
theorem bq(x:F2):k2 x.re.val x.im.val=x:=by unfold k2;rw[dx,dx]
theorem ak(x:F2):(E2 x).length=12:=by simp
theorem bG{a b:Prop}(k:b)(h:Rm b→a:=by intro k;refine aq (v:=LV .u64 (List.replicate 12 0)) (by rfl) (by rfl) ?_;exact k.h):a:=h ⟨k⟩
theorem bI{a b:Prop}(k:b)(h:Rm b→a:=by intro k;refine ov (by rfl) (by first | exact(show _=some (0,6)from rfl) | exact(show _=some (6,6)from rfl) | exact(show _=some (0,12)from rfl) | exact(show _=some (12,12)from rfl) | exact(show _=some (24,1)from rfl)) (by rfl) (by rfl) ?_;exact k.h):a:=h ⟨k⟩
theorem eO{a b:Prop}(k:b)(h:Rm b→a:=by intro k;refine cz (by rfl) (by rfl) (by rfl) (by rfl) (by simp;done) (by simp;done) (by rfl) ?_;exact k.h):a:=h ⟨k⟩
theorem nF{a b:Prop}(k:b)(h:Rm b→a:=by intro k;refine Zqp (by intro _ _ _;(refine bH (by rfl) fd (by rfl) (by rfl) (by first | (refine ab.l ?_;(simp;done)) | (refine ab.r ?_ ?_ <;> (simp;done)) | (refine ab.all ?_;(simp;done))) (by rfl) ?_);exact Zq) ?_;exact k.h):a:=h ⟨k⟩
theorem Vx{a b:Prop}(k:b)(h:Rm b→a:=by intro k;(first|refine bI ?_|refine eO ?_);exact k.h):a:=h ⟨k⟩
theorem VI{a b:Prop}(k:b)(h:Rm b→a:=by intro k;refine Zqf (by intro _ _ _;(first|refine Vx ?_);exact Zq) ?_;exact k.h):a:=h ⟨k⟩
theorem si{a b:Prop}(k:b)(h:Rm b→a:=by intro k;(first|refine VI ?_|refine nF ?_);exact k.h):a:=h ⟨k⟩
theorem kM{a b:Nat}(ha:a<W^6)(hb:b<W^6):Spec Tryz.prog 108 [LV .u64 (D 6 a++D 6 b)] ai [] (IsV (LV .u64 (E2 (k2 a b)))):=by
 refine ad Tryz.func108 rfl rfl rfl fun w _=>?_
 have hl0:=fun x=>ae 6 x
 repeat (first|(refine bG ?_;intro _)|refine bU ?_|refine Z81 fun _=>?_|refine Z82 fun _=>?_)
 refine au (by rfl) ?_
 repeat (first|refine si ?_|refine bS (dc ha) ?_|refine bS (dc hb) ?_|refine ft ?_)
 refine Zq0 ?_ (by kernel_rfl)
 repeat (first|refine bU ?_|refine Z81 fun _=>?_|refine Z82 fun _=>?_)
 refine Zec fun _ hw=>aa hw SubW.nil ⟨?_,rfl⟩
 rfl
theorem EH{a b e f:Nat}(ha:a<W^6)(hb:b<W^6)(he:e<W^6)(hf:f<W^6):Spec Tryz.prog 56 [LV .u64 (D 6 a++D 6 b),LV .u64 (D 6 e++D 6 f)] ai [] (IsV (LV .u64 (E2 (Kf.K2.add (k2 a b) (k2 e f))))):=by
 refine ad Tryz.func56 rfl rfl rfl fun w _=>?_
 have hl0:=fun x=>ae 6 x
 repeat (first|(refine bG ?_;intro _)|refine bU ?_|refine Z81 fun _=>?_|refine Z82 fun _=>?_)
 refine au (by rfl) ?_
 repeat (first|refine si ?_|refine bS (gG ha he) ?_|refine bS (gG hb hf) ?_|refine ft ?_)
 refine Zq0 ?_ (by kernel_rfl)
 repeat (first|refine bU ?_|refine Z81 fun _=>?_|refine Z82 fun _=>?_)
 refine Zec fun _ hw=>aa hw SubW.nil ⟨?_,rfl⟩
 rfl
theorem tI{a b:Nat}(ha:a<W^6)(hb:b<W^6):Spec Tryz.prog 59 [LV .u64 (D 6 a++D 6 b)] ai [] (IsV (LV .u64 (E2 (Kf.K2.neg (k2 a b))))):=by
 refine ad Tryz.func59 rfl rfl rfl fun w _=>?_
 have hl0:=fun x=>ae 6 x
 repeat (first|(refine bG ?_;intro _)|refine bU ?_|refine Z81 fun _=>?_|refine Z82 fun _=>?_)
 refine au (by rfl) ?_
 repeat (first|refine si ?_|refine bS (gH ha) ?_|refine bS (gH hb) ?_|refine ft ?_)
 refine Zq0 ?_ (by kernel_rfl)
 repeat (first|refine bU ?_|refine Z81 fun _=>?_|refine Z82 fun _=>?_)
 refine Zec fun _ hw=>aa hw SubW.nil ⟨?_,rfl⟩
 rfl
theorem EP{a b e f:Nat}(ha:a<W^6)(hb:b<W^6)(he:e<W^6)(hf:f<W^6):Spec Tryz.prog 63 [LV .u64 (D 6 a++D 6 b),LV .u64 (D 6 e++D 6 f)] ai [] (IsV (LV .u64 (E2 (Kf.K2.sub (k2 a b) (k2 e f))))):=by
 refine ad Tryz.func63 rfl rfl rfl fun w _=>?_
 have hl0:=fun x=>ae 6 x
 repeat (first|(refine bG ?_;intro _)|refine bU ?_|refine Z81 fun _=>?_|refine Z82 fun _=>?_)
 refine au (by rfl) ?_
 repeat (first|refine si ?_|refine bS (kH ha he) ?_|refine bS (kH hb hf) ?_|refine ft ?_)
 refine Zq0 ?_ (by kernel_rfl)
 repeat (first|refine bU ?_|refine Z81 fun _=>?_|refine Z82 fun _=>?_)
 refine Zec fun _ hw=>aa hw SubW.nil ⟨?_,rfl⟩
 rfl
theorem Jw{a b:Nat}(ha:a<W^6)(hb:b<W^6):Spec Tryz.prog 165 [LV .u64 (D 6 a++D 6 b)] ai [] (IsV (LV .u64 (E2 ⟨kp a-kp b,kp a+kp b⟩))):=by
 refine ad Tryz.func165 rfl rfl rfl fun w _=>?_
 have hl0:=fun x=>ae 6 x
 repeat (first|(refine bG ?_;intro _)|refine bU ?_|refine Z81 fun _=>?_|refine Z82 fun _=>?_)
 refine au (by rfl) ?_
 repeat (first|refine si ?_|refine bS (kH ha hb) ?_|refine bS (gG ha hb) ?_|refine ft ?_)
 refine Zq0 ?_ (by kernel_rfl)
 repeat (first|refine bU ?_|refine Z81 fun _=>?_|refine Z82 fun _=>?_)
 refine Zec fun _ hw=>aa hw SubW.nil ⟨?_,rfl⟩
 rfl
theorem rA{a b:Nat}(ha:a<W^6)(hb:b<W^6):Spec Tryz.prog 118 [LV .u64 (D 6 a++D 6 b)] ai [] (IsV (LV .u64 (E2 (Kf.K2.conj (k2 a b))))):=by
 refine ad Tryz.func118 rfl rfl rfl fun w _=>?_
 have hl0:=fun x=>ae 6 x
 repeat (first|(refine bG ?_;intro _)|refine bU ?_|refine Z81 fun _=>?_|refine Z82 fun _=>?_)
 refine au (by rfl) ?_
 repeat (first|refine si ?_|refine bS (dc ha) ?_|refine bS (gH hb) ?_|refine ft ?_)
 refine Zq0 ?_ (by kernel_rfl)
 repeat (first|refine bU ?_|refine Z81 fun _=>?_|refine Z82 fun _=>?_)
 refine Zec fun _ hw=>aa hw SubW.nil ⟨?_,rfl⟩
 rfl
theorem x6{a b e:Nat}(ha:a<W^6)(hb:b<W^6)(he:e<W^6):Spec Tryz.prog 117 [LV .u64 (D 6 a++D 6 b),LV .u64 (D 6 e)] ai [] (IsV (LV .u64 (E2 (Kf.K2.gp (k2 a b) (kp e))))):=by
 refine ad Tryz.func117 rfl rfl rfl fun w _=>?_
 have hl0:=fun x=>ae 6 x
 repeat (first|(refine bG ?_;intro _)|refine bU ?_|refine Z81 fun _=>?_|refine Z82 fun _=>?_)
 refine au (by rfl) ?_
 repeat (first|refine si ?_|refine bS (dG ha he) ?_|refine bS (dG hb he) ?_|refine ft ?_)
 refine Zq0 ?_ (by kernel_rfl)
 repeat (first|refine bU ?_|refine Z81 fun _=>?_|refine Z82 fun _=>?_)
 refine Zec fun _ hw=>aa hw SubW.nil ⟨?_,rfl⟩
 rfl
theorem EN(u v a b e f:Nat)(ha:a<W^6)(hb:b<W^6)(he:e<W^6)(hf:f<W^6):Spec Tryz.prog 112 [pt u 0,pt v 0] (fun w=>eL w u (LV .u64 (D 6 a++D 6 b)) 34∧eL w v (LV .u64 (D 6 e++D 6 f)) 34) [] (IsV (LV .u64 (D 6 ((kp a+kp b)*(kp e+kp f)).val))):=by
 refine ad Tryz.func112 rfl rfl rfl fun w hr=>?_
 have h1:=OldB.mk0 hr.1
 have h2:=OldB.mk0 hr.2
 have hl0:=fun x=>ae 6 x
 repeat (first|(refine cJ ?_;intro _)|refine bU ?_|refine Z82 fun _=>?_)
 refine au (by rfl) ?_
 repeat (first|(refine Zqf (by intro _ _ _;(first|(refine en (by rfl) ((h1).shift (by assumption)) (by rfl) (by rfl) (by first | (refine ab.l ?_;(simp;done)) | (refine ab.r ?_ ?_ <;> (simp;done)) | (refine ab.all ?_;(simp;done))) (by rfl) ?_)|(refine en (by rfl) ((h2).shift (by assumption)) (by rfl) (by rfl) (by first | (refine ab.l ?_;(simp;done)) | (refine ab.r ?_ ?_ <;> (simp;done)) | (refine ab.all ?_;(simp;done))) (by rfl) ?_)|refine bI ?_);exact Zq) ?_)|refine nF ?_|refine bS (gG ha hb) ?_|refine bS (gG he hf) ?_|refine bS (dv (kp a+kp b) (kp e+kp f)) ?_|refine ft ?_)
 refine Zq0 ?_ (by kernel_rfl)
 repeat (first|refine bU ?_|refine Z82 fun _=>?_)
 refine Zec fun _ hw=>aa hw SubW.nil ⟨?_,rfl⟩
 rfl
theorem zf{a b:Prop}(k:b)(h:Rm b→a:=by intro k;(first|refine Z01 ?_|refine Z02 ?_|refine Z03 ?_|refine Z04 ?_|refine Z05 ?_|refine Z06 ?_|refine Z07 ?_|refine Z08 ?_|refine Z09 ?_|refine Z10 ?_|refine Z11 ?_|refine Z12 ?_|refine Z13 ?_|refine Z14 ?_|refine Z24 ?_|refine Z26 ?_|refine Z27 ?_|refine Z29 ?_|refine Z30 ?_|refine Z31 ?_|refine Z32 ?_|refine Z48 ?_|refine Z67 ?_);exact k.h):a:=h ⟨k⟩
theorem cw{a b:Prop}(k:b)(h:Rm b→a:=by intro k;refine R.Zpp (by rfl) (by intro _ _ _;(refine bH (by rfl) fd (by rfl) (by rfl) (by first | (refine ab.l ?_;(simp;done)) | (refine ab.r ?_ ?_ <;> (simp;done)) | (refine ab.all ?_;(simp;done))) (by rfl) ?_);exact Zq) ?_;exact k.h):a:=h ⟨k⟩
theorem Kg{a b:Prop}(k:b)(h:Rm b→a:=by intro k;(first|refine bI ?_|refine eO ?_|refine Z01 ?_|refine Z02 ?_|refine Z48 ?_);exact k.h):a:=h ⟨k⟩
theorem aL{a b:Prop}(k:b)(h:Rm b→a:=by intro k;refine R.Zpp (by rfl) (by intro _ _ _;(first|refine y_7 ?_);exact Zq) ?_;exact k.h):a:=h ⟨k⟩
set_option maxHeartbeats 4000000 in
theorem gN{a b e f:Nat}(ha:a<W^6)(hb:b<W^6)(he:e<W^6)(hf:f<W^6):Spec Tryz.prog 57 [LV .u64 (D 6 a++D 6 b),LV .u64 (D 6 e++D 6 f)] ai [] (IsV (LV .u64 (E2 (Kf.K2.mul (k2 a b) (k2 e f))))):=by
 refine ad Tryz.func57 rfl rfl rfl fun w _=>?_
 have hl0:=fun x=>ae 6 x
 have hmix:(kp a+kp b)*(kp e+kp f)-(kp a*kp e+kp b*kp f)=kp a*kp f+kp b*kp e:=by grind
 repeat (first|(refine bG ?_;intro _)|refine zf ?_|refine Z81 fun _=>?_|refine Z82 fun _=>?_)
 refine R.af [0,1,2,3,4,5,6,7,8,9,10,11,12,13] (by rfl) ?_
 repeat (first|(refine R.Zpf (by rfl) (by intro _ _ _;(first|refine Kg ?_);exact Zq) ?_)|refine aL ?_|refine cw ?_|refine ag (dG ha he) ?_|refine ag (dG hb hf) ?_|refine aA ?_|(refine R.pc (by rfl) (by rfl) (by intro _ _ _;refine aq (v:=LV .u64 (List.replicate 6 0)) (by rfl) (by rfl) fun _=>?_;exact R.eM) (by intro _ _ _;refine aq (v:=LV .u64 (List.replicate 6 0)) (by rfl) (by rfl) fun _=>?_;exact R.eM) (fun _=>?_) (fun _=>?_))|(refine ik ?_;intro _)|(refine aV ?_;intro _))
 all_goals
  repeat (first|(refine R.Zpf (by rfl) (by intro _ _ _;(first|refine Kg ?_);exact Zq) ?_)|refine aL ?_|refine cw ?_|refine ag (dG ha he) ?_|refine ag (dG hb hf) ?_|refine aA ?_|(refine R.pc (by rfl) (by rfl) (by intro _ _ _;refine aq (v:=LV .u64 (List.replicate 6 0)) (by rfl) (by rfl) fun _=>?_;exact R.eM) (by intro _ _ _;refine aq (v:=LV .u64 (List.replicate 6 0)) (by rfl) (by rfl) fun _=>?_;exact R.eM) (fun _=>?_) (fun _=>?_))|(refine ik ?_;intro _)|(refine aV ?_;intro _))
 all_goals refine R.Zp0 ?_
 all_goals
  repeat (first|refine zf ?_|refine Z81 fun _=>?_|refine Z82 fun _=>?_)
  refine au (by rfl) ?_
  repeat (first|(refine Zqf (by intro _ _ _;(first|refine Kg ?_);exact Zq) ?_)|refine nF ?_|refine bS (lF (kp a*kp e) (kp b*kp f)) ?_|refine bS (gU (kp a*kp e) (kp b*kp f)) ?_|(refine Zqp (by intro _ _ _;refine ah (by rfl) (by rfl) (by rfl) (EN _ _ a b e f ha hb he hf) (fun w hw=>⟨eL.own fd w hw,eL.own fd w hw⟩) (by rfl) ?_;exact Zq) ?_)|(refine Zqp (by intro _ _ _;(refine ah (by rfl) (by rfl) (by rfl) (lF ((kp a+kp b)*(kp e+kp f)) (kp a*kp e+kp b*kp f)) (fun _ _=>trivial) (by rfl) ?_;rw[hmix]);exact Zq) ?_)|refine ft ?_)
  refine Zq0 ?_ (by kernel_rfl)
  repeat (first|refine zf ?_|refine Z81 fun _=>?_|refine Z82 fun _=>?_)
  refine Zec fun _ hw=>aa hw SubW.nil ⟨?_,rfl⟩
  rfl
theorem aF(x y:F2):Spec Tryz.prog 57 [LV .u64 (E2 x),LV .u64 (E2 y)] ai [] (IsV (LV .u64 (E2 (Kf.K2.mul x y)))):=by
 have:=gN (an x.re) (an x.im) (an y.re) (an y.im);rwa [bq,bq]at this
theorem cV(x y:F2):Spec Tryz.prog 56 [LV .u64 (E2 x),LV .u64 (E2 y)] ai [] (IsV (LV .u64 (E2 (Kf.K2.add x y)))):=by
 have:=EH (an x.re) (an x.im) (an y.re) (an y.im);rwa [bq,bq]at this
theorem bE(x y:F2):Spec Tryz.prog 63 [LV .u64 (E2 x),LV .u64 (E2 y)] ai [] (IsV (LV .u64 (E2 (Kf.K2.sub x y)))):=by
 have:=EP (an x.re) (an x.im) (an y.re) (an y.im);rwa [bq,bq]at this
theorem oV(x:F2):Spec Tryz.prog 59 [LV .u64 (E2 x)] ai [] (IsV (LV .u64 (E2 (Kf.K2.neg x)))):=by
 have:=tI (an x.re) (an x.im);rwa [bq]at this
theorem Cy(x:F2):Spec Tryz.prog 108 [LV .u64 (E2 x)] ai [] (IsV (LV .u64 (E2 x))):=by
 have:=kM (an x.re) (an x.im);rwa [bq]at this
theorem Sb(x:F2):Spec Tryz.prog 118 [LV .u64 (E2 x)] ai [] (IsV (LV .u64 (E2 (Kf.K2.conj x)))):=by
 have:=rA (an x.re) (an x.im);rwa [bq]at this
theorem WR(x:F2):Spec Tryz.prog 165 [LV .u64 (E2 x)] ai [] (IsV (LV .u64 (E2 ⟨x.re-x.im,x.re+x.im⟩))):=by
 have:=Jw (an x.re) (an x.im);rwa [dx,dx]at this
theorem Cz(x:F2)(k:Fq):Spec Tryz.prog 117 [LV .u64 (E2 x),LV .u64 (D 6 k.val)] ai [] (IsV (LV .u64 (E2 (Kf.K2.gp x k)))):=by
 have:=x6 (an x.re) (an x.im) (an k);rwa [bq,dx]at this
theorem jU(x y:F2):(decide (D 6 x.re.val=D 6 y.re.val)&&decide (D 6 x.im.val=D 6 y.im.val))=decide (x=y):=by
 rw[← Bool.decide_and]
 refine decide_eq_decide.2 ?_
 rw[gO,gO]
 exact⟨fun h=>Kf.K2.ext' h.1 h.2,fun h=>h ▸ ⟨rfl,rfl⟩⟩
set_option maxHeartbeats 4000000 in
theorem EM{a b:Nat}(ha:a<W^6)(hb:b<W^6):Spec Tryz.prog 64 [LV .u64 (D 6 a++D 6 b)] ai [] (IsV (LV .u64 (E2 (Kf.K2.inv (k2 a b))))):=by
 refine ad Tryz.func64 rfl rfl rfl fun w _=>?_
 have hl0:=fun x=>ae 6 x
 repeat (first|(refine bG ?_;intro _)|refine bU ?_|refine Z81 fun _=>?_|refine Z82 fun _=>?_)
 refine R.af [0,1,2,3,4,5,6,7,8,9,10,11,12] (by rfl) ?_
 repeat (first|(refine R.Zpf (by rfl) (by intro _ _ _;(first|refine bI ?_);exact Zq) ?_)|refine aL ?_|refine cw ?_|refine ag (dG ha ha) ?_|refine ag (dG hb hb) ?_|refine ag (gU (kp a*kp a) (kp b*kp b)) ?_|refine aA ?_|(refine ik ?_;intro _)|(refine aV ?_;intro _))
 refine R.Zp0 ?_
 repeat (first|refine bU ?_|refine Z81 fun _=>?_|refine Z82 fun _=>?_)
 refine au (by rfl) ?_
 repeat (first|(refine Zqf (by intro _ _ _;(first|refine bI ?_);exact Zq) ?_)|refine nF ?_|refine bS (rA ha hb) ?_|refine bS (lD (kp a*kp a+kp b*kp b)) ?_|refine bS (Cz (Kf.K2.conj (k2 a b)) (Kf.inv (kp a*kp a+kp b*kp b))) ?_|refine ft ?_)
 refine Zq0 ?_ (by kernel_rfl)
 repeat (first|refine bU ?_|refine Z81 fun _=>?_|refine Z82 fun _=>?_)
 refine Zec fun _ hw=>aa hw SubW.nil ⟨?_,rfl⟩
 rfl
theorem kq(x:F2):Spec Tryz.prog 64 [LV .u64 (E2 x)] ai [] (IsV (LV .u64 (E2 (Kf.K2.inv x)))):=by
 have:=EM (an x.re) (an x.im);rwa [bq]at this
abbrev hv:Fq:=Kf.K2.hv p
theorem Hg:([15924587544893707606,1105070755758604287,12941209323636816658,12843041017062132063,2706051889235351147,936899308823769933]:List Nat)=D 6 ((p+1)/2%p):=by decide +kernel
theorem qI:Spec Tryz.prog 110 [] ai [] (IsV (LV .u64 (D 6 hv.val))):=by
 refine ad Tryz.func110 rfl rfl rfl fun w _=>?_
 repeat (first|(refine cJ ?_;intro _)|refine bk (kk:=.u64) (vs:=[15924587544893707606,1105070755758604287,12941209323636816658,12843041017062132063,2706051889235351147,936899308823769933]) (by rfl) (by rfl) (by rfl) (by rfl) (by rfl) (by rfl) (by rfl) (by rfl) ?_|refine Z03 ?_|refine Z04 ?_|refine Z05 ?_|refine Z06 ?_|refine Z07 ?_|refine Z08 ?_|refine Z09 ?_|refine Z10 ?_|refine Z11 ?_|refine Z12 ?_|refine Z13 ?_|refine Z14 ?_|refine Z29 ?_|refine Z30 ?_|refine Z31 ?_|refine Z32 ?_|refine Z82 fun _=>?_)
 refine Zec fun _ hw=>aa hw SubW.nil ⟨?_,rfl⟩
 rw[show hv.val=(p+1)/2%p from rfl,← Hg];rfl
theorem Tg:([]++List.replicate (6-([]:List Nat).length) 0:List Nat)=D 6 (0:Fq).val:=by rw[CT];exact PO
theorem uT(x:Fq):Spec Tryz.prog 48 [LV .u64 (D 6 x.val)] ai [] (IsV (.tuple [LV .u64 (D 6 (Kf.K2.fsq x).1.val),.bool (Kf.K2.fsq x).2].toArray)):=by
 have:=zW (an x);rwa [dx]at this
def kU(x:Fq):Bool:=decide ((-x).val<x.val)
def io(x:F2):Bool:=if x.im=0 then kU x.re else kU x.im
theorem wg{a b:Prop}(k:b)(h:Rm b→a:=by intro k;refine bk (kk:=.u64) (vs:=[]) (by rfl) (by rfl) (by rfl) (by rfl) (by rfl) (by rfl) (by rfl) (by rfl) ?_;rw[Tg];exact k.h):a:=h ⟨k⟩
theorem eP{a b:Prop}(k:b)(h:Rm b→a:=by intro k;refine bH (by rfl) fd (by rfl) (by rfl) (by first | (refine ab.l ?_;(simp;done)) | (refine ab.r ?_ ?_ <;> (simp;done)) | (refine ab.all ?_;(simp;done))) (by rfl) ?_;exact k.h):a:=h ⟨k⟩
theorem fm{a b:Prop}(k:b)(h:Rm b→a:=by intro k;refine jD (by rfl) (by rfl) (by rfl) (by rfl) ?_;exact k.h):a:=h ⟨k⟩
theorem fI{a b:Prop}(k:b)(h:Rm b→a:=by intro k;refine Jg (by rfl) (by rfl) (by rfl) (by kernel_rfl) (by rfl) (by rfl) (by rfl) (by rfl) (by rfl) (by rfl) (by rfl) (by rfl) (by rfl) (by rfl) (by kernel_rfl) (by simp;done) (by simp;done) (by simp;done) (by simp;done) (by rfl) ?_;exact k.h):a:=h ⟨k⟩
theorem Fx{a b:Prop}(k:b)(h:Rm b→a:=by intro k;(first|refine Z02 ?_|refine Z03 ?_|refine Z04 ?_|refine Z05 ?_|refine Z06 ?_|refine Z07 ?_|refine Z08 ?_|refine Z09 ?_|refine Z10 ?_|refine Z11 ?_|refine Z12 ?_|refine Z13 ?_|refine Z14 ?_|refine Z24 ?_|refine Z26 ?_|refine Z27 ?_|refine Z67 ?_|refine Z77 ?_|refine Z78 ?_|refine Z79 ?_);exact k.h):a:=h ⟨k⟩
theorem Df{a b:Prop}(k:b)(h:Rm b→a:=by intro k;(first|refine bI ?_|refine eP ?_|refine fm ?_|refine fI ?_);exact k.h):a:=h ⟨k⟩
theorem rF{a b:Nat}(ha:a<W^6)(hb:b<W^6):Spec Tryz.prog 87 [LV .u64 (D 6 a++D 6 b)] ai [] (IsV (N .i64 (Kf.K2.sgn (k2 a b)))):=by
 refine ad Tryz.func87 rfl rfl rfl fun w _=>?_
 have hl0:=fun x=>ae 6 x
 repeat (first|refine wg ?_|refine bI ?_|refine eP ?_|refine fm ?_|refine fI ?_|refine y_4 (dc ha) ?_|refine Fx ?_|refine Z81 fun _=>?_)
 refine ao (by rfl) (fun h=>?_) (fun h=>?_)
 ·rw[gO]at h
  have hs:Kf.K2.sgn (k2 a b)=Kf.sg (kp b):=if_pos h
  repeat (first|refine Df ?_|refine y_4 (lE hb) ?_|refine Fx ?_|refine Z81 fun _=>?_)
  refine Ze1 fun _ hw=>aa hw SubW.nil ⟨?_,rfl⟩
  rw[hs]
 ·rw[gO]at h
  have hs:Kf.K2.sgn (k2 a b)=Kf.sg (kp a):=if_neg h
  repeat (first|refine Df ?_|refine y_4 (lE ha) ?_|refine Fx ?_|refine Z81 fun _=>?_)
  refine Ze1 fun _ hw=>aa hw SubW.nil ⟨?_,rfl⟩
  rw[hs]
theorem EI{a b:Nat}(ha:a<W^6)(hb:b<W^6):Spec Tryz.prog 58 [LV .u64 (D 6 a++D 6 b)] ai [] (IsV (.bool (io (k2 a b)))):=by
 refine ad Tryz.func58 rfl rfl rfl fun w _=>?_
 have hl0:=fun x=>ae 6 x
 repeat (first|refine wg ?_|refine bI ?_|refine eP ?_|refine fm ?_|refine fI ?_|refine y_4 (dc hb) ?_|refine Fx ?_|refine Z81 fun _=>?_)
 refine ao (by rfl) (fun h=>?_) (fun h=>?_)
 ·rw[gO]at h
  have hs:io (k2 a b)=kU (kp a):=if_pos h
  repeat (first|refine Df ?_|refine y_4 (nM ha) ?_|refine Fx ?_|refine Z81 fun _=>?_)
  refine Ze1 fun _ hw=>aa hw SubW.nil ⟨?_,rfl⟩
  rw[hs];rfl
 ·rw[gO]at h
  have hs:io (k2 a b)=kU (kp b):=if_neg h
  repeat (first|refine Df ?_|refine y_4 (nM hb) ?_|refine Fx ?_|refine Z81 fun _=>?_)
  refine Ze1 fun _ hw=>aa hw SubW.nil ⟨?_,rfl⟩
  rw[hs];rfl
theorem AH(x:F2):Spec Tryz.prog 87 [LV .u64 (E2 x)] ai [] (IsV (N .i64 (Kf.K2.sgn x))):=by
 have:=rF (an x.re) (an x.im);rwa [bq]at this
theorem wn{x y:F2}(h:x=y):E2 x=E2 y:=by rw[h]
theorem Ny{a b:Fq}{o:F2}(ho:o=⟨a,b⟩):D 6 a.val++D 6 b.val=E2 o:=by rw[ho]
theorem Te{S1 a b:Prop}(s1:S1)(k:b)(h:S1→Rm b→a:=by intro s1 k;refine en (by rfl) s1 (by rfl) (by rfl) (by first | (refine ab.l ?_;(simp;done)) | (refine ab.r ?_ ?_ <;> (simp;done)) | (refine ab.all ?_;(simp;done))) (by rfl) ?_;exact k.h):a:=h s1 ⟨k⟩
theorem il{a b:Prop}(k:b)(h:Rm b→a:=by intro k;(first|refine Z01 ?_|refine Z02 ?_|refine Z03 ?_|refine Z04 ?_|refine Z05 ?_|refine Z06 ?_|refine Z07 ?_|refine Z08 ?_|refine Z09 ?_|refine Z10 ?_|refine Z11 ?_|refine Z12 ?_|refine Z13 ?_|refine Z14 ?_|refine Z17 ?_|refine Z18 ?_|refine Z19 ?_|refine Z24 ?_|refine Z26 ?_|refine Z27 ?_|refine Z29 ?_|refine Z30 ?_|refine Z31 ?_|refine Z32 ?_|refine Z49 ?_|refine Z50 ?_|refine Z51 ?_|refine Z52 ?_|refine Z67 ?_|refine Z77 ?_|refine Z78 ?_|refine Z79 ?_);exact k.h):a:=h ⟨k⟩
theorem Ns{a b:Prop}(k:b)(h:Rm b→a:=by intro k;(first|refine Z01 ?_|refine Z02 ?_|refine Z17 ?_|refine Z18 ?_|refine Z19 ?_|refine Z49 ?_|refine Z50 ?_|refine Z77 ?_|refine Z78 ?_|refine Z79 ?_);exact k.h):a:=h ⟨k⟩
theorem Kh{a b:Prop}(k:b)(h:Rm b→a:=by intro k;(first|refine bI ?_|refine eP ?_|refine eO ?_|refine fm ?_|refine fI ?_);exact k.h):a:=h ⟨k⟩
theorem O9{a b:Prop}(k:b)(h:Rm b→a:=by intro k;(first|refine bI ?_|refine eO ?_|refine fm ?_|refine fI ?_|refine Z01 ?_|refine Z02 ?_|refine Z17 ?_|refine Z18 ?_|refine Z19 ?_|refine Z49 ?_|refine Z50 ?_|refine Z77 ?_|refine Z78 ?_|refine Z79 ?_);exact k.h):a:=h ⟨k⟩
theorem Dg{a b:Prop}(k:b)(h:Rm b→a:=by intro k;(first|refine bI ?_|refine eO ?_|refine fm ?_|refine fI ?_);exact k.h):a:=h ⟨k⟩
theorem VJ{a b:Prop}(k:b)(h:Rm b→a:=by intro k;refine Zqf (by intro _ _ _;(first|refine O9 ?_);exact Zq) ?_;exact k.h):a:=h ⟨k⟩
theorem Dr{a b:Prop}(k:b)(h:Rm b→a:=by intro k;(first|refine VJ ?_|refine nF ?_|refine sf ?_|refine ga ?_|refine Zqn ?_);exact k.h):a:=h ⟨k⟩
set_option maxHeartbeats 4000000 in
theorem yC(u:Nat)(x:F2)(m:Fq):Spec Tryz.prog 109 [LV .u64 (D 6 m.val),pt u 0] (fun w=>eL w u (LV .u64 (E2 x)) 34) [] (IsV (.tuple [LV .u64 (E2 (Kf.K2.f8 x m).1),.bool (Kf.K2.f8 x m).2].toArray)):=by
 refine ad Tryz.func109 rfl rfl rfl fun w hr=>?_
 have h1:=OldB.mk0 hr
 have hl0:=fun x=>ae 6 x
 repeat (first|(refine bG ?_;intro _)|(refine cJ ?_;intro _)|refine Te h1 ?_|refine Kh ?_|refine y_4 (gU x.re m) ?_|refine ah (by rfl) (by rfl) (by rfl) (qI) (fun _ _=>trivial) (by rfl) ?_|refine y_4 (dv (x.re+m) hv) ?_|refine y_4 (uT ((x.re+m)*hv)) ?_|refine il ?_|refine Z81 fun _=>?_|refine Z82 fun _=>?_)
 obtain⟨s,hs⟩:∃s,s=Kf.K2.fsq ((x.re+m)*hv):=⟨_,rfl⟩
 rw[← hs]
 refine R.af [0,1,2,3,4,5,6,7,8] (by rfl) ?_
 repeat (first|(refine R.Zpf (by rfl) (by intro _ _ _;(first|(refine en (by rfl) ((h1).shift (by assumption)) (by rfl) (by rfl) (by first | (refine ab.l ?_;(simp;done)) | (refine ab.r ?_ ?_ <;> (simp;done)) | (refine ab.all ?_;(simp;done))) (by rfl) ?_)|refine O9 ?_);exact Zq) ?_)|refine aL ?_|refine cw ?_|(refine R.Zpp (by rfl) (by intro _ _ _;refine ah (by rfl) (by rfl) (by rfl) (qI) (fun _ _=>trivial) (by rfl) ?_;exact Zq) ?_)|refine ag (dv x.im hv) ?_|refine ag (lD s.1) ?_|refine ag (dv (x.im*hv) (Kf.inv s.1)) ?_|refine aA ?_|(refine ik ?_;intro _)|(refine aV ?_;intro _))
 refine R.Zp0 ?_
 repeat (first|refine wg ?_|refine Z01 ?_|refine Z02 ?_|refine Z03 ?_|refine Z04 ?_|refine Z05 ?_|refine Z06 ?_|refine Z07 ?_|refine Z08 ?_|refine Z09 ?_|refine Z10 ?_|refine Z11 ?_|refine Z12 ?_|refine Z13 ?_|refine Z14 ?_|refine Z17 ?_|refine Z18 ?_|refine Z19 ?_|refine Z24 ?_|refine Z26 ?_|refine Z27 ?_|refine Z29 ?_|refine Z30 ?_|refine Z31 ?_|refine Z32 ?_|refine Z49 ?_|refine Z50 ?_|refine Z51 ?_|refine Z52 ?_|refine Z67 ?_|refine Z77 ?_|refine Z78 ?_|refine Z79 ?_|refine Z81 fun _=>?_|refine Z82 fun _=>?_)
 refine ao (by rfl) (fun h=>?_) (fun h=>?_)
 ·rw[gO]at h
  obtain⟨o,ho⟩:∃o:F2,o=⟨s.1,(Kf.K2.fsq (-x.re)).1⟩:=⟨_,rfl⟩
  have hv0:=Ny ho
  have hT:=Kf.K2.SI hs h ho
  have hsg:=AH o
  obtain⟨g,hg⟩:∃g,g=Kf.K2.sgn o:=⟨_,rfl⟩
  rw[← hg]at hsg
  have hlo:=ak o
  have hln:=ak (Kf.K2.neg o)
  have hle:=ak (Kf.K2.dj o)
  clear hs ho
  repeat (first|(refine cz (by rfl) (by rfl) (by rfl) (by rfl) (by simp;done) (by simp;done) (by rfl) ?_;rw[hv0])|refine Kh ?_|(refine bG ?_;intro _)|(refine cJ ?_;intro _)|refine y_4 hsg ?_|refine y_4 (jm x.re) ?_|refine y_4 (uT (-x.re)) ?_|refine Te h1 ?_|refine il ?_|refine Z81 fun _=>?_|refine Z82 fun _=>?_)
  refine ao (by rfl) (fun hc=>?_) (fun hc=>?_)
  ·have he:=Kf.K2.Gt hg hc
   repeat (first|refine y_4 (oV o) ?_|refine il ?_|refine Z81 fun _=>?_|refine Z82 fun _=>?_)
   rw[← he]
   cases hB:(Kf.K2.fsq (-x.re)).2 with
   | false=>
    rw[hB]at hT
    rw[hT]
    repeat (first|refine il ?_|refine Z81 fun _=>?_|refine Z82 fun _=>?_)
    refine au (by rfl) ?_
    repeat (first|refine Dr ?_)
    refine Zq0 ?_ (by kernel_rfl)
    repeat (first|refine il ?_|refine Z81 fun _=>?_|refine Z82 fun _=>?_)
    refine aJ (by rfl) (by rfl) (by rfl) fd (by rfl) (by rfl) (by first | with_reducible assumption | (simp[*];done)) fun _ hw=>aa hw SubW.nil ⟨?_,rfl⟩
    rfl
   | true=>
    rw[hB]at hT
    rw[hT]
    have hE2:=jU (Kf.K2.mul (Kf.K2.dj o) (Kf.K2.dj o)) x
    repeat (first|refine il ?_|refine Z81 fun _=>?_|refine Z82 fun _=>?_)
    refine au (by rfl) ?_
    repeat (first|(refine Zqf (by intro _ _ _;(first|refine Dg ?_|(refine en (by rfl) ((h1).shift (by assumption)) (by rfl) (by rfl) (by first | (refine ab.l ?_;(simp;done)) | (refine ab.r ?_ ?_ <;> (simp;done)) | (refine ab.all ?_;(simp;done))) (by rfl) ?_)|refine Ns ?_);exact Zq) ?_)|refine nF ?_|refine bS (aF (Kf.K2.dj o) (Kf.K2.dj o)) ?_|refine ft ?_)
    refine Zq0 ?_ (by kernel_rfl)
    rw[hE2]
    repeat (first|refine il ?_|refine Z81 fun _=>?_|refine Z82 fun _=>?_)
    refine aJ (by rfl) (by rfl) (by rfl) fd (by rfl) (by rfl) (by first | with_reducible assumption | (simp[*];done)) fun _ hw=>aa hw SubW.nil ⟨?_,rfl⟩
    rfl
  ·have he:=(Kf.K2.Gs hg hc).symm
   repeat (first|refine il ?_|refine Z81 fun _=>?_|refine Z82 fun _=>?_)
   have hE0:=wn he
   rw[hE0]
   cases hB:(Kf.K2.fsq (-x.re)).2 with
   | false=>
    rw[hB]at hT
    rw[hT]
    repeat (first|refine il ?_|refine Z81 fun _=>?_|refine Z82 fun _=>?_)
    refine au (by rfl) ?_
    repeat (first|refine Dr ?_)
    refine Zq0 ?_ (by kernel_rfl)
    repeat (first|refine il ?_|refine Z81 fun _=>?_|refine Z82 fun _=>?_)
    refine aJ (by rfl) (by rfl) (by rfl) fd (by rfl) (by rfl) (by first | with_reducible assumption | (simp[*];done)) fun _ hw=>aa hw SubW.nil ⟨?_,rfl⟩
    rfl
   | true=>
    rw[hB]at hT
    rw[hT]
    have hE2:=jU (Kf.K2.mul (Kf.K2.dj o) (Kf.K2.dj o)) x
    repeat (first|refine il ?_|refine Z81 fun _=>?_|refine Z82 fun _=>?_)
    refine au (by rfl) ?_
    repeat (first|(refine Zqf (by intro _ _ _;(first|refine Dg ?_|(refine en (by rfl) ((h1).shift (by assumption)) (by rfl) (by rfl) (by first | (refine ab.l ?_;(simp;done)) | (refine ab.r ?_ ?_ <;> (simp;done)) | (refine ab.all ?_;(simp;done))) (by rfl) ?_)|refine Ns ?_);exact Zq) ?_)|refine nF ?_|refine bS (aF (Kf.K2.dj o) (Kf.K2.dj o)) ?_|refine ft ?_)
    refine Zq0 ?_ (by kernel_rfl)
    rw[hE2]
    repeat (first|refine il ?_|refine Z81 fun _=>?_|refine Z82 fun _=>?_)
    refine aJ (by rfl) (by rfl) (by rfl) fd (by rfl) (by rfl) (by first | with_reducible assumption | (simp[*];done)) fun _ hw=>aa hw SubW.nil ⟨?_,rfl⟩
    rfl
 ·rw[gO]at h
  obtain⟨o,ho⟩:∃o:F2,o=⟨s.1,x.im*hv*Kf.inv s.1⟩:=⟨_,rfl⟩
  have hv0:=Ny ho
  have hT:=Kf.K2.SJ hs h ho
  have hsg:=AH o
  obtain⟨g,hg⟩:∃g,g=Kf.K2.sgn o:=⟨_,rfl⟩
  rw[← hg]at hsg
  have hlo:=ak o
  have hln:=ak (Kf.K2.neg o)
  have hle:=ak (Kf.K2.dj o)
  clear hs ho
  repeat (first|(refine cz (by rfl) (by rfl) (by rfl) (by rfl) (by simp;done) (by simp;done) (by rfl) ?_;rw[hv0])|refine Kh ?_|(refine bG ?_;intro _)|(refine cJ ?_;intro _)|refine y_4 hsg ?_|(skip;fail)|refine il ?_|refine Z81 fun _=>?_|refine Z82 fun _=>?_)
  refine ao (by rfl) (fun hc=>?_) (fun hc=>?_)
  ·have he:=Kf.K2.Gt hg hc
   repeat (first|refine y_4 (oV o) ?_|refine il ?_|refine Z81 fun _=>?_|refine Z82 fun _=>?_)
   rw[← he]
   cases hB:s.2 with
   | false=>
    rw[hB]at hT
    rw[hT]
    repeat (first|refine il ?_|refine Z81 fun _=>?_|refine Z82 fun _=>?_)
    refine au (by rfl) ?_
    repeat (first|refine Dr ?_)
    refine Zq0 ?_ (by kernel_rfl)
    repeat (first|refine il ?_|refine Z81 fun _=>?_|refine Z82 fun _=>?_)
    refine aJ (by rfl) (by rfl) (by rfl) fd (by rfl) (by rfl) (by first | with_reducible assumption | (simp[*];done)) fun _ hw=>aa hw SubW.nil ⟨?_,rfl⟩
    rfl
   | true=>
    rw[hB]at hT
    rw[hT]
    have hE2:=jU (Kf.K2.mul (Kf.K2.dj o) (Kf.K2.dj o)) x
    repeat (first|refine il ?_|refine Z81 fun _=>?_|refine Z82 fun _=>?_)
    refine au (by rfl) ?_
    repeat (first|(refine Zqf (by intro _ _ _;(first|refine Dg ?_|(refine en (by rfl) ((h1).shift (by assumption)) (by rfl) (by rfl) (by first | (refine ab.l ?_;(simp;done)) | (refine ab.r ?_ ?_ <;> (simp;done)) | (refine ab.all ?_;(simp;done))) (by rfl) ?_)|refine Ns ?_);exact Zq) ?_)|refine nF ?_|refine bS (aF (Kf.K2.dj o) (Kf.K2.dj o)) ?_|refine ft ?_)
    refine Zq0 ?_ (by kernel_rfl)
    rw[hE2]
    repeat (first|refine il ?_|refine Z81 fun _=>?_|refine Z82 fun _=>?_)
    refine aJ (by rfl) (by rfl) (by rfl) fd (by rfl) (by rfl) (by first | with_reducible assumption | (simp[*];done)) fun _ hw=>aa hw SubW.nil ⟨?_,rfl⟩
    rfl
  ·have he:=(Kf.K2.Gs hg hc).symm
   repeat (first|refine il ?_|refine Z81 fun _=>?_|refine Z82 fun _=>?_)
   have hE0:=wn he
   rw[hE0]
   cases hB:s.2 with
   | false=>
    rw[hB]at hT
    rw[hT]
    repeat (first|refine il ?_|refine Z81 fun _=>?_|refine Z82 fun _=>?_)
    refine au (by rfl) ?_
    repeat (first|refine Dr ?_)
    refine Zq0 ?_ (by kernel_rfl)
    repeat (first|refine il ?_|refine Z81 fun _=>?_|refine Z82 fun _=>?_)
    refine aJ (by rfl) (by rfl) (by rfl) fd (by rfl) (by rfl) (by first | with_reducible assumption | (simp[*];done)) fun _ hw=>aa hw SubW.nil ⟨?_,rfl⟩
    rfl
   | true=>
    rw[hB]at hT
    rw[hT]
    have hE2:=jU (Kf.K2.mul (Kf.K2.dj o) (Kf.K2.dj o)) x
    repeat (first|refine il ?_|refine Z81 fun _=>?_|refine Z82 fun _=>?_)
    refine au (by rfl) ?_
    repeat (first|(refine Zqf (by intro _ _ _;(first|refine Dg ?_|(refine en (by rfl) ((h1).shift (by assumption)) (by rfl) (by rfl) (by first | (refine ab.l ?_;(simp;done)) | (refine ab.r ?_ ?_ <;> (simp;done)) | (refine ab.all ?_;(simp;done))) (by rfl) ?_)|refine Ns ?_);exact Zq) ?_)|refine nF ?_|refine bS (aF (Kf.K2.dj o) (Kf.K2.dj o)) ?_|refine ft ?_)
    refine Zq0 ?_ (by kernel_rfl)
    rw[hE2]
    repeat (first|refine il ?_|refine Z81 fun _=>?_|refine Z82 fun _=>?_)
    refine aJ (by rfl) (by rfl) (by rfl) fd (by rfl) (by rfl) (by first | with_reducible assumption | (simp[*];done)) fun _ hw=>aa hw SubW.nil ⟨?_,rfl⟩
    rfl
theorem wh:(List.replicate 12 0:List Nat)=E2 (Kf.K2.zero:F2):=by decide +kernel
theorem Tf{a b:Prop}(k:b)(h:Rm b→a:=by intro k;(first|refine Z01 ?_|refine Z02 ?_|refine Z03 ?_|refine Z04 ?_|refine Z05 ?_|refine Z06 ?_|refine Z07 ?_|refine Z08 ?_|refine Z09 ?_|refine Z10 ?_|refine Z11 ?_|refine Z12 ?_|refine Z13 ?_|refine Z14 ?_|refine Z19 ?_|refine Z24 ?_|refine Z26 ?_|refine Z27 ?_|refine Z29 ?_|refine Z30 ?_|refine Z31 ?_|refine Z32 ?_|refine Z48 ?_|refine Z54 ?_|refine Z67 ?_);exact k.h):a:=h ⟨k⟩
theorem nG{a b:Prop}(k:b)(h:Rm b→a:=by intro k;refine jD (k:=.u64) (z:=List.replicate 12 0) (by rfl) (by rfl) (by rfl) (by rfl) ?_;rw[wh];exact k.h):a:=h ⟨k⟩
theorem lY{S1 a b:Prop}(s1:S1)(k:b)(h:S1→Rm b→a:=by intro s1 k;refine ah (by rfl) (by rfl) (by rfl) s1 (eL.own fd) (by rfl) ?_;exact k.h):a:=h s1 ⟨k⟩
theorem Pa{a b:Prop}(k:b)(h:Rm b→a:=by intro k;(first|refine nG ?_|refine Z01 ?_|refine Z02 ?_|refine Z03 ?_|refine Z04 ?_|refine Z05 ?_|refine Z06 ?_|refine Z07 ?_|refine Z08 ?_|refine Z09 ?_|refine Z10 ?_|refine Z11 ?_|refine Z12 ?_|refine Z13 ?_|refine Z14 ?_|refine Z19 ?_|refine Z24 ?_|refine Z26 ?_|refine Z27 ?_|refine Z29 ?_|refine Z30 ?_|refine Z31 ?_|refine Z32 ?_|refine Z48 ?_|refine Z54 ?_|refine Z67 ?_);exact k.h):a:=h ⟨k⟩
set_option maxHeartbeats 4000000 in
theorem EO{a b:Nat}(ha:a<W^6)(hb:b<W^6):Spec Tryz.prog 55 [LV .u64 (D 6 a++D 6 b)] ai [] (IsV (.tuple [LV .u64 (E2 (Kf.K2.cK (k2 a b)).1),.bool (Kf.K2.cK (k2 a b)).2].toArray)):=by
 refine ad Tryz.func55 rfl rfl rfl fun w _=>?_
 have hl0:=fun x=>ae 6 x
 have hlz:=ak (Kf.K2.zero:F2)
 have hred:=kM ha hb
 obtain⟨x,hx⟩:∃x:F2,x=k2 a b:=⟨_,rfl⟩
 rw[← hx]at hred ⊢
 clear hx
 have hlx:=ak x
 have hadd:Spec Tryz.prog 49 [LV .u64 (D 6 (x.re*x.re).val),LV .u64 (D 6 (x.im*x.im).val)] ai [] (IsV (LV .u64 (D 6 (Kf.K2.bV x).val))):=gU (x.re*x.re) (x.im*x.im)
 have hfs:=uT (Kf.K2.bV x)
 obtain⟨s,hs⟩:∃s,s=Kf.K2.fsq (Kf.K2.bV x):=⟨_,rfl⟩
 rw[← hs]at hfs
 obtain⟨t,ht⟩:∃t,t=Kf.K2.f8 x s.1:=⟨_,rfl⟩
 have htry:=fun u=>yC u x s.1
 rw[← ht]at htry
 obtain⟨v,hv⟩:∃v,v=Kf.K2.f8 x (-s.1):=⟨_,rfl⟩
 have htry2:=fun u=>yC u x (-s.1)
 rw[← hv]at htry2
 have hneg:=jm s.1
 have hP0:=Kf.K2.MF hs
 have hP1:=Kf.K2.MG hs (t:=t)
 have hP2:=Kf.K2.MH hs (t:=t) (v:=v)
 have hP3:=Kf.K2.MI hs (t:=t) (v:=v)
 obtain⟨s1,s2⟩:=s
 obtain⟨t1,t2⟩:=t
 obtain⟨v1,v2⟩:=v
 have hlt:=ak t1
 have hlv:=ak v1
 simp only at *
 repeat (first|(refine bG ?_;intro _)|refine y_4 hred ?_|(refine cJ ?_;intro _)|refine Tf ?_|refine Z81 fun _=>?_|refine Z82 fun _=>?_)
 refine R.af [0,1,2,3,4,5,6,7,8,9,10,11,12,13,14,15,16,17] (by rfl) ?_
 repeat (first|(refine R.Zpf (by rfl) (by intro _ _ _;(first|refine bI ?_|refine fm ?_|refine Z01 ?_|refine Z02 ?_|refine Z19 ?_|refine Z48 ?_|refine Z54 ?_);exact Zq) ?_)|refine aL ?_|refine cw ?_|refine ag (dv x.re x.re) ?_|refine ag (dv x.im x.im) ?_|refine ag hadd ?_|refine ag hfs ?_|refine aA ?_|(refine ik ?_;intro _)|(refine aV ?_;intro _))
 refine R.Zp0 ?_
 clear hfs hadd hred
 cases s2 with
 | false=>
  rw[hP0 rfl]
  repeat (first|refine Pa ?_|refine Z81 fun _=>?_|refine Z82 fun _=>?_)
  refine aJ (by rfl) (by rfl) (by rfl) fd (by rfl) (by rfl) (by first | with_reducible assumption | (simp[*];done)) fun _ hw=>aa hw SubW.nil ⟨?_,rfl⟩
  rfl
 | true=>
  cases t2 with
  | true=>
   rw[hP1 rfl ht rfl]
   clear hP0 hP1 hP2 hP3 hs ht hv
   repeat (first|(refine bG ?_;intro _)|refine lY (htry _) ?_|refine Tf ?_|refine Z81 fun _=>?_|refine Z82 fun _=>?_)
   refine aJ (by rfl) (by rfl) (by rfl) fd (by rfl) (by rfl) (by first | with_reducible assumption | (simp[*];done)) fun _ hw=>aa hw SubW.nil ⟨?_,rfl⟩
   rfl
  | false=>
   cases v2 with
   | true=>
    rw[hP2 rfl ht rfl hv rfl]
    clear hP0 hP1 hP2 hP3 hs ht hv
    repeat (first|(refine bG ?_;intro _)|refine lY (htry _) ?_|refine y_4 hneg ?_|refine lY (htry2 _) ?_|refine Tf ?_|refine Z81 fun _=>?_|refine Z82 fun _=>?_)
    refine aJ (by rfl) (by rfl) (by rfl) fd (by rfl) (by rfl) (by first | with_reducible assumption | (simp[*];done)) fun _ hw=>aa hw SubW.nil ⟨?_,rfl⟩
    rfl
   | false=>
    rw[hP3 rfl ht rfl hv rfl]
    clear hP0 hP1 hP2 hP3 hs ht hv
    repeat (first|(refine bG ?_;intro _)|refine lY (htry _) ?_|refine y_4 hneg ?_|refine lY (htry2 _) ?_|refine Pa ?_|refine Z81 fun _=>?_|refine Z82 fun _=>?_)
    refine aJ (by rfl) (by rfl) (by rfl) fd (by rfl) (by rfl) (by first | with_reducible assumption | (simp[*];done)) fun _ hw=>aa hw SubW.nil ⟨?_,rfl⟩
    rfl
theorem Ou(x:F2):Spec Tryz.prog 55 [LV .u64 (E2 x)] ai [] (IsV (.tuple [LV .u64 (E2 (Kf.K2.cK x).1),.bool (Kf.K2.cK x).2].toArray)):=by
 have:=EO (an x.re) (an x.im);rwa [bq]at this
theorem TC(x:F2):Spec Tryz.prog 58 [LV .u64 (E2 x)] ai [] (IsV (.bool (io x))):=by
 have:=EI (an x.re) (an x.im);rwa [bq]at this
theorem fM(x:F2):(decide (D 6 x.re.val=D 6 x.re.val)&&decide (D 6 x.im.val=D 6 x.im.val))=true:=by rw[jU];exact decide_eq_true rfl
theorem cN{x y:F2}(h:¬x=y):(decide (D 6 x.re.val=D 6 y.re.val)&&decide (D 6 x.im.val=D 6 y.im.val))=false:=by rw[jU];exact decide_eq_false h
theorem WY:([2]++List.replicate (6-[2].length) 0:List Nat)=D 6 2:=by decide +kernel
theorem Un:Kf.isq (kp 2)=false:=by
 have h:Kf.isq (-kp 2)=true:=(Kf.bZ p_3).2 ⟨kp 2057464292470212699950648958431590554769679873859515792311286236065221686597310451751142621105086029381756709738514,by decide +kernel⟩
 have h2:=Kf.fP p_3 (a:=kp 2) (by decide +kernel)
 rw[h]at h2
 cases h3:Kf.isq (kp 2)
 ·rfl
 ·rw[h3]at h2;exact absurd h2 (by decide)
def ac:F2:=k2 0 240
def bc:F2:=k2 1012 1012
def zc:F2:=Kf.K2.neg (k2 2 1)
def pol(x:F2):List F2→F2
 | []=>Kf.K2.zero
 | c::r=>Kf.K2.add (Kf.K2.mul (pol x r) x) c
def cm(x:F2):F2:=pol x [bc,ac,Kf.K2.zero,Kf.K2.one]
theorem acE:List.replicate 6 0++([240]++List.replicate (6-[240].length) 0)=E2 ac:=by decide +kernel
theorem bcE:([1012]++List.replicate (6-[1012].length) 0)++([1012]++List.replicate (6-[1012].length) 0)=E2 bc:=by decide +kernel
theorem fJ{a b:Prop}(k:b)(h:Rm b→a:=by intro k;refine ek (by rfl) (by rfl) (by rfl) (by rfl) (by simp;done) (by rfl) ?_;exact k.h):a:=h ⟨k⟩
theorem Be:Spec Tryz.prog 84 [] ai [] (IsV (LV .u64 (E2 ac))):=by
 refine ad Tryz.func84 rfl rfl rfl fun w _=>?_
 repeat (first|(refine bG ?_;intro _)|refine bk (kk:=.u64) (vs:=[240]) (by rfl) (by rfl) (by rfl) (by rfl) (by rfl) (by rfl) (by rfl) (by rfl) ?_|refine fJ ?_|(refine rI (by rfl) (by rfl) (by rfl) (by rfl) (by simp;done) (by rfl) ?_)|refine Z03 ?_|refine Z04 ?_|refine Z05 ?_|refine Z06 ?_|refine Z07 ?_|refine Z08 ?_|refine Z09 ?_|refine Z10 ?_|refine Z11 ?_|refine Z12 ?_|refine Z13 ?_|refine Z14 ?_|refine Z29 ?_|refine Z30 ?_|refine Z31 ?_|refine Z32 ?_|refine Z82 fun _=>?_)
 refine Zec fun _ hw=>aa hw SubW.nil ⟨?_,rfl⟩
 rw[← acE]
theorem Bh:Spec Tryz.prog 83 [] ai [] (IsV (LV .u64 (E2 bc))):=by
 refine ad Tryz.func83 rfl rfl rfl fun w _=>?_
 repeat (first|(refine bG ?_;intro _)|refine bk (kk:=.u64) (vs:=[1012]) (by rfl) (by rfl) (by rfl) (by rfl) (by rfl) (by rfl) (by rfl) (by rfl) ?_|refine eO ?_|refine fJ ?_|refine Z03 ?_|refine Z04 ?_|refine Z05 ?_|refine Z06 ?_|refine Z07 ?_|refine Z08 ?_|refine Z09 ?_|refine Z10 ?_|refine Z11 ?_|refine Z12 ?_|refine Z13 ?_|refine Z14 ?_|refine Z29 ?_|refine Z30 ?_|refine Z31 ?_|refine Z32 ?_|refine Z82 fun _=>?_)
 refine Zec fun _ hw=>aa hw SubW.nil ⟨?_,rfl⟩
 rw[← bcE]
theorem Dx:Spec Tryz.prog 82 [] ai [] (IsV (LV .u64 (E2 zc))):=by
 refine ad Tryz.func82 rfl rfl rfl fun w _=>?_
 have hl0:=fun x=>ae 6 x
 have hle:=fun x:F2=>ak x
 have hn:Spec Tryz.prog 59 [LV .u64 (D 6 2++D 6 1)] ai [] (IsV (LV .u64 (E2 zc))):=tI (by decide) (by decide)
 repeat (first|(refine bG ?_;intro _)|refine zd ?_|(refine bk (kk:=.u64) (vs:=[2]) (by rfl) (by rfl) (by rfl) (by rfl) (by rfl) (by rfl) (by rfl) (by rfl) ?_;rw[WY])|refine eO ?_|refine fJ ?_|refine y_4 hn ?_|refine S4 ?_|refine Z82 fun _=>?_)
 refine Zec fun _ hw=>aa hw SubW.nil ⟨?_,rfl⟩
 rfl
theorem Ot{a b:Nat}(ha:a<W^6)(hb:b<W^6)(x:F2):Spec Tryz.prog 57 [LV .u64 (E2 x),LV .u64 (D 6 a++D 6 b)] ai [] (IsV (LV .u64 (E2 (Kf.K2.mul x (k2 a b))))):=by
 have:=gN (an x.re) (an x.im) ha hb;rwa [bq]at this
theorem It(x:F2){cs:List F2}{i:Nat}{c:F2}(h:cs[i]?=some c):pol x (cs.drop i)=Kf.K2.add (Kf.K2.mul (pol x (cs.drop (i+1))) x) c:=by
 obtain⟨h1,h2⟩:=List.getElem?_eq_some_iff.1 h
 rw[List.drop_eq_getElem_cons h1,h2];rfl
theorem Nt{a b:Prop}(k:b)(h:Rm b→a:=by intro k;(first|refine Z01 ?_|refine Z02 ?_|refine Z03 ?_|refine Z04 ?_|refine Z05 ?_|refine Z06 ?_|refine Z07 ?_|refine Z08 ?_|refine Z09 ?_|refine Z10 ?_|refine Z11 ?_|refine Z12 ?_|refine Z13 ?_|refine Z14 ?_|refine Z16 ?_|refine Z17 ?_|refine Z18 ?_|refine Z20 ?_|refine Z21 ?_|refine Z22 ?_|refine Z23 ?_|refine Z24 ?_|refine Z26 ?_|refine Z27 ?_|refine Z29 ?_|refine Z30 ?_|refine Z31 ?_|refine Z32 ?_|refine Z67 ?_|refine Z71 ?_);exact k.h):a:=h ⟨k⟩
set_option maxHeartbeats 4000000 in
theorem iZ{a e:Nat}(ha:a<W^6)(he:e<W^6)(b k:Nat)(cs:List F2)(hk:cs.length=k)(hk2:k<65536):
  Spec Tryz.prog 81 [LV .u64 (D 6 a++D 6 e),slv b k] (fun w=>eL w b (LV .u64 (cs.map E2).flatten) 34) [] (IsV (LV .u64 (E2 (pol (k2 a e) cs)))):=by
 refine ad Tryz.func81 rfl rfl rfl fun w hr=>?_
 have h1:=OldB.mk0 hr
 have hl0:=fun x=>ae 6 x
 have hle:=fun x:F2=>ak x
 have hz12:=wh
 have hm:=fun x=>Ot ha he x
 generalize k2 a e=x at hm
 have h12:∀v∈cs.map E2,v.length=12:=fun v hv=>by
  obtain⟨c,_,rfl⟩:=List.mem_map.1 hv
  exact hle c
 repeat (first|(refine bG ?_;intro _)|refine AP (by rfl) (by rfl) (by rfl) ?_|refine Z01 ?_|refine Z02 ?_|refine Z03 ?_|refine Z04 ?_|refine Z05 ?_|refine Z06 ?_|refine Z07 ?_|refine Z08 ?_|refine Z09 ?_|refine Z10 ?_|refine Z11 ?_|refine Z12 ?_|refine Z13 ?_|refine Z14 ?_|refine Z16 ?_|refine Z17 ?_|refine Z18 ?_|refine Z20 ?_|refine Z21 ?_|refine Z22 ?_|refine Z23 ?_|refine Z24 ?_|refine Z26 ?_|refine Z27 ?_|refine Z29 ?_|refine Z30 ?_|refine Z31 ?_|refine Z32 ?_|refine Z67 ?_|refine Z71 ?_|refine Z81 fun _=>?_|refine Z82 fun _=>?_)
 rename_i b2 b4
 refine ay (ι:=Nat) (fun j=>j≤k) (fun j=>[(1,slv b k),(2,pt b2 0),(4,pt b4 0),(5,.int .i64 ((j:Int)-1))])
  (fun j=>[.blk b4 (LV .u64 (E2 (pol x (cs.drop j)))) 34,.blk b2 (LV .u64 (D 6 a++D 6 e)) 34]) (fun j=>j) k (Nat.le_refl _) sbq (by rw[← hk,List.drop_length,show pol x []=Kf.K2.zero from rfl,← hz12];exact sw) ?_
 intro j hj
 repeat (first|refine Nt ?_|refine Z81 fun _=>?_|refine Z82 fun _=>?_)
 refine ao (by rfl) (fun h=>?_) (fun h=>?_)
 ·have h0:(0:Int)≤(j:Int)-1:=h
  obtain⟨i,rfl⟩:∃i,j=i+1:=⟨j-1,by omega⟩
  rw[show((i+1:Nat):Int)-1=Int.ofNat i by simp]
  obtain⟨c,hc⟩:∃c,cs[i]?=some c:=⟨cs[i]'(by omega),List.getElem?_eq_getElem (by omega)⟩
  have hpt:ab (cs.map E2).flatten (0+i*12) 12 (E2 c):=by
   rw[Nat.zero_add];exact ab.nth h12 (by rw[List.getElem?_map,hc];rfl)
  have had:=cV (Kf.K2.mul (pol x (cs.drop (i+1))) x) c
  rw[← It x hc]at had
  repeat (first|refine Nt ?_|refine Z81 fun _=>?_|refine Z82 fun _=>?_)
  refine au (by rfl) ?_
  repeat (first|(refine Zqf (by intro _ _ _;(first|refine EV (by rfl) (by rfl) (by rfl) (by rfl) (show i<k by omega) (by rfl) ?_|refine en (by rfl) (h1.shift (by assumption)) (by rfl) (by rfl) hpt (by rfl) ?_|refine Z01 ?_|refine Z02 ?_|refine Z16 ?_|refine Z17 ?_|refine Z18 ?_|refine Z20 ?_|refine Z21 ?_|refine Z22 ?_|refine Z23 ?_|refine Z71 ?_);exact Zq) ?_)|refine nF ?_|refine bS (hm (pol x (cs.drop (i+1)))) ?_|refine bS had ?_|refine Dc ?_|refine ga ?_|refine Zqn ?_)
  refine Zq0 ?_ (by kernel_rfl)
  repeat (first|refine Nt ?_|refine Z81 fun _=>?_|refine Z82 fun _=>?_)
  refine ap i (by omega) (by omega) ?_ sw
  rw[show((i:Int)-1)=Int.ofNat i-Int.ofNat 1 from rfl]
  exact sbq
 ·have hp0:¬(0:Int)≤(j:Int)-1:=h
  have hj0:j=0:=by omega
  subst hj0
  rw[List.drop_zero]
  repeat (first|refine Nt ?_|refine Z81 fun _=>?_|refine Z82 fun _=>?_)
  refine Zec fun _ hw=>aa hw SubW.nil ⟨?_,rfl⟩
  rfl
theorem kg{cs:List F2}:∀v∈cs.map E2,v.length=12:=fun v hv=>by
 obtain⟨c,_,rfl⟩:=List.mem_map.1 hv
 exact ak c
theorem WB:D 6 1++List.replicate 6 0=E2 (Kf.K2.one:F2):=by decide +kernel
theorem Nu{a b:Prop}(k:b)(h:Rm b→a:=by intro k;refine ek (by rfl) (by rfl) (by rfl) (by rfl) (by simp;done) (by rfl) ?_;rw[WB];exact k.h):a:=h ⟨k⟩
theorem A7{S1 a b:Prop}(s1:S1)(k:b)(h:S1→Rm b→a:=by intro s1 k;refine R.Zpp (by rfl) (by intro _ _ _;refine ah (by rfl) (by rfl) (by rfl) s1 (eL.own fd) (by rfl) ?_;exact Zq) ?_;exact k.h):a:=h s1 ⟨k⟩
theorem sn{a b:Prop}(k:b)(h:Rm b→a:=by intro k;refine R.Zpn (by rfl) (by intro _ _ _;(first|refine Z81 fun _=>?_|refine Z82 fun _=>?_|refine Z85 fun _=>?_);exact R.Zpx) ?_;exact k.h):a:=h ⟨k⟩
theorem EL{a e:Nat}(ha:a<W^6)(he:e<W^6):Spec Tryz.prog 86 [LV .u64 (D 6 a++D 6 e)] ai [] (IsV (LV .u64 (E2 (cm (k2 a e))))):=by
 refine ad Tryz.func86 rfl rfl rfl fun w _=>?_
 have hl0:=fun x=>ae 6 x
 have hle:=fun x:F2=>ak x
 have hp:∀b,Spec Tryz.prog 81 [LV .u64 (D 6 a++D 6 e),slv b 4] (fun w=>eL w b (LV .u64 ([bc,ac,Kf.K2.zero,Kf.K2.one].map E2).flatten) 34) [] (IsV (LV .u64 (E2 (cm (k2 a e))))):=fun b=>iZ ha he b 4 [bc,ac,Kf.K2.zero,Kf.K2.one] rfl (by decide)
 generalize cm (k2 a e)=r at hp
 repeat (first|(refine bG ?_;intro _)|refine bU ?_|refine Z81 fun _=>?_|refine Z82 fun _=>?_|refine Z85 fun _=>?_)
 refine R.af [0,1,2,3,4,5,6,7,8] (by rfl) ?_
 repeat (first|(refine R.Zpf (by rfl) (by intro _ _ _;(first|refine nG ?_|refine zd ?_|refine Nu ?_);exact Zq) ?_)|refine aL ?_|(refine R.Zpp (by rfl) (by intro _ _ _;refine ah (by rfl) (by rfl) (by rfl) (Bh) (fun _ _=>trivial) (by rfl) ?_;exact Zq) ?_)|(refine R.Zpp (by rfl) (by intro _ _ _;refine ah (by rfl) (by rfl) (by rfl) (Be) (fun _ _=>trivial) (by rfl) ?_;exact Zq) ?_)|refine A7 (hp _) ?_|refine aA ?_|(refine R.Zpd (by rfl) (by intro _ _ _;(refine av (m:=12) (kk:=.u64) (vss:=[bc,ac,Kf.K2.zero,Kf.K2.one].map E2) (by rfl) (by rfl) (by rfl) (by rfl) (by rfl) (by rfl) (by rfl) kg (by rfl) (by rfl) fun _=>?_);exact R.dO) fun _=>?_)|(refine sn ?_;intro _))
 refine R.Zp0 ?_
 repeat (first|refine bU ?_|refine Z81 fun _=>?_|refine Z82 fun _=>?_|refine Z85 fun _=>?_)
 refine Zec fun _ hw=>aa hw SubW.nil ⟨?_,rfl⟩
 rfl
theorem U4(x:F2):Spec Tryz.prog 86 [LV .u64 (E2 x)] ai [] (IsV (LV .u64 (E2 (cm x)))):=by
 have:=EL (an x.re) (an x.im);rwa [bq]at this
def cT(g:Nat)(x:F2):F2×Bool:=(if Kf.K2.sgn (Kf.K2.cK (cm x)).1=g then(Kf.K2.cK (cm x)).1 else Kf.K2.neg (Kf.K2.cK (cm x)).1,(Kf.K2.cK (cm x)).2)
theorem pN{g s:Nat}{x:F2}{r:F2×Bool}(hr:r=Kf.K2.cK (cm x))(hs:s=Kf.K2.sgn r.1)(h:s=g):cT g x=(r.1,r.2):=by
 subst hs
 subst hr
 rw[cT,if_pos h]
theorem pM{g s:Nat}{x:F2}{r:F2×Bool}(hr:r=Kf.K2.cK (cm x))(hs:s=Kf.K2.sgn r.1)(h:¬s=g):cT g x=(Kf.K2.neg r.1,r.2):=by
 subst hs
 subst hr
 rw[cT,if_neg h]
theorem Nv{a b:Prop}(k:b)(h:Rm b→a:=by intro k;(first|refine Z01 ?_|refine Z02 ?_|refine Z03 ?_|refine Z04 ?_|refine Z05 ?_|refine Z06 ?_|refine Z07 ?_|refine Z08 ?_|refine Z09 ?_|refine Z10 ?_|refine Z11 ?_|refine Z12 ?_|refine Z13 ?_|refine Z14 ?_|refine Z17 ?_|refine Z18 ?_|refine Z19 ?_|refine Z24 ?_|refine Z26 ?_|refine Z27 ?_|refine Z29 ?_|refine Z30 ?_|refine Z31 ?_|refine Z32 ?_|refine Z67 ?_);exact k.h):a:=h ⟨k⟩
set_option maxHeartbeats 4000000 in
theorem iw{a e:Nat}(ha:a<W^6)(he:e<W^6)(u:Nat)(x:F2):Spec Tryz.prog 85 [LV .u64 (E2 x),pt u 0] (fun w=>eL w u (LV .u64 (D 6 a++D 6 e)) 34) [] (IsV (.tuple [LV .u64 (E2 (cT (Kf.K2.sgn (k2 a e)) x).1),.bool (cT (Kf.K2.sgn (k2 a e)) x).2].toArray)):=by
 refine ad Tryz.func85 rfl rfl rfl fun w hr=>?_
 have h1:=OldB.mk0 hr
 have hl0:=fun x=>ae 6 x
 have hle:=fun x:F2=>ak x
 have hsd:=U4 x
 have hg:=rF ha he
 generalize Kf.K2.sgn (k2 a e)=g at hg
 have hsq:=Ou (cm x)
 obtain⟨r,hr⟩:∃r,r=Kf.K2.cK (cm x):=⟨_,rfl⟩
 rw[← hr]at hsq
 have hs1:=AH r.1
 obtain⟨s,hs⟩:∃s,s=Kf.K2.sgn r.1:=⟨_,rfl⟩
 rw[← hs]at hs1
 have hR1:=pN (g:=g) hr hs
 have hR0:=pM (g:=g) hr hs
 clear hr hs
 generalize cm x=y at hsd hsq
 obtain⟨r1,r2⟩:=r
 simp only at hR1 hR0 hsq hs1
 have hn:=oV r1
 repeat (first|(refine bG ?_;intro _)|refine y_4 hsd ?_|refine y_4 hsq ?_|refine Nv ?_|refine Z81 fun _=>?_|refine Z82 fun _=>?_)
 refine au (by rfl) ?_
 repeat (first|(refine Zqf (by intro _ _ _;(first|(refine en (by rfl) ((h1).shift (by assumption)) (by rfl) (by rfl) (by first | (refine ab.l ?_;(simp;done)) | (refine ab.r ?_ ?_ <;> (simp;done)) | (refine ab.all ?_;(simp;done))) (by rfl) ?_)|refine Z01 ?_|refine Z02 ?_|refine Z17 ?_|refine Z18 ?_|refine Z19 ?_);exact Zq) ?_)|refine nF ?_|refine bS hs1 ?_|refine bS hg ?_|refine ft ?_)
 refine Zq0 ?_ (by kernel_rfl)
 repeat (first|refine Nv ?_|refine Z81 fun _=>?_|refine Z82 fun _=>?_)
 refine ao (by rfl) (fun h=>?_) (fun h=>?_)
 ·rw[hR0 h]
  repeat (first|refine y_4 hn ?_|refine Nv ?_|refine Z81 fun _=>?_|refine Z82 fun _=>?_)
  refine aJ (by rfl) (by rfl) (by rfl) fd (by rfl) (by rfl) (by first | with_reducible assumption | (simp[*];done)) fun _ hw=>aa hw SubW.nil ⟨?_,rfl⟩
  rfl
 ·rw[hR1 (Classical.not_not.1 h)]
  repeat (first|refine Nv ?_|refine Z81 fun _=>?_|refine Z82 fun _=>?_)
  refine aJ (by rfl) (by rfl) (by rfl) fd (by rfl) (by rfl) (by first | with_reducible assumption | (simp[*];done)) fun _ hw=>aa hw SubW.nil ⟨?_,rfl⟩
  rfl
def wz(u:F2):F2:=Kf.K2.mul zc (Kf.K2.mul u u)
def tz(w:F2):F2:=Kf.K2.add (Kf.K2.mul w w) w
def ir(w:F2):F2:=if tz w=Kf.K2.zero then Kf.K2.mul bc (Kf.K2.inv (Kf.K2.mul zc ac))else Kf.K2.mul (Kf.K2.neg (Kf.K2.mul bc (Kf.K2.inv ac))) (Kf.K2.add Kf.K2.one (Kf.K2.inv (tz w)))
theorem SX{w t:F2}(ht:t=tz w)(h:t=Kf.K2.zero):ir w=Kf.K2.mul bc (Kf.K2.inv (Kf.K2.mul zc ac)):=by
 subst ht
 exact if_pos h
theorem A1{w t:F2}(ht:t=tz w)(h:¬t=Kf.K2.zero):ir w=Kf.K2.mul (Kf.K2.neg (Kf.K2.mul bc (Kf.K2.inv ac))) (Kf.K2.add Kf.K2.one (Kf.K2.inv t)):=by
 subst ht
 exact if_neg h
def iX(u:F2):F2×F2:=
 if(cT (Kf.K2.sgn u) (ir (wz u))).2=true then(ir (wz u),(cT (Kf.K2.sgn u) (ir (wz u))).1)
 else(Kf.K2.mul (wz u) (ir (wz u)),(cT (Kf.K2.sgn u) (Kf.K2.mul (wz u) (ir (wz u)))).1)
theorem vc{u w x:F2}{r:F2×Bool}(hw:w=wz u)(hx:x=ir w)(hr:r=cT (Kf.K2.sgn u) x)(h:r.2=true):iX u=(x,r.1):=by
 subst hw
 subst hx
 subst hr
 rw[iX,if_pos h]
theorem vb{u w x:F2}{r s:F2×Bool}(hw:w=wz u)(hx:x=ir w)(hr:r=cT (Kf.K2.sgn u) x)(h:r.2=false)(hs:s=cT (Kf.K2.sgn u) (Kf.K2.mul w x)):iX u=(Kf.K2.mul w x,s.1):=by
 subst hw
 subst hx
 subst hr
 subst hs
 rw[iX,if_neg (by rw[h];decide)]
theorem kX{a b:Prop}(k:b)(h:Rm b→a:=by intro k;(first|refine Z01 ?_|refine Z02 ?_|refine Z03 ?_|refine Z04 ?_|refine Z05 ?_|refine Z06 ?_|refine Z07 ?_|refine Z08 ?_|refine Z09 ?_|refine Z10 ?_|refine Z11 ?_|refine Z12 ?_|refine Z13 ?_|refine Z14 ?_|refine Z19 ?_|refine Z24 ?_|refine Z26 ?_|refine Z27 ?_|refine Z29 ?_|refine Z30 ?_|refine Z31 ?_|refine Z32 ?_|refine Z48 ?_|refine Z67 ?_|refine Z77 ?_|refine Z78 ?_|refine Z79 ?_);exact k.h):a:=h ⟨k⟩
theorem fK{a b:Prop}(k:b)(h:Rm b→a:=by intro k;refine R.Zpb (by rfl) (by intro _ _ _;refine aq (v:=LV .u64 (List.replicate 12 0)) (by rfl) (by rfl) fun _=>?_;exact R.eM) ?_;exact k.h):a:=h ⟨k⟩
theorem VZ{a b:Prop}(k:b)(h:Rm b→a:=by intro k;refine ah (by rfl) (by rfl) (by rfl) (Bh) (fun _ _=>trivial) (by rfl) ?_;exact k.h):a:=h ⟨k⟩
theorem OF{a b:Prop}(k:b)(h:Rm b→a:=by intro k;refine ah (by rfl) (by rfl) (by rfl) (Be) (fun _ _=>trivial) (by rfl) ?_;exact k.h):a:=h ⟨k⟩
theorem dF{S1 a b:Prop}(s1:S1)(k:b)(h:S1→Rm b→a:=by intro s1 k;refine MQ (hr:=s1) (by rfl) (by rfl) (by rfl) (by kernel_rfl) (by rfl) (by rfl) (by rfl) (by rfl) (by rfl) (by rfl) (by rfl) (by rfl) (by rfl) (by rfl) (by kernel_rfl) (by simp;done) (by simp;done) (by simp;done) (by simp;done) (by rfl) ?_;exact k.h):a:=h s1 ⟨k⟩
theorem Pb{a b:Prop}(k:b)(h:Rm b→a:=by intro k;(first|refine fJ ?_|refine fm ?_|refine fI ?_|refine Z01 ?_|refine Z02 ?_|refine Z19 ?_|refine Z48 ?_|refine Z77 ?_|refine Z78 ?_|refine Z79 ?_);exact k.h):a:=h ⟨k⟩
theorem Pc{a b:Prop}(k:b)(h:Rm b→a:=by intro k;(first|refine VZ ?_|refine OF ?_|refine ah (by rfl) (by rfl) (by rfl) (Dx) (fun _ _=>trivial) (by rfl) ?_);exact k.h):a:=h ⟨k⟩
set_option maxHeartbeats 8000000 in
theorem HH{a e:Nat}(ha:a<W^6)(he:e<W^6):Spec Tryz.prog 43 [LV .u64 (D 6 a++D 6 e)] ai [] (IsV (.tuple [LV .u64 (E2 (iX (k2 a e)).1),LV .u64 (E2 (iX (k2 a e)).2)].toArray)):=by
 refine ad Tryz.func43 rfl rfl rfl fun w _=>?_
 have hl0:=fun x=>ae 6 x
 have hle:=fun x:F2=>ak x
 have hm1:=gN ha he ha he
 obtain⟨u,hu⟩:∃u:F2,u=k2 a e:=⟨_,rfl⟩
 have hug:Kf.K2.sgn (k2 a e)=Kf.K2.sgn u:=by rw[hu]
 obtain⟨g,hg⟩:∃g,g=Kf.K2.sgn u:=⟨_,rfl⟩
 have hgu:=hg
 rw[← hg]at hug
 rw[← hu]at hm1 ⊢
 clear hu hg
 have hm2:=aF zc (Kf.K2.mul u u)
 generalize hq:Kf.K2.mul u u=q at hm1 hm2
 obtain⟨w1,hw1⟩:∃w1:F2,w1=Kf.K2.mul zc q:=⟨_,rfl⟩
 rw[← hw1]at hm2
 have hw:w1=wz u:=by rw[hw1,← hq];rfl
 clear hw1 hq
 have hww:=aF w1 w1
 have hwt:=cV (Kf.K2.mul w1 w1) w1
 generalize hv:Kf.K2.mul w1 w1=v at hww hwt
 obtain⟨t,ht1⟩:∃t:F2,t=Kf.K2.add v w1:=⟨_,rfl⟩
 rw[← ht1]at hwt
 have ht:t=tz w1:=by rw[ht1,← hv];rfl
 clear ht1 hv
 have hia:=kq ac
 have hba:=aF bc (Kf.K2.inv ac)
 have hnb:=oV (Kf.K2.mul bc (Kf.K2.inv ac))
 have hX1:=SX ht
 have hX0:=A1 ht
 generalize Kf.K2.neg (Kf.K2.mul bc (Kf.K2.inv ac))=c0 at hnb hX0
 generalize Kf.K2.mul bc (Kf.K2.inv ac)=c1 at hba hnb
 generalize Kf.K2.inv ac=c2 at hia hba
 clear ht
 repeat (first|(refine bG ?_;intro _)|refine kX ?_|refine Z81 fun _=>?_|refine Z82 fun _=>?_)
 refine R.af [0,1,2,3,4,5,6] (by rfl) ?_
 repeat (first|(refine R.Zpf (by rfl) (by intro _ _ _;(first|refine Pb ?_);exact Zq) ?_)|refine aL ?_|refine cw ?_|(refine R.Zpp (by rfl) (by intro _ _ _;refine ah (by rfl) (by rfl) (by rfl) (Dx) (fun _ _=>trivial) (by rfl) ?_;exact Zq) ?_)|refine ag hm1 ?_|refine ag hm2 ?_|refine aA ?_|(refine fK ?_;intro _)|(refine aV ?_;intro _))
 refine R.Zp0 ?_
 repeat (first|refine kX ?_|refine Z81 fun _=>?_|refine Z82 fun _=>?_)
 refine R.af [0,1,2,3,4,5,6] (by rfl) ?_
 repeat (first|(refine R.Zpf (by rfl) (by intro _ _ _;(first|refine Pb ?_);exact Zq) ?_)|refine aL ?_|refine cw ?_|refine ag hww ?_|refine ag hwt ?_|refine aA ?_|(refine fK ?_;intro _)|(refine aV ?_;intro _))
 refine R.Zp0 ?_
 repeat (first|(refine bG ?_;intro _)|refine VZ ?_|refine OF ?_|refine y_4 hia ?_|refine y_4 hba ?_|refine y_4 hnb ?_|refine nG ?_|refine dF (jU t Kf.K2.zero) ?_|refine kX ?_|refine Z81 fun _=>?_|refine Z82 fun _=>?_)
 refine ao (by rfl) (fun h=>?_) (fun h=>?_)
 ·have hza:=aF zc ac
  have hzi:=kq (Kf.K2.mul zc ac)
  have hzb:=aF bc (Kf.K2.inv (Kf.K2.mul zc ac))
  obtain⟨x1,hxx⟩:∃x1:F2,x1=Kf.K2.mul bc (Kf.K2.inv (Kf.K2.mul zc ac)):=⟨_,rfl⟩
  have hx1:x1=ir w1:=hxx.trans (hX1 h).symm
  rw[← hxx]at hzb
  generalize Kf.K2.inv (Kf.K2.mul zc ac)=d1 at hzi hzb
  generalize Kf.K2.mul zc ac=d2 at hza hzi
  clear hxx hX1 hX0
  have hr1:=fun u=>iw ha he u x1
  rw[hug]at hr1
  obtain⟨r,hr⟩:∃r,r=cT g x1:=⟨_,rfl⟩
  rw[← hr]at hr1
  have hm3:=aF w1 x1
  obtain⟨x2,hx2⟩:∃x2:F2,x2=Kf.K2.mul w1 x1:=⟨_,rfl⟩
  rw[← hx2]at hm3
  have hr2:=fun u=>iw ha he u x2
  rw[hug]at hr2
  obtain⟨s,hs⟩:∃s,s=cT g x2:=⟨_,rfl⟩
  rw[← hs]at hr2
  have hM1:=fun h=>vc hw hx1 (hr.trans (by rw[hgu])) h
  have hM0:=fun h=>vb hw hx1 (hr.trans (by rw[hgu])) h (hs.trans (by rw[hgu,hx2]))
  rw[← hx2]at hM0
  clear hr hx2 hs hw hx1 hug hgu
  obtain⟨r1,r2⟩:=r
  obtain⟨s1,s2⟩:=s
  simp only at hM1 hM0 hr1 hr2
  cases r2 with
  | true=>
   rw[hM1 rfl]
   clear hM1 hM0
   repeat (first|refine Pc ?_|refine y_4 hza ?_|refine y_4 hzi ?_|refine y_4 hzb ?_|refine kX ?_|refine Z81 fun _=>?_|refine Z82 fun _=>?_)
   repeat (first|(refine bG ?_;intro _)|refine lY (hr1 _) ?_|refine kX ?_|refine Z81 fun _=>?_|refine Z82 fun _=>?_)
   refine R.af [0,1,2,3] (by rfl) ?_
   refine R.Zpp (by rfl) (by intro _ _ _;(first|refine y_7 ?_);exact Zq) ?_
   refine R.zm [2,3] [1,3] (by rfl) (by rfl) (by intro _ _ _;(first|refine y_7 ?_);exact Zq) (by intro _ _ _;(first|refine nD ?_);exact Zqq) ?_ ?_
   case' refine_1=>refine R.Zps (by rfl) (by intro _ _ _;(first|refine nD ?_);exact Zqq) ?_
   case' refine_2=>refine R.DA (by rfl) (by intro _ _ _;(first|refine y_7 ?_);exact Zq) ?_
   all_goals refine R.Zps (by rfl) (by intro _ _ _;(first|refine nD ?_);exact Zqq) ?_
   all_goals refine R.Zp0 ?_
   all_goals
    repeat (first|refine kX ?_|refine Z81 fun _=>?_|refine Z82 fun _=>?_)
    refine gD (by rfl) (by rfl) (by rfl) fd fd (by rfl) (by rfl) (by first | with_reducible assumption | (simp[*];done)) (by rfl) (by rfl) (by first | with_reducible assumption | (simp[*];done)) fun _ hw=>aa hw SubW.nil ⟨?_,rfl⟩
    rfl
  | false=>
   rw[hM0 rfl]
   clear hM1 hM0
   repeat (first|refine Pc ?_|refine y_4 hza ?_|refine y_4 hzi ?_|refine y_4 hzb ?_|refine kX ?_|refine Z81 fun _=>?_|refine Z82 fun _=>?_)
   repeat (first|(refine bG ?_;intro _)|refine lY (hr1 _) ?_|refine y_4 hm3 ?_|refine lY (hr2 _) ?_|refine kX ?_|refine Z81 fun _=>?_|refine Z82 fun _=>?_)
   refine R.af [0,1,2,3] (by rfl) ?_
   refine R.Zpp (by rfl) (by intro _ _ _;(first|refine y_7 ?_);exact Zq) ?_
   refine R.zm [2,3] [1,3] (by rfl) (by rfl) (by intro _ _ _;(first|refine y_7 ?_);exact Zq) (by intro _ _ _;(first|refine nD ?_);exact Zqq) ?_ ?_
   case' refine_1=>refine R.Zps (by rfl) (by intro _ _ _;(first|refine nD ?_);exact Zqq) ?_
   case' refine_2=>refine R.DA (by rfl) (by intro _ _ _;(first|refine y_7 ?_);exact Zq) ?_
   all_goals refine R.Zps (by rfl) (by intro _ _ _;(first|refine nD ?_);exact Zqq) ?_
   all_goals refine R.Zp0 ?_
   all_goals
    repeat (first|refine kX ?_|refine Z81 fun _=>?_|refine Z82 fun _=>?_)
    refine gD (by rfl) (by rfl) (by rfl) fd fd (by rfl) (by rfl) (by first | with_reducible assumption | (simp[*];done)) (by rfl) (by rfl) (by first | with_reducible assumption | (simp[*];done)) fun _ hw=>aa hw SubW.nil ⟨?_,rfl⟩
    rfl
 ·have hit:=kq t
  have hio:=cV Kf.K2.one (Kf.K2.inv t)
  have him:=aF c0 (Kf.K2.add Kf.K2.one (Kf.K2.inv t))
  obtain⟨x1,hxx⟩:∃x1:F2,x1=Kf.K2.mul c0 (Kf.K2.add Kf.K2.one (Kf.K2.inv t)):=⟨_,rfl⟩
  have hx1:x1=ir w1:=hxx.trans (hX0 h).symm
  rw[← hxx]at him
  generalize Kf.K2.add Kf.K2.one (Kf.K2.inv t)=d1 at hio him
  generalize Kf.K2.inv t=d2 at hit hio
  clear hxx hX1 hX0
  repeat (first|refine kX ?_|refine Z81 fun _=>?_|refine Z82 fun _=>?_)
  refine au (by rfl) ?_
  repeat (first|(refine Zqf (by intro _ _ _;(first|refine zd ?_|refine Nu ?_|refine fJ ?_|refine fm ?_|refine fI ?_|refine Z01 ?_|refine Z02 ?_|refine Z19 ?_|refine Z48 ?_|refine Z77 ?_|refine Z78 ?_|refine Z79 ?_);exact Zq) ?_)|refine nF ?_|refine bS hit ?_|refine bS hio ?_|refine bS him ?_|refine ft ?_)
  refine Zq0 ?_ (by kernel_rfl)
  have hr1:=fun u=>iw ha he u x1
  rw[hug]at hr1
  obtain⟨r,hr⟩:∃r,r=cT g x1:=⟨_,rfl⟩
  rw[← hr]at hr1
  have hm3:=aF w1 x1
  obtain⟨x2,hx2⟩:∃x2:F2,x2=Kf.K2.mul w1 x1:=⟨_,rfl⟩
  rw[← hx2]at hm3
  have hr2:=fun u=>iw ha he u x2
  rw[hug]at hr2
  obtain⟨s,hs⟩:∃s,s=cT g x2:=⟨_,rfl⟩
  rw[← hs]at hr2
  have hM1:=fun h=>vc hw hx1 (hr.trans (by rw[hgu])) h
  have hM0:=fun h=>vb hw hx1 (hr.trans (by rw[hgu])) h (hs.trans (by rw[hgu,hx2]))
  rw[← hx2]at hM0
  clear hr hx2 hs hw hx1 hug hgu
  obtain⟨r1,r2⟩:=r
  obtain⟨s1,s2⟩:=s
  simp only at hM1 hM0 hr1 hr2
  cases r2 with
  | true=>
   rw[hM1 rfl]
   clear hM1 hM0
   repeat (first|refine kX ?_|refine Z81 fun _=>?_|refine Z82 fun _=>?_)
   repeat (first|(refine bG ?_;intro _)|refine lY (hr1 _) ?_|refine kX ?_|refine Z81 fun _=>?_|refine Z82 fun _=>?_)
   refine R.af [0,1,2,3] (by rfl) ?_
   refine R.Zpp (by rfl) (by intro _ _ _;(first|refine y_7 ?_);exact Zq) ?_
   refine R.zm [2,3] [1,3] (by rfl) (by rfl) (by intro _ _ _;(first|refine y_7 ?_);exact Zq) (by intro _ _ _;(first|refine nD ?_);exact Zqq) ?_ ?_
   case' refine_1=>refine R.Zps (by rfl) (by intro _ _ _;(first|refine nD ?_);exact Zqq) ?_
   case' refine_2=>refine R.DA (by rfl) (by intro _ _ _;(first|refine y_7 ?_);exact Zq) ?_
   all_goals refine R.Zps (by rfl) (by intro _ _ _;(first|refine nD ?_);exact Zqq) ?_
   all_goals refine R.Zp0 ?_
   all_goals
    repeat (first|refine kX ?_|refine Z81 fun _=>?_|refine Z82 fun _=>?_)
    refine gD (by rfl) (by rfl) (by rfl) fd fd (by rfl) (by rfl) (by first | with_reducible assumption | (simp[*];done)) (by rfl) (by rfl) (by first | with_reducible assumption | (simp[*];done)) fun _ hw=>aa hw SubW.nil ⟨?_,rfl⟩
    rfl
  | false=>
   rw[hM0 rfl]
   clear hM1 hM0
   repeat (first|refine kX ?_|refine Z81 fun _=>?_|refine Z82 fun _=>?_)
   repeat (first|(refine bG ?_;intro _)|refine lY (hr1 _) ?_|refine y_4 hm3 ?_|refine lY (hr2 _) ?_|refine kX ?_|refine Z81 fun _=>?_|refine Z82 fun _=>?_)
   refine R.af [0,1,2,3] (by rfl) ?_
   refine R.Zpp (by rfl) (by intro _ _ _;(first|refine y_7 ?_);exact Zq) ?_
   refine R.zm [2,3] [1,3] (by rfl) (by rfl) (by intro _ _ _;(first|refine y_7 ?_);exact Zq) (by intro _ _ _;(first|refine nD ?_);exact Zqq) ?_ ?_
   case' refine_1=>refine R.Zps (by rfl) (by intro _ _ _;(first|refine nD ?_);exact Zqq) ?_
   case' refine_2=>refine R.DA (by rfl) (by intro _ _ _;(first|refine y_7 ?_);exact Zq) ?_
   all_goals refine R.Zps (by rfl) (by intro _ _ _;(first|refine nD ?_);exact Zqq) ?_
   all_goals refine R.Zp0 ?_
   all_goals
    repeat (first|refine kX ?_|refine Z81 fun _=>?_|refine Z82 fun _=>?_)
    refine gD (by rfl) (by rfl) (by rfl) fd fd (by rfl) (by rfl) (by first | with_reducible assumption | (simp[*];done)) (by rfl) (by rfl) (by first | with_reducible assumption | (simp[*];done)) fun _ hw=>aa hw SubW.nil ⟨?_,rfl⟩
    rfl
def c10:F2:=k2 889424345604814976315064405719089812568196182208668418962679585805340366775741747653930584250892369786198727235542 889424345604814976315064405719089812568196182208668418962679585805340366775741747653930584250892369786198727235542
theorem P5:([7077594464397203414,6640057249351452444,9850925049107374429,3658379999393219626,13500519111022079365,416399692810564414]++List.replicate (6-[7077594464397203414,6640057249351452444,9850925049107374429,3658379999393219626,13500519111022079365,416399692810564414].length) 0)++([7077594464397203414,6640057249351452444,9850925049107374429,3658379999393219626,13500519111022079365,416399692810564414]++List.replicate (6-[7077594464397203414,6640057249351452444,9850925049107374429,3658379999393219626,13500519111022079365,416399692810564414].length) 0)=E2 c10:=by decide +kernel
def c11:F2:=k2 0 2668273036814444928945193217157269437704588546626005256888038757416021100327225242961791752752677109358596181706522
theorem P6:([0,0,0,0,0,0]++List.replicate (6-[0,0,0,0,0,0].length) 0)++([2786039319482058522,1473427674344805717,11106031073612571672,10975139998179658879,3608069185647134863,1249199078431693244]++List.replicate (6-[2786039319482058522,1473427674344805717,11106031073612571672,10975139998179658879,3608069185647134863,1249199078431693244].length) 0)=E2 c11:=by decide +kernel
def c12:F2:=k2 2668273036814444928945193217157269437704588546626005256888038757416021100327225242961791752752677109358596181706526 1334136518407222464472596608578634718852294273313002628444019378708010550163612621480895876376338554679298090853261
theorem P7:([2786039319482058526,1473427674344805717,11106031073612571672,10975139998179658879,3608069185647134863,1249199078431693244]++List.replicate (6-[2786039319482058526,1473427674344805717,11106031073612571672,10975139998179658879,3608069185647134863,1249199078431693244].length) 0)++([10616391696595805069,736713837172402858,14776387573661061644,14710942035944605247,1804034592823567431,624599539215846622]++List.replicate (6-[10616391696595805069,736713837172402858,14776387573661061644,14710942035944605247,1804034592823567431,624599539215846622].length) 0)=E2 c12:=by decide +kernel
def c13:F2:=k2 3557697382419259905260257622876359250272784728834673675850718343221361467102966990615722337003569479144794908942033 0
theorem P8:([9863633783879261905,8113484923696258161,2510212049010394485,14633519997572878506,17108588296669214228,1665598771242257658]++List.replicate (6-[9863633783879261905,8113484923696258161,2510212049010394485,14633519997572878506,17108588296669214228,1665598771242257658].length) 0)++([0,0,0,0,0,0]++List.replicate (6-[0,0,0,0,0,0].length) 0)=E2 c13:=by decide +kernel
def c20:F2:=k2 0 4002409555221667393417789825735904156556882819939007885332058136124031650490837864442687629129015664037894272559715
theorem P9:([0,0,0,0,0,0]++List.replicate (6-[0,0,0,0,0,0].length) 0)++([13402431016077863523,2210141511517208575,7435674573564081700,7239337960414712511,5412103778470702295,1873798617647539866]++List.replicate (6-[13402431016077863523,2210141511517208575,7435674573564081700,7239337960414712511,5412103778470702295,1873798617647539866].length) 0)=E2 c20:=by decide +kernel
def c21:F2:=k2 12 4002409555221667393417789825735904156556882819939007885332058136124031650490837864442687629129015664037894272559775
theorem Qa:([12,0,0,0,0,0]++List.replicate (6-[12,0,0,0,0,0].length) 0)++([13402431016077863583,2210141511517208575,7435674573564081700,7239337960414712511,5412103778470702295,1873798617647539866]++List.replicate (6-[13402431016077863583,2210141511517208575,7435674573564081700,7239337960414712511,5412103778470702295,1873798617647539866].length) 0)=E2 c21:=by decide +kernel
def c22:F2:=k2 1 0
theorem Qb:([1,0,0,0,0,0]++List.replicate (6-[1,0,0,0,0,0].length) 0)++([0,0,0,0,0,0]++List.replicate (6-[0,0,0,0,0,0].length) 0)=E2 c22:=by decide +kernel
def c30:F2:=k2 3261222600550988246488569487636662646083386001431784202863158481286248011511053074731078808919938689216061999863558 3261222600550988246488569487636662646083386001431784202863158481286248011511053074731078808919938689216061999863558
theorem Qc:([1355520937843676934,18197961889718808424,17673314439684154624,1116230615302104219,6459500568425337235,1526798873638736187]++List.replicate (6-[1355520937843676934,18197961889718808424,17673314439684154624,1116230615302104219,6459500568425337235,1526798873638736187].length) 0)++([1355520937843676934,18197961889718808424,17673314439684154624,1116230615302104219,6459500568425337235,1526798873638736187]++List.replicate (6-[1355520937843676934,18197961889718808424,17673314439684154624,1116230615302104219,6459500568425337235,1526798873638736187].length) 0)=E2 c30:=by decide +kernel
def c31:F2:=k2 0 889424345604814976315064405719089812568196182208668418962679585805340366775741747653930584250892369786198727235518
theorem Qd:([0,0,0,0,0,0]++List.replicate (6-[0,0,0,0,0,0].length) 0)++([7077594464397203390,6640057249351452444,9850925049107374429,3658379999393219626,13500519111022079365,416399692810564414]++List.replicate (6-[7077594464397203390,6640057249351452444,9850925049107374429,3658379999393219626,13500519111022079365,416399692810564414].length) 0)=E2 c31:=by decide +kernel
def c32:F2:=k2 2668273036814444928945193217157269437704588546626005256888038757416021100327225242961791752752677109358596181706524 1334136518407222464472596608578634718852294273313002628444019378708010550163612621480895876376338554679298090853263
theorem Qe:([2786039319482058524,1473427674344805717,11106031073612571672,10975139998179658879,3608069185647134863,1249199078431693244]++List.replicate (6-[2786039319482058524,1473427674344805717,11106031073612571672,10975139998179658879,3608069185647134863,1249199078431693244].length) 0)++([10616391696595805071,736713837172402858,14776387573661061644,14710942035944605247,1804034592823567431,624599539215846622]++List.replicate (6-[10616391696595805071,736713837172402858,14776387573661061644,14710942035944605247,1804034592823567431,624599539215846622].length) 0)=E2 c32:=by decide +kernel
def c33:F2:=k2 2816510427748580758331037284777117739799287910327449993381818688383577828123182200904113516794492504322962636245776 0
theorem Qf:([16263467779354626832,5654561228188306393,12747851915130467410,8510412652460270214,18155985086623849168,1318599027233453979]++List.replicate (6-[16263467779354626832,5654561228188306393,12747851915130467410,8510412652460270214,18155985086623849168,1318599027233453979].length) 0)++([0,0,0,0,0,0]++List.replicate (6-[0,0,0,0,0,0].length) 0)=E2 c33:=by decide +kernel
def c40:F2:=k2 4002409555221667393417789825735904156556882819939007885332058136124031650490837864442687629129015664037894272559355 4002409555221667393417789825735904156556882819939007885332058136124031650490837864442687629129015664037894272559355
theorem Qg:([13402431016077863163,2210141511517208575,7435674573564081700,7239337960414712511,5412103778470702295,1873798617647539866]++List.replicate (6-[13402431016077863163,2210141511517208575,7435674573564081700,7239337960414712511,5412103778470702295,1873798617647539866].length) 0)++([13402431016077863163,2210141511517208575,7435674573564081700,7239337960414712511,5412103778470702295,1873798617647539866]++List.replicate (6-[13402431016077863163,2210141511517208575,7435674573564081700,7239337960414712511,5412103778470702295,1873798617647539866].length) 0)=E2 c40:=by decide +kernel
def c41:F2:=k2 0 4002409555221667393417789825735904156556882819939007885332058136124031650490837864442687629129015664037894272559571
theorem Qh:([0,0,0,0,0,0]++List.replicate (6-[0,0,0,0,0,0].length) 0)++([13402431016077863379,2210141511517208575,7435674573564081700,7239337960414712511,5412103778470702295,1873798617647539866]++List.replicate (6-[13402431016077863379,2210141511517208575,7435674573564081700,7239337960414712511,5412103778470702295,1873798617647539866].length) 0)=E2 c41:=by decide +kernel
def c42:F2:=k2 18 4002409555221667393417789825735904156556882819939007885332058136124031650490837864442687629129015664037894272559769
theorem Qi:([18,0,0,0,0,0]++List.replicate (6-[18,0,0,0,0,0].length) 0)++([13402431016077863577,2210141511517208575,7435674573564081700,7239337960414712511,5412103778470702295,1873798617647539866]++List.replicate (6-[13402431016077863577,2210141511517208575,7435674573564081700,7239337960414712511,5412103778470702295,1873798617647539866].length) 0)=E2 c42:=by decide +kernel
def Q1:List F2:=[c10,c11,c12,c13]
def Q2:List F2:=[c20,c21,c22]
def Q3:List F2:=[c30,c31,c32,c33]
def Q4:List F2:=[c40,c41,c42,c22]
abbrev GE(x y:F2)(i:Bool):Value:=GL (E2 x++E2 y) i
theorem Nw:(List.replicate (12+12) 0:List Nat)=E2 (Kf.K2.zero:F2)++E2 (Kf.K2.zero:F2):=by decide +kernel
def uX(x y:F2):F2×F2×Bool:=
 if pol x Q2=Kf.K2.zero∨pol x Q4=Kf.K2.zero then(Kf.K2.zero,Kf.K2.zero,true)
 else(Kf.K2.mul (pol x Q1) (Kf.K2.inv (pol x Q2)),Kf.K2.mul y (Kf.K2.mul (pol x Q3) (Kf.K2.inv (pol x Q4))),false)
theorem Q8{x y q2 q4:F2}(h2:q2=pol x Q2)(h4:q4=pol x Q4)(h:q2=Kf.K2.zero∨q4=Kf.K2.zero):uX x y=(Kf.K2.zero,Kf.K2.zero,true):=by
 subst h2
 subst h4
 exact if_pos h
theorem Hv{x y q1 q2 q3 q4:F2}(h1:q1=pol x Q1)(h2:q2=pol x Q2)(h3:q3=pol x Q3)(h4:q4=pol x Q4)(n2:¬q2=Kf.K2.zero)(n4:¬q4=Kf.K2.zero):uX x y=(Kf.K2.mul q1 (Kf.K2.inv q2),Kf.K2.mul y (Kf.K2.mul q3 (Kf.K2.inv q4)),false):=by
 subst h1
 subst h2
 subst h3
 subst h4
 exact if_neg fun h=>h.elim n2 n4
theorem U6{a b:Nat}(ha:a<W^6)(hb:b<W^6)(x:F2):Spec Tryz.prog 57 [LV .u64 (D 6 a++D 6 b),LV .u64 (E2 x)] ai [] (IsV (LV .u64 (E2 (Kf.K2.mul (k2 a b) x)))):=by
 have:=gN ha hb (an x.re) (an x.im);rwa [bq]at this
theorem cD{a b:Prop}(k:b)(h:Rm b→a:=by intro k;refine aq (E:=36) (v:=GL (List.replicate 24 0) false) (by kernel_rfl) (by rfl) ?_;exact k.h):a:=h ⟨k⟩
theorem CX{a b:Prop}(k:b)(h:Rm b→a:=by intro k;refine ot (m:=6) (kk:=.u64) (by rfl) (by rfl) (by rfl) (by rfl) (by rfl) (by rfl) (by rfl) (by rfl) ?_;exact k.h):a:=h ⟨k⟩
theorem o5{a b:Prop}(k:b)(h:Rm b→a:=by intro k;(first|refine Z01 ?_|refine Z03 ?_|refine Z04 ?_|refine Z05 ?_|refine Z06 ?_|refine Z07 ?_|refine Z08 ?_|refine Z09 ?_|refine Z10 ?_|refine Z11 ?_|refine Z12 ?_|refine Z13 ?_|refine Z14 ?_|refine Z24 ?_|refine Z26 ?_|refine Z27 ?_|refine Z29 ?_|refine Z30 ?_|refine Z31 ?_|refine Z32 ?_|refine Z49 ?_|refine Z50 ?_|refine Z51 ?_|refine Z52 ?_|refine Z67 ?_|refine Z77 ?_|refine Z78 ?_|refine Z79 ?_);exact k.h):a:=h ⟨k⟩
theorem rX{a b:Prop}(k:b)(h:Rm b→a:=by intro k;refine rJ (m:=12) (by rfl) (by rfl) (by kernel_rfl) (by rfl) (by rfl) ?_;rw[Nw];exact k.h):a:=h ⟨k⟩
theorem dL{a b:Prop}(k:b)(h:Rm b→a:=by intro k;refine eF (m:=24) (by rfl) (by rfl) fd (by rfl) (by first|with_reducible assumption|simp) (by first|with_reducible assumption|simp) ?_;exact k.h):a:=h ⟨k⟩
theorem yJ{a b:Prop}(k:b)(h:Rm b→a:=by intro k;refine tL (m:=12) (by rfl) (by rfl) (by kernel_rfl) (by rfl) (by simp;done) (by simp;done) (by rfl) ?_;exact k.h):a:=h ⟨k⟩
theorem rY{a b:Prop}(k:b)(h:Rm b→a:=by intro k;refine R.Zps (by rfl) (by intro _ _ _;refine eF (m:=24) (by rfl) (by rfl) fd (by rfl) (by first|with_reducible assumption|simp) (by first|with_reducible assumption|simp) ?_;exact Zqq) ?_;exact k.h):a:=h ⟨k⟩
theorem Pd{a b:Prop}(k:b)(h:Rm b→a:=by intro k;(first|refine rX ?_|refine dL ?_|refine Z01 ?_|refine Z03 ?_|refine Z04 ?_|refine Z05 ?_|refine Z06 ?_|refine Z07 ?_|refine Z08 ?_|refine Z09 ?_|refine Z10 ?_|refine Z11 ?_|refine Z12 ?_|refine Z13 ?_|refine Z14 ?_|refine Z24 ?_|refine Z26 ?_|refine Z27 ?_|refine Z29 ?_|refine Z30 ?_|refine Z31 ?_|refine Z32 ?_|refine Z49 ?_|refine Z50 ?_|refine Z51 ?_|refine Z52 ?_|refine Z67 ?_|refine Z77 ?_|refine Z78 ?_|refine Z79 ?_);exact k.h):a:=h ⟨k⟩
theorem gb{a b:Prop}(k:b)(h:Rm b→a:=by intro k;(first|refine aA ?_|refine rY ?_);exact k.h):a:=h ⟨k⟩
set_option maxHeartbeats 16000000 in
theorem Hx{a e f g:Nat}(ha:a<W^6)(he:e<W^6)(hf:f<W^6)(hg:g<W^6):Spec Tryz.prog 42 [LV .u64 (D 6 a++D 6 e),LV .u64 (D 6 f++D 6 g)] ai [] (IsV (GE (uX (k2 a e) (k2 f g)).1 (uX (k2 a e) (k2 f g)).2.1 (uX (k2 a e) (k2 f g)).2.2)):=by
 refine ad Tryz.func42 rfl rfl rfl fun w _=>?_
 have hl0:=fun x=>ae 6 x
 have hle:=fun x:F2=>ak x
 have hp1:∀b,Spec Tryz.prog 81 [LV .u64 (D 6 a++D 6 e),slv b 4] (fun w=>eL w b (LV .u64 (Q1.map E2).flatten) 34) [] (IsV (LV .u64 (E2 (pol (k2 a e) Q1)))):=fun b=>iZ ha he b 4 Q1 rfl (by decide)
 have hp2:∀b,Spec Tryz.prog 81 [LV .u64 (D 6 a++D 6 e),slv b 3] (fun w=>eL w b (LV .u64 (Q2.map E2).flatten) 34) [] (IsV (LV .u64 (E2 (pol (k2 a e) Q2)))):=fun b=>iZ ha he b 3 Q2 rfl (by decide)
 have hp3:∀b,Spec Tryz.prog 81 [LV .u64 (D 6 a++D 6 e),slv b 4] (fun w=>eL w b (LV .u64 (Q3.map E2).flatten) 34) [] (IsV (LV .u64 (E2 (pol (k2 a e) Q3)))):=fun b=>iZ ha he b 4 Q3 rfl (by decide)
 have hp4:∀b,Spec Tryz.prog 81 [LV .u64 (D 6 a++D 6 e),slv b 4] (fun w=>eL w b (LV .u64 (Q4.map E2).flatten) 34) [] (IsV (LV .u64 (E2 (pol (k2 a e) Q4)))):=fun b=>iZ ha he b 4 Q4 rfl (by decide)
 have hmy:=fun x=>U6 hf hg x
 generalize k2 a e=x at hp1 hp2 hp3 hp4
 generalize k2 f g=y at hmy
 obtain⟨q1,h1⟩:∃q,q=pol x Q1:=⟨_,rfl⟩
 obtain⟨q2,h2⟩:∃q,q=pol x Q2:=⟨_,rfl⟩
 obtain⟨q3,h3⟩:∃q,q=pol x Q3:=⟨_,rfl⟩
 obtain⟨q4,h4⟩:∃q,q=pol x Q4:=⟨_,rfl⟩
 have hI1:=Q8 (y:=y) h2 h4
 have hI0:=Hv (y:=y) h1 h2 h3 h4
 rw[← h1]at hp1
 rw[← h2]at hp2
 rw[← h3]at hp3
 rw[← h4]at hp4
 clear h1 h2 h3 h4
 repeat (first|(refine bG ?_;intro _)|(refine cD ?_;intro _)|refine CX ?_|(refine cz (by rfl) (by rfl) (by rfl) (by rfl) (by simp;done) (by simp;done) (by rfl) ?_;first | rw[P5] | rw[P6] | rw[P7] | rw[P8] | rw[P9] | rw[Qa] | rw[Qb] | rw[Qc] | rw[Qd] | rw[Qe] | rw[Qf] | rw[Qg] | rw[Qh] | rw[Qi])|refine av (m:=12) (kk:=.u64) (vss:=Q2.map E2) (by rfl) (by rfl) (by rfl) (by rfl) (by rfl) (by rfl) (by rfl) kg (by rfl) (by rfl) fun _=>?_|refine av (m:=12) (kk:=.u64) (vss:=Q4.map E2) (by rfl) (by rfl) (by rfl) (by rfl) (by rfl) (by rfl) (by rfl) kg (by rfl) (by rfl) fun _=>?_|refine lY (hp2 _) ?_|refine lY (hp4 _) ?_|refine o5 ?_|refine Z81 fun _=>?_|refine Z82 fun _=>?_|refine Z85 fun _=>?_)
 by_cases z2:q2=Kf.K2.zero
 ·have hz2:(decide (D 6 q2.re.val=D 6 (Kf.K2.zero:F2).re.val)&&decide (D 6 q2.im.val=D 6 (Kf.K2.zero:F2).im.val))=true:=by rw[z2];exact fM _
  rw[hI1 (.inl z2)]
  repeat (first|refine nG ?_|refine dF hz2 ?_|refine Pd ?_|refine Z81 fun _=>?_|refine Z82 fun _=>?_|refine Z85 fun _=>?_)
  refine aQ (m:=24) (by rfl) (by rfl) fd (by rfl) (by rfl) (by first|with_reducible assumption|simp) fun _ hw=>aa hw SubW.nil ⟨?_,rfl⟩
  rfl
 ·by_cases z4:q4=Kf.K2.zero
  ·have hz4:(decide (D 6 q4.re.val=D 6 (Kf.K2.zero:F2).re.val)&&decide (D 6 q4.im.val=D 6 (Kf.K2.zero:F2).im.val))=true:=by rw[z4];exact fM _
   rw[hI1 (.inr z4)]
   repeat (first|refine nG ?_|refine dF (cN z2) ?_|refine dF hz4 ?_|refine Pd ?_|refine Z81 fun _=>?_|refine Z82 fun _=>?_|refine Z85 fun _=>?_)
   refine aQ (m:=24) (by rfl) (by rfl) fd (by rfl) (by rfl) (by first|with_reducible assumption|simp) fun _ hw=>aa hw SubW.nil ⟨?_,rfl⟩
   rfl
  ·rw[hI0 z2 z4]
   have hi2:=kq q2
   have hm2:=aF q1 (Kf.K2.inv q2)
   have hi4:=kq q4
   have hm4:=aF q3 (Kf.K2.inv q4)
   have hmm:=hmy (Kf.K2.mul q3 (Kf.K2.inv q4))
   generalize Kf.K2.mul y (Kf.K2.mul q3 (Kf.K2.inv q4))=s1 at hmm ⊢
   generalize Kf.K2.mul q3 (Kf.K2.inv q4)=s2 at hm4 hmm
   generalize Kf.K2.inv q4=s3 at hi4 hm4
   generalize Kf.K2.mul q1 (Kf.K2.inv q2)=s4 at hm2 ⊢
   generalize Kf.K2.inv q2=s5 at hi2 hm2
   clear hI0 hI1
   repeat (first|(refine bG ?_;intro _)|refine CX ?_|(refine cz (by rfl) (by rfl) (by rfl) (by rfl) (by simp;done) (by simp;done) (by rfl) ?_;first | rw[P5] | rw[P6] | rw[P7] | rw[P8] | rw[P9] | rw[Qa] | rw[Qb] | rw[Qc] | rw[Qd] | rw[Qe] | rw[Qf] | rw[Qg] | rw[Qh] | rw[Qi])|refine nG ?_|refine dF (cN z2) ?_|refine dF (cN z4) ?_|refine av (m:=12) (kk:=.u64) (vss:=Q1.map E2) (by rfl) (by rfl) (by rfl) (by rfl) (by rfl) (by rfl) (by rfl) kg (by rfl) (by rfl) fun _=>?_|refine lY (hp1 _) ?_|refine o5 ?_|refine Z81 fun _=>?_|refine Z82 fun _=>?_|refine Z85 fun _=>?_)
   clear hp1
   repeat (first|(refine bG ?_;intro _)|refine CX ?_|(refine cz (by rfl) (by rfl) (by rfl) (by rfl) (by simp;done) (by simp;done) (by rfl) ?_;first | rw[P5] | rw[P6] | rw[P7] | rw[P8] | rw[P9] | rw[Qa] | rw[Qb] | rw[Qc] | rw[Qd] | rw[Qe] | rw[Qf] | rw[Qg] | rw[Qh] | rw[Qi])|refine av (m:=12) (kk:=.u64) (vss:=Q3.map E2) (by rfl) (by rfl) (by rfl) (by rfl) (by rfl) (by rfl) (by rfl) kg (by rfl) (by rfl) fun _=>?_|refine lY (hp3 _) ?_|refine o5 ?_|refine Z81 fun _=>?_|refine Z82 fun _=>?_|refine Z85 fun _=>?_)
   refine R.af [0,1,2,3,4,5,6,7,8,9,10,11] (by rfl) ?_
   repeat (first|(refine R.Zpf (by rfl) (by intro _ _ _;(first|refine yJ ?_|refine eO ?_|refine fm ?_|refine fI ?_|refine Z01 ?_|refine Z49 ?_|refine Z50 ?_|refine Z77 ?_|refine Z78 ?_|refine Z79 ?_);exact Zq) ?_)|refine aL ?_|refine cw ?_|refine ag hi2 ?_|refine ag hm2 ?_|refine ag hi4 ?_|refine ag hm4 ?_|refine ag hmm ?_|refine gb ?_|(refine sn ?_;intro _))
   refine R.Zp0 ?_
   repeat (first|refine o5 ?_|refine Z81 fun _=>?_|refine Z82 fun _=>?_|refine Z85 fun _=>?_)
   refine aQ (m:=24) (by rfl) (by rfl) fd (by rfl) (by rfl) (by first|with_reducible assumption|simp) fun _ hw=>aa hw SubW.nil ⟨?_,rfl⟩
   rfl
end
section
attribute [local irreducible] Code.wp wpList Af bodyPost L.Go
open Num
theorem Ct(x:F2):cm x=Kf.K2.add (Kf.K2.add (Kf.K2.mul (Kf.K2.mul x x) x) (Kf.K2.mul ac x)) bc:=by
 have h1:cm x=Kf.K2.add (Kf.K2.mul (Kf.K2.add (Kf.K2.mul (Kf.K2.add (Kf.K2.mul (Kf.K2.add (Kf.K2.mul Kf.K2.zero x) Kf.K2.one) x) Kf.K2.zero) x) ac) x) bc:=rfl
 rw[h1,Kf.K2.aG,Kf.K2.aM,Kf.K2.aR,Kf.K2.add_zero',Kf.K2.cQ]
def As:List F2→List F2→List F2
 | [],q=>q
 | a::p,[]=>a::p
 | a::p,b::q=>Kf.K2.add a b::As p q
def jS:List F2→List F2→List F2
 | [],_=>[]
 | a::p,q=>As (q.map (Kf.K2.mul a)) (Kf.K2.zero::jS p q)
theorem gX(x c:F2)(r:List F2):pol x (c::r)=Kf.K2.add (Kf.K2.mul (pol x r) x) c:=rfl
theorem pK(x:F2):pol x []=Kf.K2.zero:=rfl
theorem rl(x:F2):∀p q:List F2,pol x (As p q)=Kf.K2.add (pol x p) (pol x q)
 | [],q=>by rw[As,pK,Kf.K2.aM]
 | a::p,[]=>by rw[As,pK,Kf.K2.add_zero']
 | a::p,b::q=>by
  rw[As,gX,gX,gX,rl x p q,Kf.K2.cQ]
  ac_rfl
theorem tC(x a:F2):∀q:List F2,pol x (q.map (Kf.K2.mul a))=Kf.K2.mul a (pol x q)
 | []=>by rw[List.map_nil,pK,Kf.K2.aj]
 | b::q=>by
  rw[List.map_cons,gX,gX,tC x a q,Kf.K2.mul_add',Kf.K2.mul_assoc']
theorem cS(x:F2):∀p q:List F2,pol x (jS p q)=Kf.K2.mul (pol x p) (pol x q)
 | [],q=>by rw[jS,pK,Kf.K2.aG]
 | a::p,q=>by
  rw[jS,rl,tC,gX,gX,cS x p q,Kf.K2.add_zero',Kf.K2.cQ,Kf.K2.add_comm']
  congr 1
  ac_rfl
theorem NB:ac≠Kf.K2.zero:=by decide +kernel
theorem Dw:zc≠Kf.K2.zero:=by decide +kernel
theorem Uo:Kf.isq (kp 5)=false:=by
 have h:Kf.isq (-kp 5)=true:=(Kf.bZ p_3).2 ⟨kp 3754115229487400743760384662840082984744650971178826659753975400945528899667118516813924993650507119217982417812692,by decide +kernel⟩
 have h2:=Kf.fP p_3 (a:=kp 5) (by decide +kernel)
 rw[h]at h2
 cases h3:Kf.isq (kp 5)
 ·rfl
 ·rw[h3]at h2;exact absurd h2 (by decide)
theorem PL:Kf.K2.gw zc=false:=by
 rw[Kf.K2.fB p_3,show Kf.K2.bV zc=kp 5 by decide +kernel]
 exact Uo
theorem Ao:Kf.K2.gw (Kf.K2.neg Kf.K2.one:F2)=true:=(Kf.K2.eX p_3).2 ⟨⟨0,1⟩,by decide +kernel⟩
theorem Nx:Kf.K2.gw (Kf.K2.zero:F2)=true:=(Kf.K2.eX p_3).2 ⟨Kf.K2.zero,by decide +kernel⟩
theorem CV{u:F2}(h:wz u=Kf.K2.zero):u=Kf.K2.zero:=by
 rcases Kf.K2.aW p_3 h with h1 | h1
 ·exact absurd h1 Dw
 ·rcases Kf.K2.aW p_3 h1 with h2 | h2 <;> exact h2
theorem Nd{u:F2}(h:tz (wz u)=Kf.K2.zero):u=Kf.K2.zero:=by
 have e:tz (wz u)=Kf.K2.mul (wz u) (Kf.K2.add (wz u) Kf.K2.one):=by rw[tz,Kf.K2.mul_add',Kf.K2.mul_one']
 rw[e]at h
 rcases Kf.K2.aW p_3 h with h1 | h1
 ·exact CV h1
 ·exfalso
  have h2:wz u=Kf.K2.neg Kf.K2.one:=Kf.K2.aP h1
  have hu:u≠Kf.K2.zero:=by
   rintro rfl
   rw[wz,Kf.K2.aj,Kf.K2.aj]at h2
   exact absurd h2 (by decide +kernel)
  have h3:=Kf.K2.qQ p_3 Dw (Kf.K2.bP p_3 hu hu)
  rw[show Kf.K2.mul zc (Kf.K2.mul u u)=wz u from rfl,h2,Ao,PL,Kf.K2.BS p_3]at h3
  exact absurd h3 (by decide)
def x00:F2:=k2 253485938497372268249793355629940596581935911929470499404363681954522004531086398081370216511504325389066637262119 3241951739729550588668409758846082366811075084150596387118967090260465636897578670198576979594502687870694360773430
def y00:F2:=k2 391013756818087021228608844186469378708965029305944648629640836944759185027123020480318340657013194950516187264795 3578796461873081174841411974298466426866052387096285028890861355461367155938811896227938614244375769879856986283402
theorem SL:ir (wz Kf.K2.zero)=x00:=by
 rw[ir,if_pos (by decide +kernel)]
 exact Kf.K2.du p_3 (by decide +kernel) (by decide +kernel)
theorem SM:Kf.K2.mul y00 y00=cm x00:=by decide +kernel
theorem Sd{u:F2}(h:¬u=Kf.K2.zero):cm (Kf.K2.mul (wz u) (ir (wz u)))=Kf.K2.mul (Kf.K2.mul (Kf.K2.mul (wz u) (wz u)) (wz u)) (cm (ir (wz u))):=by
 have ht:¬tz (wz u)=Kf.K2.zero:=fun e=>h (Nd e)
 rw[Ct,Ct]
 refine Kf.K2.Jc (s:=Kf.K2.inv (tz (wz u))) (Kf.K2.aI p_3 ht) ?_
 rw[ir,if_neg ht]
 exact Kf.K2.Sk (Kf.K2.aI p_3 NB)
theorem Ig{u:F2}(h:Kf.K2.gw (cm (ir (wz u)))=false):Kf.K2.gw (cm (Kf.K2.mul (wz u) (ir (wz u))))=true:=by
 by_cases hu:u=Kf.K2.zero
 ·subst hu
  rw[SL]at h
  have:=(Kf.K2.eX p_3).2 ⟨y00,SM⟩
  rw[h]at this
  exact absurd this (by decide)
 ·rw[Sd hu]
  have hs:cm (ir (wz u))≠Kf.K2.zero:=by
   intro e
   rw[e,Nx]at h
   exact absurd h (by decide)
  have e:Kf.K2.mul (Kf.K2.mul (Kf.K2.mul (wz u) (wz u)) (wz u)) (cm (ir (wz u)))=Kf.K2.mul (Kf.K2.mul zc (cm (ir (wz u)))) (Kf.K2.mul (Kf.K2.mul (wz u) u) (Kf.K2.mul (wz u) u)):=by
   have:Kf.K2.mul (Kf.K2.mul (wz u) (wz u)) (wz u)=Kf.K2.mul (Kf.K2.mul (wz u) (wz u)) (Kf.K2.mul zc (Kf.K2.mul u u)):=rfl
   rw[this]
   ac_rfl
  have hw:wz u≠Kf.K2.zero:=fun e=>hu (CV e)
  have hm:=Kf.K2.bP p_3 hw hu
  rw[e,Kf.K2.qQ p_3 (Kf.K2.bP p_3 Dw hs) (Kf.K2.bP p_3 hm hm),Kf.K2.qQ p_3 Dw hs,Kf.K2.BS p_3,PL,h]
  rfl
theorem ME{g:Nat}{r s:F2×Bool}{y:F2}(h2:Kf.K2.mul r.1 r.1=y)(h1:Kf.K2.sgn r.1=g→s=(r.1,r.2))(h0:¬Kf.K2.sgn r.1=g→s=(Kf.K2.neg r.1,r.2)):Kf.K2.mul s.1 s.1=y:=by
 by_cases hg:Kf.K2.sgn r.1=g
 ·rw[h1 hg];exact h2
 ·rw[h0 hg]
  show Kf.K2.mul (Kf.K2.neg r.1) (Kf.K2.neg r.1)=y
  rw[Kf.K2.oK];exact h2
theorem I0{g:Nat}(hg2:g<2){r s:F2×Bool}(hr:r.1≠Kf.K2.zero)(h1:Kf.K2.sgn r.1=g→s=(r.1,r.2))(h0:¬Kf.K2.sgn r.1=g→s=(Kf.K2.neg r.1,r.2)):Kf.K2.sgn s.1=g:=by
 by_cases hg:Kf.K2.sgn r.1=g
 ·rw[h1 hg];exact hg
 ·rw[h0 hg]
  show Kf.K2.sgn (Kf.K2.neg r.1)=g
  have e1:=Kf.K2.xY p_3 hr
  have e2:=Kf.K2.AD r.1
  omega
theorem xV{g:Nat}{x:F2}(h:Kf.K2.gw (cm x)=true):Kf.K2.mul (cT g x).1 (cT g x).1=cm x:=by
 rcases Kf.K2.jC p_3 (cm x)with⟨_,h2,_⟩ | ⟨h1,_,_⟩
 ·exact ME h2 (pN rfl rfl) (pM rfl rfl)
 ·rw[Kf.K2.qO,h1]at h
  exact absurd h (by decide)
theorem EE{g:Nat}(hg:g<2){x:F2}(h:Kf.K2.gw (cm x)=true)(hs:cm x≠Kf.K2.zero):Kf.K2.sgn (cT g x).1=g:=by
 rcases Kf.K2.jC p_3 (cm x)with⟨_,h2,_⟩ | ⟨h1,_,_⟩
 ·refine I0 hg (fun e=>hs ?_) (pN rfl rfl) (pM rfl rfl)
  rw[← h2,e,Kf.K2.aj]
 ·rw[Kf.K2.qO,h1]at h
  exact absurd h (by decide)
theorem I5{g:Nat}{r s:F2×Bool}{b:Bool}(hb:b=r.2)(h1:Kf.K2.sgn r.1=g→s=(r.1,r.2))(h0:¬Kf.K2.sgn r.1=g→s=(Kf.K2.neg r.1,r.2)):s.2=b:=by
 by_cases hg:Kf.K2.sgn r.1=g
 ·rw[h1 hg];exact hb.symm
 ·rw[h0 hg];exact hb.symm
theorem pO(g:Nat)(x:F2):(cT g x).2=Kf.K2.gw (cm x):=I5 (Kf.K2.qO _) (pN rfl rfl) (pM rfl rfl)
theorem D7(u:F2):∃x,iX u=(x,(cT (Kf.K2.sgn u) x).1)∧Kf.K2.gw (cm x)=true:=by
 cases h:(cT (Kf.K2.sgn u) (ir (wz u))).2
 ·have e:=vb (u:=u) rfl rfl rfl h rfl
  rw[pO]at h
  exact⟨_,e,Ig h⟩
 ·have e:=vc (u:=u) rfl rfl rfl h
  rw[pO]at h
  exact⟨_,e,h⟩
theorem BZ(u:F2):Kf.K2.mul (iX u).2 (iX u).2=cm (iX u).1:=by
 obtain⟨x,e,h⟩:=D7 u
 rw[e]
 exact xV h
end
end Go.Proofs.YtndhfbecpghinaaGreat.L
