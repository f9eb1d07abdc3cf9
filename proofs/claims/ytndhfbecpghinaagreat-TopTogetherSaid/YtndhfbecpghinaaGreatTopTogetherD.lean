/- What the proof of the statement about TopTogether stands on, part D. Conditions: as each statement says. -/
import Derived.Test.YtndhfbecpghinaaGreatTopTogetherC
import Derived.Test.YtndhfbecpghinaaGreatProg
namespace Go.Proofs.YtndhfbecpghinaaGreat.L.Kf
open Pr
namespace K2
variable {n:Nat} [NeZero n]
theorem aY(x y:K2 n):conj (mul x y)=mul (conj x) (conj y):=by
 unfold conj mul
 exact ext' (by grind) (by grind)
theorem ew(x:K2 n):conj (conj x)=x:=ext' rfl (show - -x.im=x.im by grind)
theorem BB(x:K2 n):∀k,conj (pw x k)=pw (conj x) k
 | 0=>by unfold conj pw one;exact ext' rfl (show-(0:Fin n)=0 by grind)
 | k+1=>by rw[pw,aY,BB x k];rfl
end K2
namespace T12
variable {n:Nat} [NeZero n]
attribute [local irreducible] K2.add K2.mul K2.sub K2.neg K2.zero K2.one K2.inv K2.xi add mul sub neg zero one inv conj e6 e2 w T6.add T6.mul T6.sub T6.neg T6.zero T6.one T6.inv T6.vv T6.em
theorem am(x:T12 n):mul x one=x:=CR.mul_one' x
theorem bj(x:T12 n):mul one x=x:=CR.aR x
theorem Ib(a b c d:T12 n):mul (mul a b) (mul c d)=mul (mul a c) (mul b d):=CR.aH (x:=(.m (.m (.v 0) (.v 1)) (.m (.v 2) (.v 3)))) (y:=(.m (.m (.v 0) (.v 2)) (.m (.v 1) (.v 3)))) (by decide +kernel) [a,b,c,d]
def qq(x:T12 n):T12 n:=mul (conj x) (inv x)
def fin(N:Nat)(x:T12 n):T12 n:=CR.pw (qq x) N
variable (tw:T6.Tw n)
include tw
theorem bQ{x y:T12 n}(hx:x≠zero)(hy:y≠zero):mul x y≠zero:=fun h=>(aW tw h).elim hx hy
theorem tu{x y:T12 n}(h:mul x y=one):x≠zero:=fun e=>cH tw (h.symm.trans (by rw[e];exact CR.aG y))
theorem Aj{x y:T12 n}(h:mul x y=one):inv x=y:=by
 have h2:=aI tw (tu tw h)
 rw[← am (inv x),← h,← mul_assoc',mul_comm' (inv x),h2,bj]
theorem LH{x y:T12 n}(hx:x≠zero)(hy:y≠zero):inv (mul x y)=mul (inv x) (inv y):=
 Aj tw (by rw[Ib,aI tw hx,aI tw hy,am])
theorem jm{x:T12 n}(hx:x≠zero):conj x≠zero:=by
 have h:=congrArg conj (aI tw hx)
 rw[aY,fW]at h
 exact tu tw h
theorem IY{x y:T12 n}(hx:x≠zero)(hy:y≠zero):qq (mul x y)=mul (qq x) (qq y):=by
 rw[qq,aY,LH tw hx hy,Ib];rfl
theorem U8{x:T6 n}(hx:e6 x≠zero):qq (e6 x)=one:=by rw[qq,Bz,aI tw hx]
theorem Cz{x:T12 n}(hx:x≠zero):mul (qq (conj x)) (qq x)=one:=by
 rw[qq,qq,ew,Ib,mul_comm' x,← Ib,aI tw (jm tw hx),aI tw hx,am]
theorem Lc{x:T12 n}(hx:x≠zero):conj (qq x)=qq (conj x):=by
 rw[qq,qq,aY]
 congr 1
 symm
 apply Aj tw
 rw[← aY,aI tw hx,fW]
theorem dq{N:Nat}{x y:T12 n}(hx:x≠zero)(hy:y≠zero):fin N (mul x y)=mul (fin N x) (fin N y):=by
 rw[fin,IY tw hx hy];exact CR.ef _ _ _
theorem nX{N:Nat}{x:T6 n}(hx:e6 x≠zero):fin N (e6 x)=one:=by
 rw[fin,U8 tw hx];exact CR.rq _
theorem j4{N:Nat}{x:T12 n}(hx:x≠zero):mul (fin N (conj x)) (fin N x)=one:=by
 show CR.mul (CR.pw _ _) (CR.pw _ _)=_
 rw[← CR.ef]
 show CR.pw (mul _ _) _=_
 rw[Cz tw hx];exact CR.rq _
theorem Oz{x:T12 n}(hx:x≠zero):∀k,CR.pw x k≠zero
 | 0=>cH tw
 | k+1=>bQ tw (Oz hx k) hx
theorem OA{x:T12 n}(hx:x≠zero):∀k,qq (CR.pw x k)=CR.pw (qq x) k
 | 0=>by
  show qq one=one
  rw[qq,fW,bj]
  exact Aj tw (am _)
 | k+1=>by
  rw[CR.li,CR.li,← OA hx k];exact IY tw (Oz tw hx k) hx
theorem QV{N:Nat}{x:T12 n}(hx:x≠zero)(k:Nat):fin N (CR.pw x k)=CR.pw (fin N x) k:=by
 rw[fin,OA tw hx,← CR.bN,Nat.mul_comm,CR.bN];rfl
omit tw
def frc(h:K2 n)(x:T12 n):T12 n:=
 ⟨⟨K2.mul x.a.a (K2.pw h 0),K2.mul x.a.b (K2.pw h 2),K2.mul x.a.c (K2.pw h 4)⟩,⟨K2.mul x.b.a (K2.pw h 1),K2.mul x.b.b (K2.pw h 3),K2.mul x.b.c (K2.pw h 5)⟩⟩
theorem iY(g c:K2 n)(k:Nat):K2.mul (K2.conj (K2.mul (K2.conj c) (K2.pw g k))) (K2.pw g k)=K2.mul c (K2.pw (K2.mul (K2.conj g) g) k):=by
 rw[K2.aY,K2.ew,K2.BB,K2.mul_assoc',K2.ef]
theorem Lp(g:K2 n)(x:T12 n):frb g (frb g x)=frc (K2.mul (K2.conj g) g) x:=by
 have h0:=iY g x.a.a 0
 have h1:=iY g x.b.a 1
 have e0:K2.pw g 0=K2.one:=rfl
 rw[e0,K2.mul_one',K2.mul_one',K2.ew]at h0
 rw[K2.AM]at h1
 unfold frb frc
 rw[iY,iY,iY,iY,h1,← h0,K2.ew]
theorem BQ(h k:K2 n)(x:T12 n):frc h (frc k x)=frc (K2.mul k h) x:=by
 unfold frc
 simp only[K2.ef,K2.mul_assoc']
theorem Hb(x:T12 n):frc (K2.neg K2.one) x=conj x:=by
 have h1:∀c:K2 n,K2.mul c (K2.neg K2.one)=K2.neg c:=fun c=>by rw[K2.eZ,K2.mul_one']
 have e0:K2.pw (K2.neg (K2.one:K2 n)) 0=K2.one:=rfl
 have e1:∀k,K2.pw (K2.neg (K2.one:K2 n)) (k+2)=K2.pw (K2.neg K2.one) k:=fun k=>by
  show K2.mul (K2.mul _ _) _=_
  rw[h1,h1,K2.bv]
 have e2:K2.pw (K2.neg (K2.one:K2 n)) 1=K2.neg K2.one:=K2.AM _
 unfold frc conj T6.neg
 rw[e1 0,e1 2,e1 0,e1 1,e1 3,e1 1,e0,e2]
 simp only[h1,K2.mul_one']
include tw
theorem IW{m:Nat}(hm:n=6*m+1)(x:T12 n):CR.pw x (n*n)=frc (K2.mul (K2.conj (K2.pw K2.xi m)) (K2.pw K2.xi m)) x:=by
 rw[CR.bN,rC tw hm,rC tw hm,Lp]
theorem Oy{m:Nat}(hm:n=6*m+1)(h3:K2.pw (K2.mul (K2.conj (K2.pw K2.xi m)) (K2.pw K2.xi m)) 3=K2.neg (K2.one:K2 n))(x:T12 n):CR.pw x (n*n*(n*n)*(n*n))=conj x:=by
 rw[CR.bN x (n*n*(n*n)) (n*n),CR.bN x (n*n) (n*n),IW tw hm,IW tw hm,IW tw hm,BQ,BQ,← Hb,← h3]
 show frc _ x=frc (K2.mul (K2.mul (K2.mul K2.one _) _) _) x
 rw[K2.aR]
 congr 1
 exact(K2.mul_assoc' _ _ _).symm
theorem GY{m N r:Nat}(hm:n=6*m+1)(h3:K2.pw (K2.mul (K2.conj (K2.pw K2.xi m)) (K2.pw K2.xi m)) 3=K2.neg (K2.one:K2 n))(hr:n*n*(n*n)*(n*n)+1∣N*r){x:T12 n}(hx:x≠zero):CR.pw (fin N x) r=one:=by
 obtain⟨c,hc⟩:=hr
 rw[fin,← CR.bN,hc,CR.bN,CR.li,Oy tw hm h3,Lc tw hx]
 show CR.pw (mul _ _) c=_
 rw[Cz tw hx];exact CR.rq _
end T12
end Go.Proofs.YtndhfbecpghinaaGreat.L.Kf
namespace Go.Proofs.YtndhfbecpghinaaGreat.L.Kf
open Pr
namespace K2
variable {n:Nat} [NeZero n]
attribute [local irreducible] add mul sub neg zero one inv xi
structure LD (l x1 y1 x2 y2 x3 y3:K2 n):Prop where
 a:add y1 y3=mul l (sub x1 x3)
 b:add y2 y3=mul l (sub x2 x3)
 s:add (add x1 x2) x3=mul l l
 p:add (mul x1 x2) (mul (add x1 x2) x3)=mul (add l l) (add y3 (mul l x3))
theorem Slp.ld{l x1 y1 x2 y2:K2 n}(h:Slp l x1 y1 x2 y2):LD l x1 y1 x2 y2 (cx l x1 x2) (cy l x1 y1 x2):=
  ⟨CR.aH (x:=(.a (.v 2) (.s (.m (.v 0) (.s (.v 1) (.s (.s (.m (.v 0) (.v 0)) (.v 1)) (.v 3)))) (.v 2)))) (y:=(.m (.v 0) (.s (.v 1) (.s (.s (.m (.v 0) (.v 0)) (.v 1)) (.v 3))))) (by decide +kernel) [l,x1,y1,x2],
   CR.lin (x:=(.a (.v 4) (.s (.m (.v 0) (.s (.v 1) (.s (.s (.m (.v 0) (.v 0)) (.v 1)) (.v 3)))) (.v 2)))) (y:=(.m (.v 0) (.s (.v 3) (.s (.s (.m (.v 0) (.v 0)) (.v 1)) (.v 3))))) [((.c (-1)),(.v 2),(.a (.v 4) (.m (.v 0) (.s (.v 1) (.v 3)))))] (by decide +kernel) [l,x1,y1,x2,y2] ⟨h.a,trivial⟩,
   CR.aH (x:=(.a (.a (.v 1) (.v 2)) (.s (.s (.m (.v 0) (.v 0)) (.v 1)) (.v 2)))) (y:=(.m (.v 0) (.v 0))) (by decide +kernel) [l,x1,x2],
   CR.lin (x:=(.a (.m (.v 1) (.v 3)) (.m (.a (.v 1) (.v 3)) (.s (.s (.m (.v 0) (.v 0)) (.v 1)) (.v 3))))) (y:=(.m (.a (.v 0) (.v 0)) (.a (.s (.m (.v 0) (.s (.v 1) (.s (.s (.m (.v 0) (.v 0)) (.v 1)) (.v 3)))) (.v 2)) (.m (.v 0) (.s (.s (.m (.v 0) (.v 0)) (.v 1)) (.v 3)))))) [((.v 0),(.v 2),(.a (.v 4) (.m (.v 0) (.s (.v 1) (.v 3))))),((.c 1),(.m (.v 0) (.a (.v 2) (.v 4))),(.a (.a (.m (.v 1) (.v 1)) (.m (.v 1) (.v 3))) (.m (.v 3) (.v 3))))] (by decide +kernel) [l,x1,y1,x2,y2] ⟨h.a,h.b,trivial⟩⟩
theorem LD.c{b l x1 y1 x2 y2 x3 y3:K2 n}(h:LD l x1 y1 x2 y2 x3 y3)(h3:mul y3 y3=add (mul (mul x3 x3) x3) b):mul (mul x1 x2) x3=sub (mul (add y3 (mul l x3)) (add y3 (mul l x3))) b:=
 CR.lin (x:=(.m (.m (.v 2) (.v 3)) (.v 4))) (y:=(.s (.m (.a (.v 5) (.m (.v 1) (.v 4))) (.a (.v 5) (.m (.v 1) (.v 4)))) (.v 0))) [((.m (.m (.c (-1)) (.v 4)) (.v 4)),(.a (.a (.v 2) (.v 3)) (.v 4)),(.m (.v 1) (.v 1))),((.m (.c 1) (.v 4)),(.a (.m (.v 2) (.v 3)) (.m (.a (.v 2) (.v 3)) (.v 4))),(.m (.a (.v 1) (.v 1)) (.a (.v 5) (.m (.v 1) (.v 4))))),((.c (-1)),(.m (.v 5) (.v 5)),(.a (.m (.m (.v 4) (.v 4)) (.v 4)) (.v 0)))] (by decide +kernel) [b,l,x1,x2,x3,y3] ⟨h.s,h.p,h3,trivial⟩
def nA(l1 l2 x:K2 n):K2 n:=add x (mul l1 l2)
def nB(l1 l2:K2 n):K2 n:=neg (add l1 l2)
def nC(l1 l2 x y:K2 n):K2 n:=sub (sub (mul x x) (mul (mul l1 l2) x)) (mul (sub l2 l1) y)
section
variable {b l1 l2 x1 y1 x2 y2 xs ys x3 y3 x4 y4:K2 n} (h:LD l1 x1 y1 x2 y2 xs ys) (k:LD l2 xs ys x3 y3 x4 y4) (hs:mul ys ys=add (mul (mul xs xs) xs) b)
include h k
theorem nr1:sub (add (nA l1 l2 xs) (nA l1 l2 xs)) (mul (nB l1 l2) (nB l1 l2))=neg (add (add (add x1 x2) x3) x4):=
 CR.lin (x:=(.s (.a (.a (.v 4) (.m (.v 0) (.v 1))) (.a (.v 4) (.m (.v 0) (.v 1)))) (.m (.n (.a (.v 0) (.v 1))) (.n (.a (.v 0) (.v 1)))))) (y:=(.n (.a (.a (.a (.v 2) (.v 3)) (.v 6)) (.v 7)))) [((.c 1),(.a (.a (.v 2) (.v 3)) (.v 4)),(.m (.v 0) (.v 0))),((.c 1),(.a (.a (.v 4) (.v 6)) (.v 7)),(.m (.v 1) (.v 1)))] (by decide +kernel) [l1,l2,x1,x2,xs,ys,x3,x4,y4] ⟨h.s,k.s,trivial⟩
theorem nr2:add (mul (nA l1 l2 xs) (nA l1 l2 xs)) (add (nC l1 l2 xs ys) (nC l1 l2 xs ys))=add (add (mul x1 x2) (mul x3 x4)) (mul (add x1 x2) (add x3 x4)):=
 CR.lin (x:=(.a (.m (.a (.v 4) (.m (.v 0) (.v 1))) (.a (.v 4) (.m (.v 0) (.v 1)))) (.a (.s (.s (.m (.v 4) (.v 4)) (.m (.m (.v 0) (.v 1)) (.v 4))) (.m (.s (.v 1) (.v 0)) (.v 5))) (.s (.s (.m (.v 4) (.v 4)) (.m (.m (.v 0) (.v 1)) (.v 4))) (.m (.s (.v 1) (.v 0)) (.v 5)))))) (y:=(.a (.a (.m (.v 2) (.v 3)) (.m (.v 6) (.v 7))) (.m (.a (.v 2) (.v 3)) (.a (.v 6) (.v 7))))) [((.a (.m (.c (-1)) (.v 7)) (.a (.m (.c (-1)) (.v 6)) (.m (.c 1) (.v 4)))),(.a (.a (.v 2) (.v 3)) (.v 4)),(.m (.v 0) (.v 0))),((.a (.m (.c 2) (.v 4)) (.m (.m (.c (-1)) (.v 0)) (.v 0))),(.a (.a (.v 4) (.v 6)) (.v 7)),(.m (.v 1) (.v 1))),((.c (-1)),(.a (.m (.v 2) (.v 3)) (.m (.a (.v 2) (.v 3)) (.v 4))),(.m (.a (.v 0) (.v 0)) (.a (.v 5) (.m (.v 0) (.v 4))))),((.m (.c (-2)) (.v 1)),(.a (.v 5) (.v 8)),(.m (.v 1) (.s (.v 4) (.v 7)))),((.c (-1)),(.a (.m (.v 4) (.v 6)) (.m (.a (.v 4) (.v 6)) (.v 7))),(.m (.a (.v 1) (.v 1)) (.a (.v 8) (.m (.v 1) (.v 7)))))] (by decide +kernel) [l1,l2,x1,x2,xs,ys,x3,x4,y4] ⟨h.s,k.s,h.p,k.a,k.p,trivial⟩
theorem nr3:mul (add (nA l1 l2 xs) (nA l1 l2 xs)) (nC l1 l2 xs ys)=neg (add (mul (mul x1 x2) (add x3 x4)) (mul (mul x3 x4) (add x1 x2))):=
 CR.lin (x:=(.m (.a (.a (.v 5) (.m (.v 1) (.v 2))) (.a (.v 5) (.m (.v 1) (.v 2)))) (.s (.s (.m (.v 5) (.v 5)) (.m (.m (.v 1) (.v 2)) (.v 5))) (.m (.s (.v 2) (.v 1)) (.v 6))))) (y:=(.n (.a (.m (.m (.v 3) (.v 4)) (.a (.v 7) (.v 8))) (.m (.m (.v 7) (.v 8)) (.a (.v 3) (.v 4)))))) [((.a (.m (.a (.m (.c 1) (.v 7)) (.m (.c 1) (.v 3))) (.v 8)) (.a (.m (.m (.c 1) (.v 3)) (.v 7)) (.a (.m (.a (.m (.c 1) (.v 5)) (.a (.m (.c 1) (.v 3)) (.m (.m (.c (-1)) (.v 2)) (.v 2)))) (.v 5)) (.m (.m (.m (.c (-1)) (.v 2)) (.v 2)) (.v 3))))),(.a (.a (.v 3) (.v 4)) (.v 5)),(.m (.v 1) (.v 1))),((.a (.m (.a (.m (.c 1) (.v 5)) (.a (.m (.c (-1)) (.v 3)) (.m (.m (.c (-1)) (.v 1)) (.v 1)))) (.v 5)) (.m (.a (.m (.c (-1)) (.v 3)) (.m (.m (.c 1) (.v 1)) (.v 1))) (.v 3))),(.a (.a (.v 5) (.v 7)) (.v 8)),(.m (.v 2) (.v 2))),((.a (.m (.c (-1)) (.v 5)) (.m (.m (.c 1) (.v 2)) (.v 2))),(.a (.m (.v 3) (.v 4)) (.m (.a (.v 3) (.v 4)) (.v 5))),(.m (.a (.v 1) (.v 1)) (.a (.v 6) (.m (.v 1) (.v 5))))),((.a (.m (.m (.c (-2)) (.v 2)) (.v 5)) (.m (.m (.m (.c 2) (.v 1)) (.v 1)) (.v 2))),(.a (.v 6) (.v 9)),(.m (.v 2) (.s (.v 5) (.v 8)))),((.a (.m (.c (-1)) (.v 5)) (.m (.m (.c 1) (.v 1)) (.v 1))),(.a (.m (.v 5) (.v 7)) (.m (.a (.v 5) (.v 7)) (.v 8))),(.m (.a (.v 2) (.v 2)) (.a (.v 9) (.m (.v 2) (.v 8)))))] (by decide +kernel) [l1,l1,l2,x1,x2,xs,ys,x3,x4,y4] ⟨h.s,k.s,h.p,k.a,k.p,trivial⟩
include hs
theorem nr4:sub (mul (nC l1 l2 xs ys) (nC l1 l2 xs ys)) (mul b (mul (nB l1 l2) (nB l1 l2)))=mul (mul x1 x2) (mul x3 x4):=
 CR.lin (x:=(.s (.m (.s (.s (.m (.v 5) (.v 5)) (.m (.m (.v 1) (.v 2)) (.v 5))) (.m (.s (.v 2) (.v 1)) (.v 6))) (.s (.s (.m (.v 5) (.v 5)) (.m (.m (.v 1) (.v 2)) (.v 5))) (.m (.s (.v 2) (.v 1)) (.v 6)))) (.m (.v 0) (.m (.n (.a (.v 1) (.v 2))) (.n (.a (.v 1) (.v 2))))))) (y:=(.m (.m (.v 3) (.v 4)) (.m (.v 7) (.v 8)))) [((.a (.m (.m (.m (.c (-1)) (.v 3)) (.v 7)) (.v 8)) (.m (.a (.m (.a (.m (.c (-1)) (.v 5)) (.m (.c (-1)) (.v 3))) (.v 7)) (.a (.m (.a (.m (.c (-1)) (.v 5)) (.a (.m (.c (-1)) (.v 3)) (.m (.m (.c 1) (.v 2)) (.v 2)))) (.v 5)) (.m (.m (.m (.c 1) (.v 2)) (.v 2)) (.v 3)))) (.v 7))),(.a (.a (.v 3) (.v 4)) (.v 5)),(.m (.v 1) (.v 1))),((.a (.m (.a (.m (.m (.c 2) (.v 1)) (.v 6)) (.a (.m (.a (.m (.c 1) (.v 5)) (.a (.m (.c 1) (.v 3)) (.m (.m (.c 1) (.v 1)) (.v 1)))) (.v 5)) (.m (.a (.m (.c 1) (.v 3)) (.m (.m (.c (-1)) (.v 1)) (.v 1))) (.v 3)))) (.v 7)) (.a (.m (.m (.m (.c 2) (.v 1)) (.v 5)) (.v 6)) (.m (.m (.a (.m (.c 1) (.v 5)) (.m (.m (.c 1) (.v 1)) (.v 1))) (.v 5)) (.v 5)))),(.a (.a (.v 5) (.v 7)) (.v 8)),(.m (.v 2) (.v 2))),((.m (.a (.m (.c 1) (.v 7)) (.a (.m (.c 1) (.v 5)) (.m (.m (.c (-1)) (.v 2)) (.v 2)))) (.v 7)),(.a (.m (.v 3) (.v 4)) (.m (.a (.v 3) (.v 4)) (.v 5))),(.m (.a (.v 1) (.v 1)) (.a (.v 6) (.m (.v 1) (.v 5))))),((.a (.m (.m (.m (.c (-4)) (.v 1)) (.v 2)) (.v 6)) (.m (.a (.m (.m (.c (-2)) (.v 2)) (.v 5)) (.m (.m (.m (.c (-2)) (.v 1)) (.v 1)) (.v 2))) (.v 5))),(.a (.v 6) (.v 9)),(.m (.v 2) (.s (.v 5) (.v 8)))),((.a (.m (.m (.c (-2)) (.v 1)) (.v 6)) (.m (.a (.m (.c (-1)) (.v 5)) (.m (.m (.c (-1)) (.v 1)) (.v 1))) (.v 5))),(.a (.m (.v 5) (.v 7)) (.m (.a (.v 5) (.v 7)) (.v 8))),(.m (.a (.v 2) (.v 2)) (.a (.v 9) (.m (.v 2) (.v 8))))),((.a (.m (.a (.m (.c 1) (.v 2)) (.m (.c 2) (.v 1))) (.v 2)) (.m (.m (.c 1) (.v 1)) (.v 1))),(.m (.v 6) (.v 6)),(.a (.m (.m (.v 5) (.v 5)) (.v 5)) (.v 0)))] (by decide +kernel) [b,l1,l2,x1,x2,xs,ys,x3,x4,y4] ⟨h.s,k.s,h.p,k.a,k.p,hs,trivial⟩
end
theorem nv1{l1 x1 y1 x2 y2 xs ys:K2 n}(h:LD l1 x1 y1 x2 y2 xs ys)(l2:K2 n):add (add (add (mul x1 x1) (mul (nA l1 l2 xs) x1)) (mul (nB l1 l2) y1)) (nC l1 l2 xs ys)=zero:=
 CR.lin (x:=(.a (.a (.a (.m (.v 2) (.v 2)) (.m (.a (.v 5) (.m (.v 0) (.v 1))) (.v 2))) (.m (.n (.a (.v 0) (.v 1))) (.v 3))) (.s (.s (.m (.v 5) (.v 5)) (.m (.m (.v 0) (.v 1)) (.v 5))) (.m (.s (.v 1) (.v 0)) (.v 6))))) (y:=(.c 0)) [((.a (.m (.c 1) (.v 5)) (.m (.c 1) (.v 2))),(.a (.a (.v 2) (.v 4)) (.v 5)),(.m (.v 0) (.v 0))),((.a (.m (.c (-1)) (.v 1)) (.m (.c (-1)) (.v 0))),(.a (.v 3) (.v 6)),(.m (.v 0) (.s (.v 2) (.v 5)))),((.c (-1)),(.a (.m (.v 2) (.v 4)) (.m (.a (.v 2) (.v 4)) (.v 5))),(.m (.a (.v 0) (.v 0)) (.a (.v 6) (.m (.v 0) (.v 5)))))] (by decide +kernel) [l1,l2,x1,y1,x2,xs,ys] ⟨h.s,h.a,h.p,trivial⟩
theorem nv2{l2 x3 y3 x4 y4 xs ys:K2 n}(k:LD l2 xs ys x3 y3 x4 y4)(l1:K2 n):add (add (add (mul x3 x3) (mul (nA l1 l2 xs) x3)) (mul (nB l1 l2) y3)) (nC l1 l2 xs ys)=zero:=
 CR.lin (x:=(.a (.a (.a (.m (.v 2) (.v 2)) (.m (.a (.v 6) (.m (.v 0) (.v 1))) (.v 2))) (.m (.n (.a (.v 0) (.v 1))) (.v 3))) (.s (.s (.m (.v 6) (.v 6)) (.m (.m (.v 0) (.v 1)) (.v 6))) (.m (.s (.v 1) (.v 0)) (.v 7))))) (y:=(.c 0)) [((.a (.m (.c 1) (.v 6)) (.m (.c 1) (.v 2))),(.a (.a (.v 6) (.v 2)) (.v 4)),(.m (.v 1) (.v 1))),((.a (.m (.c (-1)) (.v 1)) (.m (.c 1) (.v 0))),(.a (.v 7) (.v 5)),(.m (.v 1) (.s (.v 6) (.v 4)))),((.a (.m (.c (-1)) (.v 1)) (.m (.c (-1)) (.v 0))),(.a (.v 3) (.v 5)),(.m (.v 1) (.s (.v 2) (.v 4)))),((.c (-1)),(.a (.m (.v 6) (.v 2)) (.m (.a (.v 6) (.v 2)) (.v 4))),(.m (.a (.v 1) (.v 1)) (.a (.v 5) (.m (.v 1) (.v 4)))))] (by decide +kernel) [l1,l2,x3,y3,x4,y4,xs,ys] ⟨k.s,k.a,k.b,k.p,trivial⟩
theorem Fs(hp:P3 n){b a c d a' c' d':K2 n}(h2:No2 b)(h1:sub (add a a) (mul c c)=sub (add a' a') (mul c' c'))(h3:add (mul a a) (add d d)=add (mul a' a') (add d' d'))
  (h4:mul (add a a) d=mul (add a' a') d') (h5:sub (mul d d) (mul b (mul c c))=sub (mul d' d') (mul b (mul c' c'))):a=a'∧d=d'∧(c=c'∨c=neg c'):=by
 obtain⟨i,hi⟩:=BX hp
 have hi:add i i=CR.ofZ 1:=hi
 have e1:a=a':=by
  have e:mul (sub a a') (add (mul (mul (mul (add a a') i) (mul (add a a') i)) (mul (add a a') i)) b)=zero:=
   CR.lin (x:=(.m (.s (.v 0) (.v 3)) (.a (.m (.m (.m (.a (.v 0) (.v 3)) (.v 7)) (.m (.a (.v 0) (.v 3)) (.v 7))) (.m (.a (.v 0) (.v 3)) (.v 7))) (.v 6)))) (y:=(.c 0)) [((.m (.v 6) (.v 7)),(.s (.a (.v 0) (.v 0)) (.m (.v 1) (.v 1))),(.s (.a (.v 3) (.v 3)) (.m (.v 4) (.v 4)))),((.a (.m (.m (.a (.v 0) (.v 3)) (.a (.v 0) (.v 3))) (.m (.m (.v 7) (.v 7)) (.v 7))) (.m (.a (.v 2) (.v 5)) (.m (.v 7) (.v 7)))),(.a (.m (.v 0) (.v 0)) (.a (.v 2) (.v 2))),(.a (.m (.v 3) (.v 3)) (.a (.v 5) (.v 5)))),((.n (.m (.a (.v 0) (.v 3)) (.m (.v 7) (.v 7)))),(.m (.a (.v 0) (.v 0)) (.v 2)),(.m (.a (.v 3) (.v 3)) (.v 5))),((.n (.v 7)),(.s (.m (.v 2) (.v 2)) (.m (.v 6) (.m (.v 1) (.v 1)))),(.s (.m (.v 5) (.v 5)) (.m (.v 6) (.m (.v 4) (.v 4))))),((.a (.m (.a (.m (.a (.m (.a (.m (.a (.m (.c 1) (.v 3)) (.m (.c 2) (.v 0))) (.v 3)) (.m (.m (.c 1) (.v 0)) (.v 0))) (.v 5)) (.a (.m (.a (.m (.m (.c (-1)) (.v 2)) (.v 3)) (.m (.m (.c (-2)) (.v 0)) (.v 2))) (.v 3)) (.m (.m (.m (.c (-1)) (.v 0)) (.v 0)) (.v 2)))) (.v 7)) (.a (.m (.m (.c 1) (.v 5)) (.v 5)) (.m (.m (.c (-1)) (.v 2)) (.v 2)))) (.v 7)) (.m (.a (.m (.c 1) (.v 3)) (.m (.c (-1)) (.v 0))) (.v 6))),(.a (.v 7) (.v 7)),(.c 1))] (by decide +kernel) [a,c,d,a',c',d',b,i] ⟨h1,h3,h4,h5,hi,trivial⟩
  exact aE ((aW hp e).resolve_right (h2 _))
 subst e1
 have e2:d=d':=CR.lin (x:=(.v 1)) (y:=(.v 2)) [((.v 3),(.a (.m (.v 0) (.v 0)) (.a (.v 1) (.v 1))),(.a (.m (.v 0) (.v 0)) (.a (.v 2) (.v 2)))),((.a (.m (.c 1) (.v 2)) (.m (.c (-1)) (.v 1))),(.a (.v 3) (.v 3)),(.c 1))] (by decide +kernel) [a,d,d',i] ⟨h3,hi,trivial⟩
 exact⟨rfl,e2,Ji hp (CR.lin (x:=(.m (.v 1) (.v 1))) (y:=(.m (.v 2) (.v 2))) [((.c (-1)),(.s (.a (.v 0) (.v 0)) (.m (.v 1) (.v 1))),(.s (.a (.v 0) (.v 0)) (.m (.v 2) (.v 2))))] (by decide +kernel) [a,c,c'] ⟨h1,trivial⟩)⟩
end K2
end Go.Proofs.YtndhfbecpghinaaGreat.L.Kf
namespace Go.Proofs.YtndhfbecpghinaaGreat.L.Kf
open Pr
namespace T12
variable {n:Nat} [NeZero n]
open K2 (Pt pa pn Onc No2 Slp LD cx cy f6 ec nA nB nC)
attribute [local irreducible] K2.add K2.mul K2.sub K2.neg K2.zero K2.one K2.inv K2.xi
def ln(l x y u v:K2 n):T12 n:=⟨⟨K2.sub (K2.mul l x) y,K2.neg (K2.mul l u),K2.zero⟩,⟨K2.zero,v,K2.zero⟩⟩
def vt(x u:K2 n):T6 n:=⟨x,K2.neg u,K2.zero⟩
def nv(a c d u v:K2 n):T12 n:=⟨⟨d,K2.mul a u,K2.mul u u⟩,⟨K2.zero,K2.mul c v,K2.zero⟩⟩
theorem vo(a0 a1 a2 a3 a4 a5 b0 b1 b2 b3 b4 b5:K2 n):mul ⟨⟨a0,a2,a4⟩,⟨a1,a3,a5⟩⟩ ⟨⟨b0,b2,b4⟩,⟨b1,b3,b5⟩⟩ =
    ⟨⟨K2.add (K2.mul a0 b0) (K2.mul K2.xi (K2.add (K2.add (K2.add (K2.mul a1 b5) (K2.mul a5 b1)) (K2.add (K2.mul a2 b4) (K2.mul a4 b2))) (K2.mul a3 b3))),K2.add (K2.add (K2.mul a0 b2) (K2.add (K2.mul a2 b0) (K2.mul a1 b1))) (K2.mul K2.xi (K2.add (K2.add (K2.mul a3 b5) (K2.mul a5 b3)) (K2.mul a4 b4))),K2.add (K2.add (K2.add (K2.mul a0 b4) (K2.mul a4 b0)) (K2.add (K2.add (K2.mul a1 b3) (K2.mul a3 b1)) (K2.mul a2 b2))) (K2.mul K2.xi (K2.mul a5 b5))⟩,
     ⟨K2.add (K2.add (K2.mul a0 b1) (K2.mul a1 b0)) (K2.mul K2.xi (K2.add (K2.add (K2.mul a2 b5) (K2.mul a5 b2)) (K2.add (K2.mul a3 b4) (K2.mul a4 b3)))),K2.add (K2.add (K2.add (K2.mul a0 b3) (K2.mul a3 b0)) (K2.add (K2.mul a1 b2) (K2.mul a2 b1))) (K2.mul K2.xi (K2.add (K2.mul a4 b5) (K2.mul a5 b4))),K2.add (K2.add (K2.add (K2.mul a0 b5) (K2.mul a5 b0)) (K2.add (K2.mul a1 b4) (K2.mul a4 b1))) (K2.add (K2.mul a2 b3) (K2.mul a3 b2))⟩⟩:=by
  unfold mul
  rw[UJ]
  refine ext' (T6.ext' ?_ ?_ ?_) (T6.ext' ?_ ?_ ?_)
  · exact CR.aH (x:=(.a (.a (.m (.v 0) (.v 6)) (.m (.v 12) (.a (.m (.v 2) (.v 10)) (.m (.v 4) (.v 8))))) (.m (.v 12) (.a (.a (.m (.v 1) (.v 11)) (.m (.v 3) (.v 9))) (.m (.v 5) (.v 7)))))) (y:=(.a (.m (.v 0) (.v 6)) (.m (.v 12) (.a (.a (.a (.m (.v 1) (.v 11)) (.m (.v 5) (.v 7))) (.a (.m (.v 2) (.v 10)) (.m (.v 4) (.v 8)))) (.m (.v 3) (.v 9)))))) (by decide +kernel) [a0,a1,a2,a3,a4,a5,b0,b1,b2,b3,b4,b5,K2.xi]
  · exact CR.aH (x:=(.a (.a (.a (.m (.v 0) (.v 8)) (.m (.v 2) (.v 6))) (.m (.v 12) (.m (.v 4) (.v 10)))) (.a (.m (.v 1) (.v 7)) (.m (.v 12) (.a (.m (.v 3) (.v 11)) (.m (.v 5) (.v 9))))))) (y:=(.a (.a (.m (.v 0) (.v 8)) (.a (.m (.v 2) (.v 6)) (.m (.v 1) (.v 7)))) (.m (.v 12) (.a (.a (.m (.v 3) (.v 11)) (.m (.v 5) (.v 9))) (.m (.v 4) (.v 10)))))) (by decide +kernel) [a0,a1,a2,a3,a4,a5,b0,b1,b2,b3,b4,b5,K2.xi]
  · exact CR.aH (x:=(.a (.a (.a (.m (.v 0) (.v 10)) (.m (.v 2) (.v 8))) (.m (.v 4) (.v 6))) (.a (.a (.m (.v 1) (.v 9)) (.m (.v 3) (.v 7))) (.m (.v 12) (.m (.v 5) (.v 11)))))) (y:=(.a (.a (.a (.m (.v 0) (.v 10)) (.m (.v 4) (.v 6))) (.a (.a (.m (.v 1) (.v 9)) (.m (.v 3) (.v 7))) (.m (.v 2) (.v 8)))) (.m (.v 12) (.m (.v 5) (.v 11))))) (by decide +kernel) [a0,a1,a2,a3,a4,a5,b0,b1,b2,b3,b4,b5,K2.xi]
  · exact CR.aH (x:=(.a (.a (.m (.v 0) (.v 7)) (.m (.v 12) (.a (.m (.v 2) (.v 11)) (.m (.v 4) (.v 9))))) (.a (.m (.v 1) (.v 6)) (.m (.v 12) (.a (.m (.v 3) (.v 10)) (.m (.v 5) (.v 8))))))) (y:=(.a (.a (.m (.v 0) (.v 7)) (.m (.v 1) (.v 6))) (.m (.v 12) (.a (.a (.m (.v 2) (.v 11)) (.m (.v 5) (.v 8))) (.a (.m (.v 3) (.v 10)) (.m (.v 4) (.v 9))))))) (by decide +kernel) [a0,a1,a2,a3,a4,a5,b0,b1,b2,b3,b4,b5,K2.xi]
  · exact CR.aH (x:=(.a (.a (.a (.m (.v 0) (.v 9)) (.m (.v 2) (.v 7))) (.m (.v 12) (.m (.v 4) (.v 11)))) (.a (.a (.m (.v 1) (.v 8)) (.m (.v 3) (.v 6))) (.m (.v 12) (.m (.v 5) (.v 10)))))) (y:=(.a (.a (.a (.m (.v 0) (.v 9)) (.m (.v 3) (.v 6))) (.a (.m (.v 1) (.v 8)) (.m (.v 2) (.v 7)))) (.m (.v 12) (.a (.m (.v 4) (.v 11)) (.m (.v 5) (.v 10)))))) (by decide +kernel) [a0,a1,a2,a3,a4,a5,b0,b1,b2,b3,b4,b5,K2.xi]
  · exact CR.aH (x:=(.a (.a (.a (.m (.v 0) (.v 11)) (.m (.v 2) (.v 9))) (.m (.v 4) (.v 7))) (.a (.a (.m (.v 1) (.v 10)) (.m (.v 3) (.v 8))) (.m (.v 5) (.v 6))))) (y:=(.a (.a (.a (.m (.v 0) (.v 11)) (.m (.v 5) (.v 6))) (.a (.m (.v 1) (.v 10)) (.m (.v 4) (.v 7)))) (.a (.m (.v 2) (.v 9)) (.m (.v 3) (.v 8))))) (by decide +kernel) [a0,a1,a2,a3,a4,a5,b0,b1,b2,b3,b4,b5,K2.xi]
theorem Ud(a b c:K2 n):e6 ⟨a,b,c⟩=⟨⟨a,b,c⟩,⟨K2.zero,K2.zero,K2.zero⟩⟩:=rfl
theorem UF{b c l1 l2 x1 y1 x2 y2 xs ys u v:K2 n}(h:LD l1 x1 y1 x2 y2 xs ys)(hb:b=K2.mul K2.xi c)(hs:K2.mul ys ys=K2.add (K2.mul (K2.mul xs xs) xs) b)(hu:K2.mul v v=K2.add (K2.mul (K2.mul u u) u) c):
  mul (ln l1 x1 y1 u v) (ln l2 xs ys u v)=mul (e6 (vt xs u)) (neg (nv (nA l1 l2 xs) (nB l1 l2) (nC l1 l2 xs ys) u v)):=by
 have h0:K2.sub (K2.mul l1 x1) y1=K2.add (K2.mul l1 xs) ys:=CR.lin (x:=(.s (.m (.v 0) (.v 1)) (.v 2))) (y:=(.a (.m (.v 0) (.v 3)) (.v 4))) [((.c (-1)),(.a (.v 2) (.v 4)),(.m (.v 0) (.s (.v 1) (.v 3))))] (by decide +kernel) [l1,x1,y1,xs,ys] ⟨h.a,trivial⟩
 unfold ln vt nv
 rw[h0,Ud]
 unfold neg T6.neg
 rw[vo,vo]
 subst hb
 refine ext' (T6.ext' ?_ ?_ ?_) (T6.ext' ?_ ?_ ?_)
 ·exact CR.lin (x:=(.a (.m (.a (.m (.v 1) (.v 3)) (.v 4)) (.s (.m (.v 2) (.v 3)) (.v 4))) (.m (.v 7) (.a (.a (.a (.m (.c 0) (.c 0)) (.m (.c 0) (.c 0))) (.a (.m (.n (.m (.v 1) (.v 5))) (.c 0)) (.m (.c 0) (.n (.m (.v 2) (.v 5)))))) (.m (.v 6) (.v 6)))))) (y:=(.a (.m (.v 3) (.n (.s (.s (.m (.v 3) (.v 3)) (.m (.m (.v 1) (.v 2)) (.v 3))) (.m (.s (.v 2) (.v 1)) (.v 4))))) (.m (.v 7) (.a (.a (.a (.m (.c 0) (.n (.c 0))) (.m (.c 0) (.n (.c 0)))) (.a (.m (.n (.v 5)) (.n (.m (.v 5) (.v 5)))) (.m (.c 0) (.n (.m (.a (.v 3) (.m (.v 1) (.v 2))) (.v 5)))))) (.m (.c 0) (.n (.m (.n (.a (.v 1) (.v 2))) (.v 6)))))))) [((.c (-1)),(.m (.v 4) (.v 4)),(.a (.m (.m (.v 3) (.v 3)) (.v 3)) (.m (.v 7) (.v 0)))),((.v 7),(.m (.v 6) (.v 6)),(.a (.m (.m (.v 5) (.v 5)) (.v 5)) (.v 0)))] (by decide +kernel) [c,l1,l2,xs,ys,u,v,K2.xi] ⟨hs,hu,trivial⟩
 ·exact CR.aH (x:=(.a (.a (.m (.a (.m (.v 1) (.v 3)) (.v 4)) (.n (.m (.v 2) (.v 5)))) (.a (.m (.n (.m (.v 1) (.v 5))) (.s (.m (.v 2) (.v 3)) (.v 4))) (.m (.c 0) (.c 0)))) (.m (.v 7) (.a (.a (.m (.v 6) (.c 0)) (.m (.c 0) (.v 6))) (.m (.c 0) (.c 0)))))) (y:=(.a (.a (.m (.v 3) (.n (.m (.a (.v 3) (.m (.v 1) (.v 2))) (.v 5)))) (.a (.m (.n (.v 5)) (.n (.s (.s (.m (.v 3) (.v 3)) (.m (.m (.v 1) (.v 2)) (.v 3))) (.m (.s (.v 2) (.v 1)) (.v 4))))) (.m (.c 0) (.n (.c 0))))) (.m (.v 7) (.a (.a (.m (.c 0) (.n (.c 0))) (.m (.c 0) (.n (.m (.n (.a (.v 1) (.v 2))) (.v 6))))) (.m (.c 0) (.n (.m (.v 5) (.v 5)))))))) (by decide +kernel) [c,l1,l2,xs,ys,u,v,K2.xi]
 ·exact CR.aH (x:=(.a (.a (.a (.m (.a (.m (.v 1) (.v 3)) (.v 4)) (.c 0)) (.m (.c 0) (.s (.m (.v 2) (.v 3)) (.v 4)))) (.a (.a (.m (.c 0) (.v 6)) (.m (.v 6) (.c 0))) (.m (.n (.m (.v 1) (.v 5))) (.n (.m (.v 2) (.v 5)))))) (.m (.v 7) (.m (.c 0) (.c 0))))) (y:=(.a (.a (.a (.m (.v 3) (.n (.m (.v 5) (.v 5)))) (.m (.c 0) (.n (.s (.s (.m (.v 3) (.v 3)) (.m (.m (.v 1) (.v 2)) (.v 3))) (.m (.s (.v 2) (.v 1)) (.v 4)))))) (.a (.a (.m (.c 0) (.n (.m (.n (.a (.v 1) (.v 2))) (.v 6)))) (.m (.c 0) (.n (.c 0)))) (.m (.n (.v 5)) (.n (.m (.a (.v 3) (.m (.v 1) (.v 2))) (.v 5)))))) (.m (.v 7) (.m (.c 0) (.n (.c 0)))))) (by decide +kernel) [c,l1,l2,xs,ys,u,v,K2.xi]
 ·exact CR.aH (x:=(.a (.a (.m (.a (.m (.v 1) (.v 3)) (.v 4)) (.c 0)) (.m (.c 0) (.s (.m (.v 2) (.v 3)) (.v 4)))) (.m (.v 7) (.a (.a (.m (.n (.m (.v 1) (.v 5))) (.c 0)) (.m (.c 0) (.n (.m (.v 2) (.v 5))))) (.a (.m (.v 6) (.c 0)) (.m (.c 0) (.v 6))))))) (y:=(.a (.a (.m (.v 3) (.n (.c 0))) (.m (.c 0) (.n (.s (.s (.m (.v 3) (.v 3)) (.m (.m (.v 1) (.v 2)) (.v 3))) (.m (.s (.v 2) (.v 1)) (.v 4)))))) (.m (.v 7) (.a (.a (.m (.n (.v 5)) (.n (.c 0))) (.m (.c 0) (.n (.m (.a (.v 3) (.m (.v 1) (.v 2))) (.v 5))))) (.a (.m (.c 0) (.n (.m (.v 5) (.v 5)))) (.m (.c 0) (.n (.m (.n (.a (.v 1) (.v 2))) (.v 6))))))))) (by decide +kernel) [c,l1,l2,xs,ys,u,v,K2.xi]
 ·exact CR.aH (x:=(.a (.a (.a (.m (.a (.m (.v 1) (.v 3)) (.v 4)) (.v 6)) (.m (.v 6) (.s (.m (.v 2) (.v 3)) (.v 4)))) (.a (.m (.c 0) (.n (.m (.v 2) (.v 5)))) (.m (.n (.m (.v 1) (.v 5))) (.c 0)))) (.m (.v 7) (.a (.m (.c 0) (.c 0)) (.m (.c 0) (.c 0)))))) (y:=(.a (.a (.a (.m (.v 3) (.n (.m (.n (.a (.v 1) (.v 2))) (.v 6)))) (.m (.c 0) (.n (.s (.s (.m (.v 3) (.v 3)) (.m (.m (.v 1) (.v 2)) (.v 3))) (.m (.s (.v 2) (.v 1)) (.v 4)))))) (.a (.m (.c 0) (.n (.m (.a (.v 3) (.m (.v 1) (.v 2))) (.v 5)))) (.m (.n (.v 5)) (.n (.c 0))))) (.m (.v 7) (.a (.m (.c 0) (.n (.c 0))) (.m (.c 0) (.n (.m (.v 5) (.v 5)))))))) (by decide +kernel) [c,l1,l2,xs,ys,u,v,K2.xi]
 ·exact CR.aH (x:=(.a (.a (.a (.m (.a (.m (.v 1) (.v 3)) (.v 4)) (.c 0)) (.m (.c 0) (.s (.m (.v 2) (.v 3)) (.v 4)))) (.a (.m (.c 0) (.c 0)) (.m (.c 0) (.c 0)))) (.a (.m (.n (.m (.v 1) (.v 5))) (.v 6)) (.m (.v 6) (.n (.m (.v 2) (.v 5))))))) (y:=(.a (.a (.a (.m (.v 3) (.n (.c 0))) (.m (.c 0) (.n (.s (.s (.m (.v 3) (.v 3)) (.m (.m (.v 1) (.v 2)) (.v 3))) (.m (.s (.v 2) (.v 1)) (.v 4)))))) (.a (.m (.c 0) (.n (.m (.v 5) (.v 5)))) (.m (.c 0) (.n (.c 0))))) (.a (.m (.n (.v 5)) (.n (.m (.n (.a (.v 1) (.v 2))) (.v 6)))) (.m (.c 0) (.n (.m (.a (.v 3) (.m (.v 1) (.v 2))) (.v 5))))))) (by decide +kernel) [c,l1,l2,xs,ys,u,v,K2.xi]
end T12
end Go.Proofs.YtndhfbecpghinaaGreat.L.Kf
namespace Go.Proofs.YtndhfbecpghinaaGreat.L.Kf
open Pr
namespace T12
variable {n:Nat} [NeZero n]
open K2 (Pt pa pn Onc No2 Slp LD cx cy f6 ec nA nB nC)
attribute [local irreducible] K2.add K2.mul K2.sub K2.neg K2.zero K2.one K2.inv K2.xi
def lin(P A B:Pt n):T12 n:=
 match P,A,B with
 | some P,some A,some B=>
  if A.1=B.1 then if A.2=B.2∧A.2≠K2.zero then ln (f6 A.1 A.2) A.1 A.2 P.1 P.2 else e6 (vt A.1 P.1)
  else ln (ec A.1 A.2 B.1 B.2) A.1 A.2 P.1 P.2
 | _,_,_=>one
structure Pg (b c:K2 n):Prop where
 tw:T6.Tw n
 hb:b=K2.mul K2.xi c
 n2:No2 b
 n4:No2 c
 nb:∀y,K2.mul y y≠b
theorem gG(P B:Pt n):lin P none B=one:=by cases P <;> rfl
theorem tk(P A:Pt n):lin P A none=one:=by cases P <;> cases A <;> rfl
theorem dp(hp:P3 n){l x1 y1 x2 y2 u v:K2 n}(h:Slp l x1 y1 x2 y2)(hne:x1≠x2∨K2.add y1 y2≠K2.zero):lin (some (u,v)) (some (x1,y1)) (some (x2,y2))=ln l x1 y1 u v:=by
 by_cases hx:x1=x2
 ·subst hx
  have hy:y1=y2:=by
   have:=h.a
   rwa [K2.aZ,K2.aj,K2.add_zero']at this
  subst hy
  have h2:K2.add y1 y1≠K2.zero:=hne.resolve_left fun h=>h rfl
  have hy0:y1≠K2.zero:=fun e=>h2 (by rw[e,K2.add_zero'])
  have ht:f6 x1 y1=l:=K2.dy hp h2 h.b
  show(if x1=x1 then if y1=y1∧y1≠K2.zero then _ else _ else _)=_
  rw[if_pos rfl,if_pos ⟨rfl,hy0⟩,ht]
 ·have hd:K2.sub x2 x1≠K2.zero:=fun e=>hx (K2.aE e).symm
  have hc:ec x1 y1 x2 y2=l:=K2.dy hp hd (CR.lin (x:=(.m (.v 4) (.s (.v 2) (.v 0)))) (y:=(.s (.v 3) (.v 1))) [((.c 1),(.v 1),(.a (.v 3) (.m (.v 4) (.s (.v 0) (.v 2)))))] (by decide +kernel) [x1,y1,x2,y2,l] ⟨h.a,trivial⟩)
  show(if x1=x2 then _ else _)=_
  rw[if_neg hx,hc]
theorem B9(hp:P3 n){x1 y1 x2 y2 u v:K2 n}(hx:x1=x2)(hy:K2.add y1 y2=K2.zero):lin (some (u,v)) (some (x1,y1)) (some (x2,y2))=e6 (vt x1 u):=by
 subst hx
 show(if x1=x1 then if y1=y2∧y1≠K2.zero then _ else _ else _)=_
 rw[if_pos rfl,if_neg]
 rintro⟨rfl,h⟩
 exact K2.ge hp h hy
theorem ke{l x y u v:K2 n}(h:v≠K2.zero):ln l x y u v≠zero:=fun e=>h (congrArg (fun z:T12 n=>z.b.b) e)
theorem yU{x u:K2 n}(h:x≠K2.zero):e6 (vt x u)≠zero:=fun e=>h (congrArg (fun z:T12 n=>z.a.a) e)
theorem Ii(z:T12 n):neg z=mul (e6 (T6.neg T6.one)) z:=by
 have h:e6 (T6.neg T6.one)=(CR.neg CR.one:T12 n):=ext' rfl (CR.bk (R:=T6 n)).symm
 rw[h]
 exact(Eq.trans (CR.db _ _) (congrArg _ (CR.aR z))).symm
theorem HS{l x y x' y' u v:K2 n}(h:K2.sub (K2.mul (K2.neg l) x') y'=K2.neg (K2.sub (K2.mul l x) y)):ln (K2.neg l) x' y' u v=neg (conj (ln l x y u v)):=by
 unfold ln
 rw[h]
 refine ext' (T6.ext' rfl ?_ ?_) (T6.ext' ?_ ?_ ?_)
 ·exact CR.aH (x:=(.n (.m (.n (.v 0)) (.v 1)))) (y:=(.n (.n (.m (.v 0) (.v 1))))) (by decide +kernel) [l,u]
 ·exact K2.bk.symm
 ·exact(by show K2.zero=K2.neg (K2.neg K2.zero);rw[K2.bv])
 ·exact(K2.bv v).symm
 ·exact(by show K2.zero=K2.neg (K2.neg K2.zero);rw[K2.bv])
theorem LY{l x y x' y' u v:K2 n}(h:K2.sub (K2.mul l x') y'=K2.sub (K2.mul l x) y):ln l x' y' u v=ln l x y u v:=by
 unfold ln
 rw[h]
theorem nd(hp:P3 n){x1 y1 x2 y2:K2 n}(h:pa (some (x1,y1)) (some (x2,y2))≠none):x1≠x2∨K2.add y1 y2≠K2.zero:=by
 by_cases hx:x1=x2
 ·exact .inr fun e=>h (K2.cY hp hx e)
 ·exact .inl hx
section
variable (tw:T6.Tw n) {N:Nat}
include tw
omit tw in
theorem AA{z:T12 n}(h:z≠zero):neg z≠zero:=fun e=>h (by
 have e2:=CR.bv z
 rw[show CR.neg z=zero from e]at e2
 exact e2.symm.trans (CR.bk (R:=T12 n)))
theorem Ln{z:T12 n}(h:z≠zero):fin N (neg z)=fin N z:=by
 have h1:e6 (T6.neg T6.one)≠(zero:T12 n):=fun e=>AA h (by rw[Ii,e];exact CR.aG z)
 rw[Ii,dq tw h1 h,nX tw h1,bj]
theorem uU{z:T12 n}(h:z≠zero):mul (fin N (neg (conj z))) (fin N z)=one:=by
 rw[Ln tw (jm tw h),j4 tw h]
theorem eX:fin N (one:T12 n)=one:=nX tw (cH tw)
end
theorem qW{x y z:T12 n}(h:mul x y=one)(k:mul x z=one):y=z:=by
 rw[← am y,← k,← mul_assoc',mul_comm' y,h,bj]
theorem G6(hp:P3 n){b l1 l2 l3 l4 x1 y1 x2 y2 x3 y3 xs ys xt yt xw yw:K2 n}(h2:No2 b)(d1:LD l1 x1 y1 x2 y2 xs ys)(d2:LD l2 xs ys x3 y3 xw yw)(d3:LD l3 x2 y2 x3 y3 xt yt)(d4:LD l4 xt yt x1 y1 xw yw)
  (hs:Onc b (some (xs,ys))) (ht:Onc b (some (xt,yt))) (hy:y1≠K2.zero):nA l1 l2 xs=nA l3 l4 xt∧nB l1 l2=nB l3 l4∧nC l1 l2 xs ys=nC l3 l4 xt yt:=by
 have hs:=K2.bL hs
 have ht:=K2.bL ht
 have e1:=(K2.nr1 d1 d2).trans (Eq.trans (CR.aH (x:=(.n (.a (.a (.a (.v 0) (.v 1)) (.v 2)) (.v 3)))) (y:=(.n (.a (.a (.a (.v 1) (.v 2)) (.v 0)) (.v 3)))) (by decide +kernel) [x1,x2,x3,xw]) (K2.nr1 d3 d4).symm)
 have e2:=(K2.nr2 d1 d2).trans (Eq.trans (CR.aH (x:=(.a (.a (.m (.v 0) (.v 1)) (.m (.v 2) (.v 3))) (.m (.a (.v 0) (.v 1)) (.a (.v 2) (.v 3))))) (y:=(.a (.a (.m (.v 1) (.v 2)) (.m (.v 0) (.v 3))) (.m (.a (.v 1) (.v 2)) (.a (.v 0) (.v 3))))) (by decide +kernel) [x1,x2,x3,xw]) (K2.nr2 d3 d4).symm)
 have e3:=(K2.nr3 d1 d2).trans (Eq.trans (CR.aH (x:=(.n (.a (.m (.m (.v 0) (.v 1)) (.a (.v 2) (.v 3))) (.m (.m (.v 2) (.v 3)) (.a (.v 0) (.v 1)))))) (y:=(.n (.a (.m (.m (.v 1) (.v 2)) (.a (.v 0) (.v 3))) (.m (.m (.v 0) (.v 3)) (.a (.v 1) (.v 2)))))) (by decide +kernel) [x1,x2,x3,xw]) (K2.nr3 d3 d4).symm)
 have e4:=(K2.nr4 d1 d2 hs).trans (Eq.trans (CR.aH (x:=(.m (.m (.v 0) (.v 1)) (.m (.v 2) (.v 3)))) (y:=(.m (.m (.v 1) (.v 2)) (.m (.v 0) (.v 3)))) (by decide +kernel) [x1,x2,x3,xw]) (K2.nr4 d3 d4 ht).symm)
 obtain⟨f1,f2,f3⟩:=K2.Fs hp h2 e1 e2 e3 e4
 refine⟨f1,f3.elim id fun f=>?_,f2⟩
 have v1:=K2.nv1 d1 l2
 have v2:=K2.nv2 d4 l3
 rw[f1,f,f2]at v1
 generalize nA l3 l4 xt=a at v1 v2
 generalize nB l3 l4=c at *
 generalize nC l3 l4 xt yt=d at v1 v2
 have h0:K2.add (K2.mul c y1) (K2.mul c y1)=CR.ofZ 0:=CR.lin (x:=(.a (.m (.v 1) (.v 4)) (.m (.v 1) (.v 4)))) (y:=(.c 0)) [((.c (-1)),(.a (.a (.a (.m (.v 3) (.v 3)) (.m (.v 0) (.v 3))) (.m (.n (.v 1)) (.v 4))) (.v 2)),(.c 0)),((.c 1),(.a (.a (.a (.m (.v 3) (.v 3)) (.m (.v 0) (.v 3))) (.m (.v 1) (.v 4))) (.v 2)),(.c 0))] (by decide +kernel) [a,c,d,x1,y1] ⟨v1,v2,trivial⟩
 have hc:K2.mul c y1=K2.zero:=Classical.byContradiction fun h=>K2.ge hp h h0
 rw[f,(K2.aW hp hc).resolve_right hy,K2.bk]
section
variable {b c:K2 n} (H:Pg b c) {N:Nat}
include H
theorem Pg.x_ne{x y:K2 n}(h:Onc b (some (x,y))):x≠K2.zero:=by
 rintro rfl
 refine H.nb y (Eq.trans h ?_)
 rw[K2.aj,K2.aM]
theorem ka{P A B:Pt n}(hP:Onc c P)(hA:Onc b A)(hB:Onc b B):lin P A B≠zero:=by
 cases P with
 | none=>exact cH H.tw
 | some P=>cases A with
  | none=>exact cH H.tw
  | some A=>cases B with
   | none=>exact cH H.tw
   | some B=>
    obtain⟨u,v⟩:=P;obtain⟨x1,y1⟩:=A;obtain⟨x2,y2⟩:=B
    rcases K2.cq (x1:=x1) (y1:=y1) (x2:=x2) (y2:=y2) H.tw.p3 hA hB with⟨h1,h2⟩ | ⟨l,h,hn⟩
    ·rw[B9 H.tw.p3 h1 h2];exact yU (H.x_ne hA)
    ·rw[dp H.tw.p3 h hn];exact ke (K2.gD H.n4 hP)
theorem Pg.oa{A B:Pt n}(hA:Onc b A)(hB:Onc b B):Onc b (pa A B):=K2.di H.tw.p3 hA hB
omit H in
def lam(N:Nat)(P A B:Pt n):T12 n:=fin N (lin P A B)
theorem ee(A B:Pt n):lam N none A B=one:=eX H.tw
theorem dm(P B:Pt n):lam N P none B=one:=by rw[lam,gG];exact eX H.tw
theorem dC(P A:Pt n):lam N P A none=one:=by rw[lam,tk];exact eX H.tw
theorem cB{x1 y1 x2 y2 u v:K2 n}(hA:Onc b (some (x1,y1)))(hx:x1=x2)(hy:K2.add y1 y2=K2.zero):lam N (some (u,v)) (some (x1,y1)) (some (x2,y2))=one:=by
 rw[lam,B9 H.tw.p3 hx hy]
 exact nX H.tw (yU (H.x_ne hA))
theorem LQ{P A:Pt n}(hA:Onc b A):lam N P A (pn A)=one:=by
 cases P with
 | none=>exact ee H _ _
 | some P=>cases A with
  | none=>exact dm H _ _
  | some A=>exact cB H hA rfl (K2.add_neg' _)
theorem iZ{P A B:Pt n}(hA:Onc b A)(hB:Onc b B):lam N P A B=lam N P B A:=by
 cases P with
 | none=>rfl
 | some P=>cases A with
  | none=>rw[dm H,dC H]
  | some A=>cases B with
   | none=>rw[dm H,dC H]
   | some B=>
    obtain⟨u,v⟩:=P;obtain⟨x1,y1⟩:=A;obtain⟨x2,y2⟩:=B
    rcases K2.cq (x1:=x1) (y1:=y1) (x2:=x2) (y2:=y2) H.tw.p3 hA hB with⟨h1,h2⟩ | ⟨l,h,hn⟩
    ·rw[cB H hA h1 h2,cB H hB h1.symm (by rw[K2.add_comm'];exact h2)]
    ·rw[lam,lam,dp H.tw.p3 h hn,dp H.tw.p3 h.symm (hn.imp (fun e=>Ne.symm e) (fun e=>by rw[K2.add_comm'];exact e))]
     rw[LY (l:=l) (x:=x2) (y:=y2) (x':=x1) (y':=y1) (CR.lin (x:=(.s (.m (.v 4) (.v 0)) (.v 1))) (y:=(.s (.m (.v 4) (.v 2)) (.v 3))) [((.c (-1)),(.v 1),(.a (.v 3) (.m (.v 4) (.s (.v 0) (.v 2)))))] (by decide +kernel) [x1,y1,x2,y2,l] ⟨h.a,trivial⟩)]
theorem B7{P A B:Pt n}(hP:Onc c P)(hA:Onc b A)(hB:Onc b B):mul (lam N P (pn A) (pn B)) (lam N P A B)=one:=by
 cases P with
 | none=>rw[ee H,ee H,am]
 | some P=>cases A with
  | none=>show mul (lam N (some P) none _) _=_;rw[dm H,dm H,am]
  | some A=>cases B with
   | none=>show mul (lam N (some P) _ none) _=_;rw[dC H,dC H,am]
   | some B=>
    obtain⟨u,v⟩:=P;obtain⟨x1,y1⟩:=A;obtain⟨x2,y2⟩:=B
    show mul (lam N _ (some (x1,K2.neg y1)) (some (x2,K2.neg y2))) _=_
    rcases K2.cq (x1:=x1) (y1:=y1) (x2:=x2) (y2:=y2) H.tw.p3 hA hB with⟨h1,h2⟩ | ⟨l,h,hn⟩
    ·rw[cB H hA h1 h2,cB H (K2.cF hA) h1 (by rw[← K2.dE,h2,K2.bk]),am]
    ·rw[lam,lam,dp H.tw.p3 h hn,dp H.tw.p3 h.opp (hn.imp id fun e h=>e (K2.mX.1 (by rw[K2.dE];exact h)))]
     rw[HS (l:=l) (x:=x1) (y:=y1) (x':=x1) (y':=K2.neg y1) (CR.aH (x:=(.s (.m (.n (.v 0)) (.v 1)) (.n (.v 2)))) (y:=(.n (.s (.m (.v 0) (.v 1)) (.v 2)))) (by decide +kernel) [l,x1,y1])]
     exact uU H.tw (ke (K2.gD H.n4 hP))
theorem qZ{P A B:Pt n}(hP:Onc c P)(hA:Onc b A)(hB:Onc b B):mul (lam N P (pa A B) (pn B)) (lam N P A B)=one:=by
 cases P with
 | none=>rw[ee H,ee H,am]
 | some P=>cases A with
  | none=>show mul (lam N (some P) B (pn B)) _=_;rw[LQ H hB,dm H,am]
  | some A=>cases B with
   | none=>show mul (lam N (some P) _ none) _=_;rw[dC H,dC H,am]
   | some B=>
    obtain⟨u,v⟩:=P;obtain⟨x1,y1⟩:=A;obtain⟨x2,y2⟩:=B
    have hbk:=K2.jz H.tw.p3 H.n2 hA hB
    rcases K2.cq (x1:=x1) (y1:=y1) (x2:=x2) (y2:=y2) H.tw.p3 hA hB with⟨h1,h2⟩ | ⟨l,h,hn⟩
    ·rw[cB H hA h1 h2,K2.cY H.tw.p3 h1 h2,dm H,am]
    ·rw[K2.cC H.tw.p3 h hn]at hbk ⊢
     rw[lam,lam,dp H.tw.p3 h hn]
     show mul (fin N (lin _ _ (some (x2,K2.neg y2)))) _=_
     rw[dp H.tw.p3 h.back (nd H.tw.p3 (by intro e;exact absurd (hbk.symm.trans e) (by simp)))]
     rw[HS (l:=l) (x:=x1) (y:=y1) (x':=cx l x1 x2) (y':=cy l x1 y1 x2) (CR.aH (x:=(.s (.m (.n (.v 0)) (.s (.s (.m (.v 0) (.v 0)) (.v 1)) (.v 3))) (.s (.m (.v 0) (.s (.v 1) (.s (.s (.m (.v 0) (.v 0)) (.v 1)) (.v 3)))) (.v 2)))) (y:=(.n (.s (.m (.v 0) (.v 1)) (.v 2)))) (by decide +kernel) [l,x1,y1,x2])]
     exact uU H.tw (ke (K2.gD H.n4 hP))
theorem UC{l1 l2 x1 y1 x2 y2 xs ys u v:K2 n}(hP:Onc c (some (u,v)))(hS:Onc b (some (xs,ys)))(d:LD l1 x1 y1 x2 y2 xs ys):
  mul (fin N (ln l1 x1 y1 u v)) (fin N (ln l2 xs ys u v))=fin N (neg (nv (nA l1 l2 xs) (nB l1 l2) (nC l1 l2 xs ys) u v)):=by
 have n1:=ke (l:=l1) (x:=x1) (y:=y1) (u:=u) (K2.gD H.n4 hP)
 have n2:=ke (l:=l2) (x:=xs) (y:=ys) (u:=u) (K2.gD H.n4 hP)
 have n3:=yU (u:=u) (H.x_ne hS)
 have e:=UF (l2:=l2) d H.hb (K2.bL hS) (K2.bL hP)
 have n4:=bQ H.tw n1 n2
 rw[e]at n4
 have n5:neg (nv (nA l1 l2 xs) (nB l1 l2) (nC l1 l2 xs ys) u v)≠zero:=fun h=>n4 (by rw[h];exact CR.aj _)
 rw[← dq H.tw n1 n2,e,dq H.tw n3 n5,nX H.tw n3,bj]
theorem va{P A B C:Pt n}(hP:Onc c P)(hA:Onc b A)(hB:Onc b B)(hC:Onc b C):mul (lam N P A B) (lam N P (pa A B) C)=mul (lam N P B C) (lam N P A (pa B C)):=by
 have hp:=H.tw.p3
 cases P with
 | none=>rw[ee H,ee H,ee H,ee H]
 | some P=>cases A with
  | none=>rw[dm H,dm H,bj,am];rfl
  | some A=>cases B with
   | none=>rw[dm H,dC H,K2.bB];rfl
   | some B=>cases C with
    | none=>rw[dC H,dC H,K2.bB,am,bj]
    | some C=>
     have has:=K2.dW hp H.n2 hA hB hC
     obtain⟨u,v⟩:=P;obtain⟨x1,y1⟩:=A;obtain⟨x2,y2⟩:=B;obtain⟨x3,y3⟩:=C
     rcases K2.cq (x1:=x1) (y1:=y1) (x2:=x2) (y2:=y2) hp hA hB with⟨h1,h2⟩ | ⟨l1,h,hn⟩
     ·have e:(some (x1,y1):Pt n)=pn (some (x2,y2)):=K2.bF h1 (K2.aP h2)
      have:=qZ H (N:=N) hP hC hB
      rw[cB H hA h1 h2,K2.cY hp h1 h2,dm H,am,e,iZ H hB hC,iZ H (K2.cF hB) (H.oa hB hC),K2.dr hp hB hC,mul_comm',this]
     ·rcases K2.cq (x1:=x2) (y1:=y2) (x2:=x3) (y2:=y3) hp hB hC with⟨g1,g2⟩ | ⟨l3,k,kn⟩
      ·have e:(some (x3,y3):Pt n)=pn (some (x2,y2)):=K2.bF g1.symm (K2.aP (by rw[K2.add_comm'];exact g2))
       have:=qZ H (N:=N) hP hA hB
       rw[cB H hB g1 g2,K2.cY hp g1 g2,dC H,am,e,mul_comm',this]
      ·have eS:=K2.cC hp h hn
       have eT:=K2.cC hp k kn
       have hS:=H.oa hA hB
       have hT:=H.oa hB hC
       have lB:=qZ H (N:=N) hP hA hB
       have aB:lam N (some (u,v)) (some (x1,y1)) (some (x2,y2))=fin N (ln l1 x1 y1 u v):=by rw[lam,dp hp h hn]
       have aC:lam N (some (u,v)) (some (x2,y2)) (some (x3,y3))=fin N (ln l3 x2 y2 u v):=by rw[lam,dp hp k kn]
       have d1:=h.ld
       have d3:=k.ld
       rw[eS]at hS has lB ⊢
       rw[eT]at hT has ⊢
       generalize cx l1 x1 x2=xs at *
       generalize cy l1 x1 y1 x2=ys at *
       generalize cx l3 x2 x3=xt at *
       generalize cy l3 x2 y2 x3=yt at *
       rcases K2.cq (x1:=xs) (y1:=ys) (x2:=x3) (y2:=y3) hp hS hC with⟨g1,g2⟩ | ⟨l2,m,mn⟩
       ·have e:(some (x3,y3):Pt n)=pn (some (xs,ys)):=K2.bF g1.symm (K2.aP (by rw[K2.add_comm'];exact g2))
        have aT:lam N (some (u,v)) (some (x1,y1)) (some (xt,yt))=one:=by
         rcases K2.cq (x1:=x1) (y1:=y1) (x2:=xt) (y2:=yt) hp hA hT with⟨f1,f2⟩ | ⟨l4,q,qn⟩
         ·exact cB H hA f1 f2
         ·rw[K2.cY hp g1 g2,K2.cC hp q qn]at has
          cases has
        rw[cB H hS g1 g2,aT,am,am]
        have n1:=B7 H (N:=N) hP hB (K2.cF hS)
        rw[K2.ID,← e,iZ H (K2.cF hB) hS]at n1
        exact qW lB n1
       ·have eW:=K2.cC hp m mn
        rcases K2.cq (x1:=x1) (y1:=y1) (x2:=xt) (y2:=yt) hp hA hT with⟨f1,f2⟩ | ⟨l4,q,qn⟩
        ·rw[eW,K2.cY hp f1 f2]at has
         cases has
        ·have aS:lam N (some (u,v)) (some (xs,ys)) (some (x3,y3))=fin N (ln l2 xs ys u v):=by rw[lam,dp hp m mn]
         have aT:lam N (some (u,v)) (some (x1,y1)) (some (xt,yt))=fin N (ln l4 xt yt u v):=by
          rw[iZ H hA hT,lam,dp hp q.symm (qn.imp (fun e=>Ne.symm e) (fun e=>by rw[K2.add_comm'];exact e))]
         rw[eW,K2.cC hp q qn]at has
         have d2:=m.ld
         have d4:=q.symm.ld
         rw[K2.jq l4 xt x1,← K2.mB q,← (Prod.mk.inj (Option.some.inj has)).1,← (Prod.mk.inj (Option.some.inj has)).2]at d4
         obtain⟨e1,e2,e3⟩:=G6 hp H.n2 d1 d2 d3 d4 hS hT (K2.gD H.n2 hA)
         rw[aB,aS,aC,aT,UC H hP hS d1,UC H hP hT d3,e1,e2,e3]
end
end T12
end Go.Proofs.YtndhfbecpghinaaGreat.L.Kf
namespace Go.Proofs.YtndhfbecpghinaaGreat.L.Kf
open Pr
namespace T12
variable {n:Nat} [NeZero n]
open K2 (Pt pa pn Onc No2 Slp LD cx cy f6 ec)
attribute [local irreducible] K2.add K2.mul K2.sub K2.neg K2.zero K2.one K2.inv K2.xi
def gg(m u v x y:K2 n):T12 n:=⟨⟨y,K2.zero,K2.zero⟩,⟨K2.neg (K2.mul m x),K2.sub (K2.mul m u) v,K2.zero⟩⟩
def gin(P Q A:Pt n):T12 n:=
 match P,Q,A with
 | some P,some Q,some A=>
  if P.1=Q.1 then if P.2=Q.2∧P.2≠K2.zero then gg (f6 P.1 P.2) P.1 P.2 A.1 A.2 else e6 (vt A.1 P.1)
  else gg (ec P.1 P.2 Q.1 Q.2) P.1 P.2 A.1 A.2
 | _,_,_=>one
theorem j6(hp:P3 n){l x1 y1 x2 y2 u v:K2 n}(h:Slp l x1 y1 x2 y2)(hne:x1≠x2∨K2.add y1 y2≠K2.zero):gin (some (x1,y1)) (some (x2,y2)) (some (u,v))=gg l x1 y1 u v:=by
 by_cases hx:x1=x2
 ·subst hx
  have hy:y1=y2:=by
   have:=h.a
   rwa [K2.aZ,K2.aj,K2.add_zero']at this
  subst hy
  have h2:K2.add y1 y1≠K2.zero:=hne.resolve_left fun h=>h rfl
  have hy0:y1≠K2.zero:=fun e=>h2 (by rw[e,K2.add_zero'])
  have ht:f6 x1 y1=l:=K2.dy hp h2 h.b
  show(if x1=x1 then if y1=y1∧y1≠K2.zero then _ else _ else _)=_
  rw[if_pos rfl,if_pos ⟨rfl,hy0⟩,ht]
 ·have hd:K2.sub x2 x1≠K2.zero:=fun e=>hx (K2.aE e).symm
  have hc:ec x1 y1 x2 y2=l:=K2.dy hp hd (CR.lin (x:=(.m (.v 4) (.s (.v 2) (.v 0)))) (y:=(.s (.v 3) (.v 1))) [((.c 1),(.v 1),(.a (.v 3) (.m (.v 4) (.s (.v 0) (.v 2)))))] (by decide +kernel) [x1,y1,x2,y2,l] ⟨h.a,trivial⟩)
  show(if x1=x2 then _ else _)=_
  rw[if_neg hx,hc]
theorem BT(hp:P3 n){x1 y1 x2 y2 u v:K2 n}(hx:x1=x2)(hy:K2.add y1 y2=K2.zero):gin (some (x1,y1)) (some (x2,y2)) (some (u,v))=e6 (vt u x1):=by
 subst hx
 show(if x1=x1 then if y1=y2∧y1≠K2.zero then _ else _ else _)=_
 rw[if_pos rfl,if_neg]
 rintro⟨rfl,h⟩
 exact K2.ge hp h hy
theorem Rb(P Q:Pt n):gin P Q none=one:=by cases P <;> cases Q <;> rfl
theorem Hq(P A:Pt n):gin P none A=one:=by cases P <;> rfl
theorem qO{m u v x y:K2 n}(h:y≠K2.zero):gg m u v x y≠zero:=fun e=>h (congrArg (fun z:T12 n=>z.a.a) e)
theorem Hp(m u v x y:K2 n):gg m u v x (K2.neg y)=neg (conj (gg m u v x y)):=by
 unfold gg
 refine ext' (T6.ext' rfl ?_ ?_) (T6.ext' ?_ ?_ ?_)
 ·exact K2.bk.symm
 ·exact K2.bk.symm
 ·exact(K2.bv _).symm
 ·exact(K2.bv _).symm
 ·exact(K2.bv _).symm
theorem Ca(l x y u v:K2 n):ln l x y u (K2.neg v)=conj (ln l x y u v):=by
 unfold ln
 exact ext' rfl (T6.ext' K2.bk.symm rfl K2.bk.symm)
omit [NeZero n] in
theorem jd(a b c d e f a' b' c' d' e' f':K2 n):sub ⟨⟨a,b,c⟩,⟨d,e,f⟩⟩ ⟨⟨a',b',c'⟩,⟨d',e',f'⟩⟩=⟨⟨K2.sub a a',K2.sub b b',K2.sub c c'⟩,⟨K2.sub d d',K2.sub e e',K2.sub f f'⟩⟩:=rfl
theorem lx(x:K2 n):K2.sub x K2.zero=x:=by rw[K2.sub_eq,K2.bk,K2.add_zero']
theorem JB(x:K2 n):K2.sub K2.zero x=K2.neg x:=by rw[K2.sub_eq,K2.aM]
theorem nR(x y:K2 n):e2 (K2.add x y)=add (e2 x) (e2 y):=by
 rw[iu,iu,iu,gc,K2.add_zero']
theorem uO(x y:K2 n):e2 (K2.sub x y)=sub (e2 x) (e2 y):=by
 rw[iu,iu,iu,jd,lx]
theorem rf(c d:K2 n)(k:Nat):mo (K2.add c d) k=add (mo c k) (mo d k):=by
 unfold mo
 rw[nR];exact CR.cQ _ _ _
theorem H5(c d:K2 n)(k:Nat):mo (K2.sub c d) k=sub (mo c k) (mo d k):=by
 unfold mo
 rw[uO]
 exact CR.aH (x:=(.m (.s (.v 0) (.v 1)) (.v 2))) (y:=(.s (.m (.v 0) (.v 2)) (.m (.v 1) (.v 2)))) (by decide +kernel) [e2 c,e2 d,CR.pw w k]
theorem iL(c d:K2 n)(i j:Nat):mul (mo c i) (mo d j)=mo (K2.mul c d) (i+j):=by
 unfold mo
 rw[Ib,gR,CR.dP];rfl
theorem H4(c:K2 n):mo c 0=e2 c:=(H2 c).trans (iu c).symm
theorem UG(l x y u v:K2 n):ln l x y u v=sub (sub (mo v 3) (mul (e2 l) (mo u 2))) (e2 (K2.sub y (K2.mul l x))):=by
 rw[← H4 l,iL,Nat.zero_add,L3,H3,iu,jd,jd]
 unfold ln
 refine ext' (T6.ext' ?_ ?_ ?_) (T6.ext' ?_ ?_ ?_)
 ·exact CR.aH (x:=(.s (.m (.v 0) (.v 1)) (.v 2))) (y:=(.s (.s (.c 0) (.c 0)) (.s (.v 2) (.m (.v 0) (.v 1))))) (by decide +kernel) [l,x,y]
 ·exact CR.aH (x:=(.n (.m (.v 0) (.v 1)))) (y:=(.s (.s (.c 0) (.m (.v 0) (.v 1))) (.c 0))) (by decide +kernel) [l,u]
 ·simp only[lx]
 ·simp only[lx]
 ·simp only[lx]
 ·simp only[lx]
theorem Us(m u v x y:K2 n):gg m u v x y=sub (sub (e2 y) (mul (mo m 1) (e2 x))) (mo (K2.sub v (K2.mul m u)) 3):=by
 rw[← H4 x,iL,Nat.add_zero,L2,H3,iu,jd,jd]
 unfold gg
 refine ext' (T6.ext' ?_ ?_ ?_) (T6.ext' ?_ ?_ ?_)
 ·simp only[lx]
 ·simp only[lx]
 ·simp only[lx]
 ·simp only[lx,JB]
 ·exact CR.aH (x:=(.s (.m (.v 0) (.v 1)) (.v 2))) (y:=(.s (.s (.c 0) (.c 0)) (.s (.v 2) (.m (.v 0) (.v 1))))) (by decide +kernel) [m,u,v]
 ·simp only[lx]
theorem Sc{R:Type}[CR R]{l v m k x1 x2 x3 a1 a2 a3 b:R}(h1:CR.add (CR.add x1 x2) x3=CR.mul m m)(h2:CR.add (CR.mul x1 x2) (CR.mul (CR.add x1 x2) x3)=CR.mul (CR.add m m) k)(h3:CR.mul (CR.mul x1 x2) x3=CR.sub (CR.mul k k) b)
  (g1:CR.add (CR.add a1 a2) a3=CR.mul l l) (g2:CR.add (CR.mul a1 a2) (CR.mul (CR.add a1 a2) a3)=CR.mul (CR.add l l) v) (g3:CR.mul (CR.mul a1 a2) a3=CR.sub (CR.mul v v) b):
  CR.mul (CR.mul (CR.add (CR.sub (CR.sub (CR.mul m x1) k) (CR.mul l x1)) v) (CR.add (CR.sub (CR.sub (CR.mul m x2) k) (CR.mul l x2)) v)) (CR.add (CR.sub (CR.sub (CR.mul m x3) k) (CR.mul l x3)) v) =
  CR.neg (CR.mul (CR.mul (CR.add (CR.sub (CR.sub (CR.mul l a1) v) (CR.mul m a1)) k) (CR.add (CR.sub (CR.sub (CR.mul l a2) v) (CR.mul m a2)) k)) (CR.add (CR.sub (CR.sub (CR.mul l a3) v) (CR.mul m a3)) k)):=
 CR.lin (x:=(.m (.m (.a (.s (.s (.m (.v 2) (.v 4)) (.v 3)) (.m (.v 0) (.v 4))) (.v 1)) (.a (.s (.s (.m (.v 2) (.v 5)) (.v 3)) (.m (.v 0) (.v 5))) (.v 1))) (.a (.s (.s (.m (.v 2) (.v 6)) (.v 3)) (.m (.v 0) (.v 6))) (.v 1)))) (y:=(.n (.m (.m (.a (.s (.s (.m (.v 0) (.v 7)) (.v 1)) (.m (.v 2) (.v 7))) (.v 3)) (.a (.s (.s (.m (.v 0) (.v 8)) (.v 1)) (.m (.v 2) (.v 8))) (.v 3))) (.a (.s (.s (.m (.v 0) (.v 9)) (.v 1)) (.m (.v 2) (.v 9))) (.v 3))))) [((.m (.s (.v 2) (.v 0)) (.m (.s (.v 1) (.v 3)) (.s (.v 1) (.v 3)))),(.a (.a (.v 4) (.v 5)) (.v 6)),(.m (.v 2) (.v 2))),((.m (.m (.s (.v 2) (.v 0)) (.s (.v 2) (.v 0))) (.s (.v 1) (.v 3))),(.a (.m (.v 4) (.v 5)) (.m (.a (.v 4) (.v 5)) (.v 6))),(.m (.a (.v 2) (.v 2)) (.v 3))),((.m (.m (.s (.v 2) (.v 0)) (.s (.v 2) (.v 0))) (.s (.v 2) (.v 0))),(.m (.m (.v 4) (.v 5)) (.v 6)),(.s (.m (.v 3) (.v 3)) (.v 10))),((.n (.m (.s (.v 2) (.v 0)) (.m (.s (.v 1) (.v 3)) (.s (.v 1) (.v 3))))),(.a (.a (.v 7) (.v 8)) (.v 9)),(.m (.v 0) (.v 0))),((.n (.m (.m (.s (.v 2) (.v 0)) (.s (.v 2) (.v 0))) (.s (.v 1) (.v 3)))),(.a (.m (.v 7) (.v 8)) (.m (.a (.v 7) (.v 8)) (.v 9))),(.m (.a (.v 0) (.v 0)) (.v 1))),((.n (.m (.m (.s (.v 2) (.v 0)) (.s (.v 2) (.v 0))) (.s (.v 2) (.v 0)))),(.m (.m (.v 7) (.v 8)) (.v 9)),(.s (.m (.v 1) (.v 1)) (.v 10)))] (by decide +kernel) [l,v,m,k,x1,x2,x3,a1,a2,a3,b] ⟨h1,h2,h3,g1,g2,g3,trivial⟩
theorem Gt(x:K2 n):e2 (K2.neg x)=neg (e2 x):=by
 rw[← JB,uO,uP]
 exact(CR.sub_eq (R:=T12 n) _ _).trans (CR.aM _)
theorem RA(x:K2 n)(k:Nat):mo (K2.neg x) k=neg (mo x k):=by
 unfold mo
 rw[Gt];exact CR.db _ _
theorem CT(x y:T12 n):sub x (neg y)=add x y:=by
 have h:=CR.sub_eq (R:=T12 n) x (neg y)
 rw[show CR.neg (neg y)=y from CR.bv (R:=T12 n) y]at h
 exact h
theorem Ru{l x y u v m k z:K2 n}(hv:v=K2.sub (K2.mul m u) k)(hy:K2.sub y (K2.mul l x)=K2.neg z):ln l x y u v=add (sub (sub (mul (mo m 1) (mo u 2)) (mo k 3)) (mul (e2 l) (mo u 2))) (e2 z):=by
 rw[UG,hy,hv,Gt,CT,H5,iL]
theorem Ra{l x y u v m k z:K2 n}(hy:y=K2.sub (K2.mul l x) z)(hv:K2.sub v (K2.mul m u)=K2.neg k):gg m u v x y=add (sub (sub (mul (e2 l) (e2 x)) (e2 z)) (mul (mo m 1) (e2 x))) (mo k 3):=by
 rw[Us,hv,hy,RA,CT,uO,gR]
theorem EN{b c l m x1 y1 x2 y2 xs ys u1 v1 u2 v2 u3 v3:K2 n}(hb:b=K2.mul K2.xi c)(d:LD m u1 v1 u2 v2 u3 v3)(hR:Onc c (some (u3,v3)))(f:LD l x1 y1 x2 y2 xs ys)(hS:Onc b (some (xs,ys))):
  mul (mul (ln l x1 y1 u1 v1) (ln l x1 y1 u2 v2)) (conj (ln l x1 y1 u3 v3))=mul (mul (gg m u1 v1 x1 y1) (gg m u1 v1 x2 y2)) (conj (gg m u1 v1 xs ys)):=by
 have h1:add (add (mo u1 2) (mo u2 2)) (mo u3 2)=mul (mo m 1) (mo m 1):=by rw[← rf,← rf,iL,d.s]
 have h2:add (mul (mo u1 2) (mo u2 2)) (mul (add (mo u1 2) (mo u2 2)) (mo u3 2))=mul (add (mo m 1) (mo m 1)) (mo (K2.add v3 (K2.mul m u3)) 3):=by rw[iL,← rf,iL,← rf,← rf,iL,d.p]
 have h3:mul (mul (mo u1 2) (mo u2 2)) (mo u3 2)=sub (mul (mo (K2.add v3 (K2.mul m u3)) 3) (mo (K2.add v3 (K2.mul m u3)) 3)) (e2 b):=by
  rw[iL,iL,iL,d.c (K2.bL hR),H5,UI c,H4,hb]
 have g1:add (add (e2 x1) (e2 x2)) (e2 xs)=mul (e2 l) (e2 l):=by rw[← nR,← nR,← gR,f.s]
 have g2:add (mul (e2 x1) (e2 x2)) (mul (add (e2 x1) (e2 x2)) (e2 xs))=mul (add (e2 l) (e2 l)) (e2 (K2.add ys (K2.mul l xs))):=by rw[← gR,← nR,← gR,← nR,← nR,← gR,f.p]
 have g3:mul (mul (e2 x1) (e2 x2)) (e2 xs)=sub (mul (e2 (K2.add ys (K2.mul l xs))) (e2 (K2.add ys (K2.mul l xs)))) (e2 b):=by
  rw[← gR,← gR,← gR,← uO,f.c (K2.bL hS)]
 have q:=Sc (R:=T12 n) h1 h2 h3 g1 g2 g3
 have yl:K2.sub y1 (K2.mul l x1)=K2.neg (K2.add ys (K2.mul l xs)):=CR.lin (x:=(.s (.v 0) (.m (.v 1) (.v 2)))) (y:=(.n (.a (.v 4) (.m (.v 1) (.v 3))))) [((.c 1),(.a (.v 0) (.v 4)),(.m (.v 1) (.s (.v 2) (.v 3))))] (by decide +kernel) [y1,l,x1,xs,ys] ⟨f.a,trivial⟩
 have vm:K2.sub v1 (K2.mul m u1)=K2.neg (K2.add v3 (K2.mul m u3)):=CR.lin (x:=(.s (.v 0) (.m (.v 1) (.v 2)))) (y:=(.n (.a (.v 4) (.m (.v 1) (.v 3))))) [((.c 1),(.a (.v 0) (.v 4)),(.m (.v 1) (.s (.v 2) (.v 3))))] (by decide +kernel) [v1,m,u1,u3,v3] ⟨d.a,trivial⟩
 have p1:=Ru (l:=l) (x:=x1) (y:=y1) (u:=u1) (v:=v1) (m:=m) (k:=K2.add v3 (K2.mul m u3)) (CR.lin (x:=(.v 0)) (y:=(.s (.m (.v 1) (.v 2)) (.a (.v 4) (.m (.v 1) (.v 3))))) [((.c 1),(.a (.v 0) (.v 4)),(.m (.v 1) (.s (.v 2) (.v 3))))] (by decide +kernel) [v1,m,u1,u3,v3] ⟨d.a,trivial⟩) yl
 have p2:=Ru (l:=l) (x:=x1) (y:=y1) (u:=u2) (v:=v2) (m:=m) (k:=K2.add v3 (K2.mul m u3)) (CR.lin (x:=(.v 0)) (y:=(.s (.m (.v 1) (.v 2)) (.a (.v 4) (.m (.v 1) (.v 3))))) [((.c 1),(.a (.v 0) (.v 4)),(.m (.v 1) (.s (.v 2) (.v 3))))] (by decide +kernel) [v2,m,u2,u3,v3] ⟨d.b,trivial⟩) yl
 have p3:=Ru (l:=l) (x:=x1) (y:=y1) (u:=u3) (v:=K2.neg v3) (m:=m) (k:=K2.add v3 (K2.mul m u3)) (CR.aH (x:=(.n (.v 2))) (y:=(.s (.m (.v 0) (.v 1)) (.a (.v 2) (.m (.v 0) (.v 1))))) (by decide +kernel) [m,u3,v3]) yl
 have r1:=Ra (m:=m) (u:=u1) (v:=v1) (x:=x1) (y:=y1) (l:=l) (z:=K2.add ys (K2.mul l xs)) (CR.lin (x:=(.v 0)) (y:=(.s (.m (.v 1) (.v 2)) (.a (.v 4) (.m (.v 1) (.v 3))))) [((.c 1),(.a (.v 0) (.v 4)),(.m (.v 1) (.s (.v 2) (.v 3))))] (by decide +kernel) [y1,l,x1,xs,ys] ⟨f.a,trivial⟩) vm
 have r2:=Ra (m:=m) (u:=u1) (v:=v1) (x:=x2) (y:=y2) (l:=l) (z:=K2.add ys (K2.mul l xs)) (CR.lin (x:=(.v 0)) (y:=(.s (.m (.v 1) (.v 2)) (.a (.v 4) (.m (.v 1) (.v 3))))) [((.c 1),(.a (.v 0) (.v 4)),(.m (.v 1) (.s (.v 2) (.v 3))))] (by decide +kernel) [y2,l,x2,xs,ys] ⟨f.b,trivial⟩) vm
 have r3:=Ra (m:=m) (u:=u1) (v:=v1) (x:=xs) (y:=K2.neg ys) (l:=l) (z:=K2.add ys (K2.mul l xs)) (CR.aH (x:=(.n (.v 2))) (y:=(.s (.m (.v 0) (.v 1)) (.a (.v 2) (.m (.v 0) (.v 1))))) (by decide +kernel) [l,xs,ys]) vm
 have hc:∀z:T12 n,conj z=neg (neg (conj z)):=fun z=>(CR.bv (R:=T12 n) _).symm
 rw[← Ca,hc (gg m u1 v1 xs ys),← Hp,p1,p2,p3,r1,r2,r3]
 exact q.trans (CR.eZ _ _).symm
section
variable {b c:K2 n} (H:Pg b c) {N:Nat}
include H
omit H in
def mu(N:Nat)(P Q A:Pt n):T12 n:=fin N (gin P Q A)
theorem rg(Q A:Pt n):mu N none Q A=one:=eX H.tw
theorem rh(P A:Pt n):mu N P none A=one:=by rw[mu,Hq];exact eX H.tw
theorem tr(P Q:Pt n):mu N P Q none=one:=by rw[mu,Rb];exact eX H.tw
theorem lN{x1 y1 x2 y2:K2 n}{A:Pt n}(hA:Onc b A)(hx:x1=x2)(hy:K2.add y1 y2=K2.zero):mu N (some (x1,y1)) (some (x2,y2)) A=one:=by
 cases A with
 | none=>exact tr H _ _
 | some A=>
  rw[mu,BT H.tw.p3 hx hy]
  exact nX H.tw (yU (H.x_ne hA))
theorem LR{P A B:Pt n}(hP:Onc c P)(hA:Onc b A)(hB:Onc b B):mul (lam N (pn P) A B) (lam N P A B)=one:=by
 cases P with
 | none=>show mul (lam N none _ _) _=_;rw[ee H,am]
 | some P=>cases A with
  | none=>rw[dm H,dm H,am]
  | some A=>cases B with
   | none=>rw[dC H,dC H,am]
   | some B=>
    obtain⟨u,v⟩:=P;obtain⟨x1,y1⟩:=A;obtain⟨x2,y2⟩:=B
    show mul (lam N (some (u,K2.neg v)) _ _) _=_
    rcases K2.cq (x1:=x1) (y1:=y1) (x2:=x2) (y2:=y2) H.tw.p3 hA hB with⟨h1,h2⟩ | ⟨l,h,hn⟩
    ·rw[cB H hA h1 h2,cB H hA h1 h2,am]
    ·rw[lam,lam,dp H.tw.p3 h hn,dp H.tw.p3 h hn,Ca]
     exact j4 H.tw (ke (K2.gD H.n4 hP))
theorem H9{P Q A:Pt n}(hP:Onc c P)(hQ:Onc c Q)(hA:Onc b A):mul (mu N P Q (pn A)) (mu N P Q A)=one:=by
 cases P with
 | none=>rw[rg H,rg H,am]
 | some P=>cases Q with
  | none=>rw[rh H,rh H,am]
  | some Q=>
   obtain⟨x1,y1⟩:=P;obtain⟨x2,y2⟩:=Q
   rcases K2.cq (x1:=x1) (y1:=y1) (x2:=x2) (y2:=y2) H.tw.p3 hP hQ with⟨h1,h2⟩ | ⟨l,h,hn⟩
   ·rw[lN H (K2.cF hA) h1 h2,lN H hA h1 h2,am]
   ·cases A with
    | none=>show mul (mu N _ _ none) _=_;rw[tr H,am]
    | some A=>
     obtain⟨x,y⟩:=A
     show mul (mu N _ _ (some (x,K2.neg y))) _=_
     rw[mu,mu,j6 H.tw.p3 h hn,j6 H.tw.p3 h hn,Hp]
     exact uU H.tw (qO (K2.gD H.n2 hA))
theorem B8{P Q A B:Pt n}(hP:Onc c P)(hQ:Onc c Q)(hA:Onc b A)(hB:Onc b B):mul (mul (lam N P A B) (lam N Q A B)) (mu N P Q (pa A B))=mul (lam N (pa P Q) A B) (mul (mu N P Q A) (mu N P Q B)):=by
 have hp:=H.tw.p3
 cases P with
 | none=>rw[ee H,rg H,rg H,rg H,am,am,am,bj];rfl
 | some P=>cases Q with
  | none=>rw[ee H,rh H,rh H,rh H,am,am,am,am];rfl
  | some Q=>cases A with
   | none=>rw[dm H,dm H,dm H,tr H,bj,bj,bj,bj];rfl
   | some A=>cases B with
    | none=>rw[dC H,dC H,dC H,tr H,K2.bB,am,am,bj]
    | some B=>
     obtain⟨u1,v1⟩:=P;obtain⟨u2,v2⟩:=Q;obtain⟨x1,y1⟩:=A;obtain⟨x2,y2⟩:=B
     rcases K2.cq (x1:=u1) (y1:=v1) (x2:=u2) (y2:=v2) hp hP hQ with⟨h1,h2⟩ | ⟨m,k,kn⟩
     ·have e:(some (u1,v1):Pt n)=pn (some (u2,v2)):=K2.bF h1 (K2.aP h2)
      rw[lN H (H.oa hA hB) h1 h2,lN H hA h1 h2,lN H hB h1 h2,K2.cY hp h1 h2,ee H,am,am,am,e]
      exact LR H hQ hA hB
     ·rcases K2.cq (x1:=x1) (y1:=y1) (x2:=x2) (y2:=y2) hp hA hB with⟨g1,g2⟩ | ⟨l,h,hn⟩
      ·have e:(some (x2,y2):Pt n)=pn (some (x1,y1)):=K2.bF g1.symm (K2.aP (by rw[K2.add_comm'];exact g2))
       have hm:=H9 H (N:=N) hP hQ hA
       rw[K2.cC hp k kn,cB H hA g1 g2,cB H hA g1 g2,cB H hA g1 g2,K2.cY hp g1 g2,tr H,am,am,bj,e,mul_comm',hm]
      ·have hR:Onc c (pa (some (u1,v1)) (some (u2,v2))):=K2.di hp hP hQ
       have hS:=H.oa hA hB
       have q:=EN H.hb k.ld (by rw[← K2.cC hp k kn];exact hR) h.ld (by rw[← K2.cC hp h hn];exact hS)
       rw[K2.cC hp k kn]at hR ⊢
       rw[K2.cC hp h hn]at hS ⊢
       rw[lam,lam,lam,dp hp h hn,dp hp h hn,dp hp h hn,mu,mu,mu,j6 hp k kn,j6 hp k kn,j6 hp k kn]
       have n1:=ke (l:=l) (x:=x1) (y:=y1) (u:=u1) (K2.gD H.n4 hP)
       have n2:=ke (l:=l) (x:=x1) (y:=y1) (u:=u2) (K2.gD H.n4 hQ)
       have n3:=ke (l:=l) (x:=x1) (y:=y1) (u:=cx m u1 u2) (K2.gD H.n4 hR)
       have m1:=qO (m:=m) (u:=u1) (v:=v1) (x:=x1) (K2.gD H.n2 hA)
       have m2:=qO (m:=m) (u:=u1) (v:=v1) (x:=x2) (K2.gD H.n2 hB)
       have m3:=qO (m:=m) (u:=u1) (v:=v1) (x:=cx l x1 x2) (K2.gD H.n2 hS)
       have q2:=congrArg (fin N) q
       rw[dq H.tw (bQ H.tw n1 n2) (jm H.tw n3),dq H.tw n1 n2,dq H.tw (bQ H.tw m1 m2) (jm H.tw m3),dq H.tw m1 m2]at q2
       have c1:=j4 (N:=N) H.tw n3
       have c2:=j4 (N:=N) H.tw m3
       generalize fin N (ln l x1 y1 u1 v1)=a1 at *
       generalize fin N (ln l x1 y1 u2 v2)=a2 at *
       generalize fin N (ln l x1 y1 (cx m u1 u2) (cy m u1 v1 u2))=a3 at *
       generalize fin N (conj (ln l x1 y1 (cx m u1 u2) (cy m u1 v1 u2)))=a4 at *
       generalize fin N (gg m u1 v1 x1 y1)=b1 at *
       generalize fin N (gg m u1 v1 x2 y2)=b2 at *
       generalize fin N (gg m u1 v1 (cx l x1 x2) (cy l x1 y1 x2))=b3 at *
       generalize fin N (conj (gg m u1 v1 (cx l x1 x2) (cy l x1 y1 x2)))=b4 at *
       replace c1:mul a4 a3=CR.ofZ 1:=c1.trans (CR.dN (R:=T12 n)).symm
       replace c2:mul b4 b3=CR.ofZ 1:=c2.trans (CR.dN (R:=T12 n)).symm
       exact CR.lin (x:=(.m (.m (.v 0) (.v 1)) (.v 6))) (y:=(.m (.v 2) (.m (.v 4) (.v 5)))) [((.m (.v 2) (.v 6)),(.m (.m (.v 0) (.v 1)) (.v 3)),(.m (.m (.v 4) (.v 5)) (.v 7))),((.n (.m (.m (.v 0) (.v 1)) (.v 6))),(.m (.v 3) (.v 2)),(.c 1)),((.m (.v 2) (.m (.v 4) (.v 5))),(.m (.v 7) (.v 6)),(.c 1))] (by decide +kernel) [a1,a2,a3,a4,b1,b2,b3,b4] ⟨q2,c1,c2,trivial⟩
end
end T12
end Go.Proofs.YtndhfbecpghinaaGreat.L.Kf
namespace Go.Proofs.YtndhfbecpghinaaGreat.L.Kf
open Pr
namespace K2
variable {n:Nat} [NeZero n]
theorem fV(x y:K2 n):conj (add x y)=add (conj x) (conj y):=by
 unfold conj add
 exact ext' rfl (by grind)
theorem ci(x y:K2 n):conj (sub x y)=sub (conj x) (conj y):=by
 unfold conj sub
 exact ext' rfl (by grind)
omit [NeZero n] in
theorem qm(x:K2 n):conj (neg x)=neg (conj x):=rfl
theorem iU:conj (zero:K2 n)=zero:=by unfold conj zero;exact ext' rfl (show-(0:Fin n)=0 by grind)
theorem wO{x y:K2 n}(h:conj x=conj y):x=y:=by rw[← ew x,h,ew]
attribute [local irreducible] add mul sub neg zero one inv xi conj
def Rl:Pt n→Prop
 | none=>True
 | some P=>conj P.1=P.1∧conj P.2=P.2
theorem Slp.conj{l x1 y1 x2 y2:K2 n}(h:Slp l x1 y1 x2 y2):Slp (K2.conj l) (K2.conj x1) (K2.conj y1) (K2.conj x2) (K2.conj y2):=
 ⟨by rw[← ci,← aY,← fV,← h.a],by rw[← fV,← aY,h.b,q3,q3,fV,fV,aY,aY,aY]⟩
theorem TD(hp:P3 n){c:K2 n}{P Q:Pt n}(hP:Onc c P)(hQ:Onc c Q)(h1:Rl P)(h2:Rl Q):Rl (pa P Q):=by
 cases P with
 | none=>exact h2
 | some P=>cases Q with
  | none=>exact h1
  | some Q=>
   obtain⟨x1,y1⟩:=P;obtain⟨x2,y2⟩:=Q
   rcases cq (x1:=x1) (y1:=y1) (x2:=x2) (y2:=y2) hp hP hQ with⟨g1,g2⟩ | ⟨l,h,hn⟩
   ·rw[cY hp g1 g2];trivial
   ·have k:=h.conj
    have a1:K2.conj x1=x1:=h1.1
    have a2:K2.conj y1=y1:=h1.2
    have a3:K2.conj x2=x2:=h2.1
    have a4:K2.conj y2=y2:=h2.2
    rw[a1,a2,a3,a4]at k
    have e:=cC hp h hn
    have e2:=cC hp k hn
    rw[e]at e2 ⊢
    obtain⟨q1,q2⟩:=Prod.mk.inj (Option.some.inj e2)
    refine⟨?_,?_⟩
    ·show K2.conj (cx l x1 x2)=cx l x1 x2
     conv=>rhs;rw[q1]
     rw[cx,cx,ci,ci,aY,a1,a3]
    ·show K2.conj (cy l x1 y1 x2)=cy l x1 y1 x2
     conv=>rhs;rw[q2]
     rw[cy,cy,ci,aY,ci,cx,cx,ci,ci,aY,a1,a2,a3]
omit [NeZero n] in
theorem FS{P:Pt n}(h:Rl P):Rl (pn P):=by
 cases P with
 | none=>trivial
 | some P=>exact⟨h.1,by show K2.conj (neg P.2)=neg P.2;rw[qm,h.2]⟩
def psi(i:K2 n):Pt n→Pt n
 | none=>none
 | some A=>some (mul (mul i i) (K2.conj A.1),mul (mul (mul i i) i) (K2.conj A.2))
theorem Slp.psi{l x1 y1 x2 y2:K2 n}(h:Slp l x1 y1 x2 y2)(i:K2 n):Slp (mul i (K2.conj l)) (mul (mul i i) (K2.conj x1)) (mul (mul (mul i i) i) (K2.conj y1)) (mul (mul i i) (K2.conj x2)) (mul (mul (mul i i) i) (K2.conj y2)):=by
 have k:=h.conj
 generalize K2.conj x1=a1 at *
 generalize K2.conj y1=b1 at *
 generalize K2.conj x2=a2 at *
 generalize K2.conj y2=b2 at *
 generalize K2.conj l=m at *
 exact⟨CR.lin (x:=(.m (.m (.m (.v 0) (.v 0)) (.v 0)) (.v 3))) (y:=(.a (.m (.m (.m (.v 0) (.v 0)) (.v 0)) (.v 5)) (.m (.m (.v 0) (.v 1)) (.s (.m (.m (.v 0) (.v 0)) (.v 2)) (.m (.m (.v 0) (.v 0)) (.v 4)))))) [((.m (.m (.v 0) (.v 0)) (.v 0)),(.v 3),(.a (.v 5) (.m (.v 1) (.s (.v 2) (.v 4)))))] (by decide +kernel) [i,m,a1,b1,a2,b2] ⟨k.a,trivial⟩,CR.lin (x:=(.m (.m (.v 0) (.v 1)) (.a (.m (.m (.m (.v 0) (.v 0)) (.v 0)) (.v 3)) (.m (.m (.m (.v 0) (.v 0)) (.v 0)) (.v 5))))) (y:=(.a (.a (.m (.m (.m (.v 0) (.v 0)) (.v 2)) (.m (.m (.v 0) (.v 0)) (.v 2))) (.m (.m (.m (.v 0) (.v 0)) (.v 2)) (.m (.m (.v 0) (.v 0)) (.v 4)))) (.m (.m (.m (.v 0) (.v 0)) (.v 4)) (.m (.m (.v 0) (.v 0)) (.v 4))))) [((.m (.m (.m (.v 0) (.v 0)) (.v 0)) (.v 0)),(.m (.v 1) (.a (.v 3) (.v 5))),(.a (.a (.m (.v 2) (.v 2)) (.m (.v 2) (.v 4))) (.m (.v 4) (.v 4))))] (by decide +kernel) [i,m,a1,b1,a2,b2] ⟨k.b,trivial⟩⟩
theorem IQ(hp:P3 n){i x1 y1 x2 y2:K2 n}(hi:i≠zero)(h:x1≠x2∨add y1 y2≠zero):mul (mul i i) (K2.conj x1)≠mul (mul i i) (K2.conj x2)∨add (mul (mul (mul i i) i) (K2.conj y1)) (mul (mul (mul i i) i) (K2.conj y2))≠zero:=by
 have h2:=bQ hp hi hi
 have h3:=bQ hp h2 hi
 refine h.imp (fun h e=>h ?_) (fun h e=>h ?_)
 ·rw[mul_comm',mul_comm' (mul i i)]at e
  exact wO (Bw hp h2 e)
 ·rw[← mul_add',← fV]at e
  have:=(aW hp e).resolve_left h3
  exact wO (this.trans iU.symm)
theorem RR(hp:P3 n){b i:K2 n}(hi:i≠zero){A B:Pt n}(hA:Onc b A)(hB:Onc b B):pa (psi i A) (psi i B)=psi i (pa A B):=by
 cases A with
 | none=>rfl
 | some A=>cases B with
  | none=>rfl
  | some B=>
   obtain⟨x1,y1⟩:=A;obtain⟨x2,y2⟩:=B
   show pa (some (_,_)) (some (_,_))=_
   rcases cq (x1:=x1) (y1:=y1) (x2:=x2) (y2:=y2) hp hA hB with⟨g1,g2⟩ | ⟨l,h,hn⟩
   ·rw[cY hp g1 g2,cY hp (by rw[g1]) (by rw[← mul_add',← fV,g2,iU,aj])];rfl
   ·rw[cC hp h hn,cC hp (h.psi i) (IQ hp hi hn)]
    show _=some (_,_)
    refine bF ?_ ?_
    ·rw[cx,cx,ci,ci,aY]
     exact CR.aH (x:=(.s (.s (.m (.m (.v 0) (.v 1)) (.m (.v 0) (.v 1))) (.m (.m (.v 0) (.v 0)) (.v 2))) (.m (.m (.v 0) (.v 0)) (.v 3)))) (y:=(.m (.m (.v 0) (.v 0)) (.s (.s (.m (.v 1) (.v 1)) (.v 2)) (.v 3)))) (by decide +kernel) [i,K2.conj l,K2.conj x1,K2.conj x2]
    ·rw[cy,cy,cx,cx,ci,aY,ci,ci,ci,aY]
     exact CR.aH (x:=(.s (.m (.m (.v 0) (.v 1)) (.s (.m (.m (.v 0) (.v 0)) (.v 2)) (.s (.s (.m (.m (.v 0) (.v 1)) (.m (.v 0) (.v 1))) (.m (.m (.v 0) (.v 0)) (.v 2))) (.m (.m (.v 0) (.v 0)) (.v 4))))) (.m (.m (.m (.v 0) (.v 0)) (.v 0)) (.v 3)))) (y:=(.m (.m (.m (.v 0) (.v 0)) (.v 0)) (.s (.m (.v 1) (.s (.v 2) (.s (.s (.m (.v 1) (.v 1)) (.v 2)) (.v 4)))) (.v 3)))) (by decide +kernel) [i,K2.conj l,K2.conj x1,K2.conj y1,K2.conj x2]
end K2
end Go.Proofs.YtndhfbecpghinaaGreat.L.Kf
namespace Go.Proofs.YtndhfbecpghinaaGreat.L
open Go Go.Proofs
set_option maxRecDepth 100000
section
attribute [local irreducible] Code.wp wpList Af bodyPost L.Go
open Num
attribute [local simp] ae aD
def r:Nat:=52435875175126190479447740508185965837690552500527637822603658699938581184513
theorem CA:0<r:=by decide +kernel
theorem I0:r<W^4:=by decide +kernel
theorem Vb:([18446744069414584321,6034159408538082302,3691218898639771653,8353516859464449352]:List Nat)=D 4 r:=by decide +kernel
attribute [irreducible] r
theorem H6(a:Nat):a%r<W^4:=Nat.lt_trans (Nat.mod_lt _ CA) I0
theorem sN{a b:Prop}(k:b)(h:Rm b→a:=by intro k;refine aq (v:=LV .u64 (List.replicate 4 0)) (by rfl) (by rfl) ?_;exact k.h):a:=h ⟨k⟩
theorem Lm:Spec Tryz.prog 121 [] ai [] (IsV (LV .u64 (D 4 r))):=by
 refine ad Tryz.func121 rfl rfl rfl fun w _=>?_
 repeat (first|(refine sN ?_;intro _)|refine bn (kk:=.u64) (vs:=[18446744069414584321,6034159408538082302,3691218898639771653,8353516859464449352]) (by rfl) (by rfl) (by rfl) (by rfl) (by rfl) (by rfl) (by rfl) (by rfl) ?_|refine Z03 ?_|refine Z04 ?_|refine Z05 ?_|refine Z06 ?_|refine Z07 ?_|refine Z08 ?_|refine Z09 ?_|refine Z10 ?_|refine Z11 ?_|refine Z12 ?_|refine Z13 ?_|refine Z14 ?_|refine Z29 ?_|refine Z30 ?_|refine Z31 ?_|refine Z32 ?_|refine Z82 fun _=>?_)
 refine Zec fun _ hw=>aa hw SubW.nil ⟨?_,rfl⟩
 rw[← Vb];rfl
theorem qM(s:Value)(xs:List Nat)(hx:Lt 18446744073709551616 xs)(hl:xs.length<1000000):
  Spec Tryz.prog 72 [s] (fun w=>Rd w s (xs.map (N .u64))) [] (IsV (LV .u64 (D 4 (V xs%r)))):=by
 refine ad Tryz.func72 rfl rfl rfl fun w hr=>?_
 have hr:=RdC.mk0 hr
 have hrl:=ae 4 r
 have hv:=eU I0
 have hml:=ae 4 (V xs%r)
 have htk:(D 4 (V xs%r)).take 4=D 4 (V xs%r):=List.take_of_length_le (by omega)
 repeat (first|(refine sN ?_;intro _)|refine ah (by rfl) (by rfl) (by rfl) (Lm) (fun _ _=>trivial) (by rfl) ?_|(refine aw (by rfl) (by rfl) (by rfl) (xJ s _ xs (D 4 r) hx (dw _ _) hl (by omega)) .nil (fun w hw=>⟨RdW.old hr w hw,RdW.arrAll (m:=4) fd hrl w hw⟩) (by rfl) ?_;rintro _ _ (⟨hz,_,_⟩ | ⟨_,u,rfl,rfl⟩);exact absurd hz (by rw[hv];exact Nat.ne_of_gt CA);rw[hv,hrl])|rw[htk]|refine V3 ?_|refine Z82 fun _=>?_)
 refine Zec fun _ hw=>aa hw SubW.nil ⟨?_,rfl⟩
 rfl
theorem mI{a:Nat}(ha:a<W^4):Spec Tryz.prog 73 [LV .u64 (D 4 a)] ai [] (IsV (LV .u64 (D 4 (a%r)))):=by
 refine ad Tryz.func73 rfl rfl rfl fun w _=>?_
 have hl:=ae 4 a
 have hv:=eU ha
 have hml:=ae 4 (a%r)
 repeat (first|(refine sN ?_;intro _)|(refine ah (by rfl) (by rfl) (by rfl) (qM _ (D 4 a) (dw _ _) (by omega)) (RdW.arrAll (m:=4) fd hl) (by rfl) ?_;rw[hv])|refine Z03 ?_|refine Z04 ?_|refine Z05 ?_|refine Z06 ?_|refine Z07 ?_|refine Z08 ?_|refine Z09 ?_|refine Z10 ?_|refine Z11 ?_|refine Z12 ?_|refine Z13 ?_|refine Z14 ?_|refine Z29 ?_|refine Z30 ?_|refine Z31 ?_|refine Z32 ?_|refine Z62 ?_|refine Z63 ?_|refine Z81 fun _=>?_|refine Z82 fun _=>?_)
 refine Zec fun _ hw=>aa hw SubW.nil ⟨?_,rfl⟩
 rfl
theorem uV(s:Value)(bs:List Nat)(hb:Lt 256 bs)(hl:bs.length<1000000):
  Spec Tryz.prog 34 [s] (fun w=>Rd w s (bs.map (N .u8))) [] (IsV (LV .u64 (D 4 (bC bs%r)))):=by
 refine ad Tryz.func34 rfl rfl rfl fun w hr=>?_
 have hr:=RdC.mk0 hr
 have hv:=eU (kX hb)
 have hml:=ae 4 (bC bs%r)
 have hdl:=ae ((bs.length+7)/8) (bC bs)
 repeat (first|(refine sN ?_;intro _)|(refine aw (by rfl) (by rfl) (by rfl) (ie s bs hb (by omega)) .nil (RdW.old hr) (by rfl) ?_;rintro u _ rfl)|(refine ah (by rfl) (by rfl) (by rfl) (qM _ (D ((bs.length+7)/8) (bC bs)) (dw _ _) (by omega)) (RdW.own fd) (by rfl) ?_;rw[hv])|refine VX ?_|refine Z82 fun _=>?_)
 refine Zec fun _ hw=>aa hw SubW.nil ⟨?_,rfl⟩
 rfl
theorem V7{a b:Prop}(k:b)(h:Rm b→a:=by intro k;(first|refine Z03 ?_|refine Z04 ?_|refine Z05 ?_|refine Z06 ?_|refine Z07 ?_|refine Z08 ?_|refine Z09 ?_|refine Z10 ?_|refine Z11 ?_|refine Z12 ?_|refine Z13 ?_|refine Z14 ?_|refine Z24 ?_|refine Z26 ?_|refine Z27 ?_|refine Z29 ?_|refine Z30 ?_|refine Z31 ?_|refine Z32 ?_|refine Z62 ?_|refine Z63 ?_|refine Z66 ?_|refine Z67 ?_);exact k.h):a:=h ⟨k⟩
theorem wZ{a:Nat}(ha:a<W^4):Spec Tryz.prog 35 [LV .u64 (D 4 a)] ai [] (IsV (LV .u8 (bz (a%r) 32))):=by
 refine ad Tryz.func35 rfl rfl rfl fun w _=>?_
 have hla:=ae 4 a
 have hl1:=ae 4 (a%r)
 have hol:=aD (a%r) 32
 have hv:=eU (H6 a)
 have htk:(bz (a%r) 32).take 32=bz (a%r) 32:=List.take_of_length_le (by omega)
 repeat (first|(refine Bg ?_;intro _)|refine y_4 (mI ha) ?_|((refine aw (by rfl) (by rfl) (by rfl) (oS _ (D 4 (a%r)) 32 (dw _ _) (by omega) (by decide)) .nil (RdW.arrAll (m:=4) fd hl1) (by rfl) ?_;rintro u _ rfl);rw[hv])|rw[htk]|refine V7 ?_|refine Z81 fun _=>?_|refine Z82 fun _=>?_)
 refine Zec fun _ hw=>aa hw SubW.nil ⟨?_,rfl⟩
 rfl
theorem GS{a b:Nat}(ha:a<W^4)(hb:b<W^4):(D 4 a=D 4 b)=(a=b):=by
 refine propext ⟨fun h=>?_,fun h=>by rw[h]⟩
 have:=Bp h
 rwa [Nat.mod_eq_of_lt ha,Nat.mod_eq_of_lt hb]at this
theorem ND{a b:Prop}(k:b)(h:Rm b→a:=by intro k;(first|refine Z01 ?_|refine Z02 ?_|refine Z03 ?_|refine Z04 ?_|refine Z05 ?_|refine Z06 ?_|refine Z07 ?_|refine Z08 ?_|refine Z09 ?_|refine Z10 ?_|refine Z11 ?_|refine Z12 ?_|refine Z13 ?_|refine Z14 ?_|refine Z17 ?_|refine Z18 ?_|refine Z20 ?_|refine Z21 ?_|refine Z24 ?_|refine Z26 ?_|refine Z27 ?_|refine Z29 ?_|refine Z30 ?_|refine Z31 ?_|refine Z32 ?_|refine Z66 ?_|refine Z67 ?_|refine Z77 ?_|refine Z78 ?_|refine Z79 ?_);exact k.h):a:=h ⟨k⟩
theorem V8{a b:Prop}(k:b)(h:Rm b→a:=by intro k;(first|refine Z01 ?_|refine Z02 ?_|refine Z17 ?_|refine Z18 ?_|refine Z20 ?_|refine Z21 ?_|refine Z66 ?_|refine Z77 ?_|refine Z78 ?_|refine Z79 ?_);exact k.h):a:=h ⟨k⟩
theorem V9{a b:Prop}(k:b)(h:Rm b→a:=by intro k;refine R.Zpp (by rfl) (by intro _ _ _;(first|refine Z24 ?_|refine Z26 ?_|refine Z27 ?_|refine Z67 ?_|refine Z20 ?_|refine Z21 ?_|refine Z66 ?_);exact Zq) ?_;exact k.h):a:=h ⟨k⟩
theorem ag{S1 a b:Prop}(s1:S1)(k:b)(h:S1→Rm b→a:=by intro s1 k;refine R.Zpp (by rfl) (by intro _ _ _;refine ah (by rfl) (by rfl) (by rfl) s1 (fun _ _=>trivial) (by rfl) ?_;exact Zq) ?_;exact k.h):a:=h s1 ⟨k⟩
theorem Bj{a b:Prop}(k:b)(h:Rm b→a:=by intro k;refine R.Zpn (by rfl) (by intro _ _ _;(first|refine Z82 fun _=>?_);exact R.Zpx) ?_;exact k.h):a:=h ⟨k⟩
theorem aA{a b:Prop}(k:b)(h:Rm b→a:=by intro k;refine R.Zps (by rfl) (by intro _ _ _;(first|refine nK ?_);exact Zqq) ?_;exact k.h):a:=h ⟨k⟩
theorem uW(s:Value)(bs:List Nat)(hb:Lt 256 bs)(h:bs.length=32):
  Spec Tryz.prog 71 [s] (fun w=>Rd w s (bs.map (N .u8))) [] (IsV (if bC bs<r then .tuple #[LV .u64 (D 4 (bC bs)),N .i64 0]else .tuple #[LV .u64 (D 4 0),N .i64 61])):=by
 refine ad Tryz.func71 rfl rfl rfl fun w hr=>?_
 have hr:=RdC.mk0 hr
 have hdl:=ae 4 (bC bs)
 have hfit:=kX hb
 rw[h,show(32+7)/8=4 from rfl]at hfit
 have hdm:=ae 4 (bC bs%r)
 have htk:(D 4 (bC bs)).take 4=D 4 (bC bs):=List.take_of_length_le (by omega)
 repeat (first|(refine sN ?_;intro _)|refine y_5 ?_|((refine aw (by rfl) (by rfl) (by rfl) (ie s bs hb (by omega)) .nil (RdW.old hr) (by rfl) ?_;rintro u _ rfl);rw[h,show(32+7)/8=4 from rfl])|rw[htk]|refine ND ?_|refine Z82 fun _=>?_)
 refine R.af [0,1,2,3] (by rfl) ?_
 repeat (first|(refine R.Zpf (by rfl) (by intro _ _ _;(first|refine V8 ?_);exact Zq) ?_)|refine V9 ?_|refine ag (mI hfit) ?_|refine aA ?_|(refine Bj ?_;intro _))
 refine R.Zp0 ?_
 by_cases hlt:bC bs<r
 ·rw[if_pos hlt]
  have he:(!decide (D 4 (bC bs%r)=D 4 (bC bs)))=false:=by rw[Nat.mod_eq_of_lt hlt];simp
  repeat (first|rw[he]|refine ND ?_|refine Z82 fun _=>?_)
  refine aJ (by rfl) (by rfl) (by rfl) fd (by rfl) (by rfl) (by first | with_reducible assumption | (simp[*];done)) fun _ hw=>aa hw SubW.nil ⟨?_,rfl⟩
  rfl
 ·rw[if_neg hlt]
  have he:(!decide (D 4 (bC bs%r)=D 4 (bC bs)))=true:=by
   have:=Nat.mod_lt (bC bs) CA
   rw[decide_eq_false (by rw[GS (H6 _) hfit];omega)];rfl
  repeat (first|rw[he]|refine bn (kk:=.u64) (vs:=[]) (by rfl) (by rfl) (by rfl) (by rfl) (by rfl) (by rfl) (by rfl) (by rfl) ?_|refine Z01 ?_|refine Z02 ?_|refine Z03 ?_|refine Z04 ?_|refine Z05 ?_|refine Z06 ?_|refine Z07 ?_|refine Z08 ?_|refine Z09 ?_|refine Z10 ?_|refine Z11 ?_|refine Z12 ?_|refine Z13 ?_|refine Z14 ?_|refine Z17 ?_|refine Z18 ?_|refine Z20 ?_|refine Z21 ?_|refine Z24 ?_|refine Z26 ?_|refine Z27 ?_|refine Z29 ?_|refine Z30 ?_|refine Z31 ?_|refine Z32 ?_|refine Z66 ?_|refine Z67 ?_|refine Z77 ?_|refine Z78 ?_|refine Z79 ?_|refine Z82 fun _=>?_)
  refine aJ (by rfl) (by rfl) (by rfl) fd (by rfl) (by rfl) (by first | with_reducible assumption | (simp[*];done)) fun _ hw=>aa hw SubW.nil ⟨?_,rfl⟩
  rw[nP];rfl
end
section
attribute [local irreducible] Code.wp wpList Af bodyPost L.Go
open Num
attribute [local simp] ae
theorem Av{T x M A VP V' Pk w c c' mk:Nat}(h1:V'+A*Pk=VP+A*w)(h2:w+18446744073709551616*c'=Pk+x*mk+c)(h3:VP+A*c=T+x*(M%A)):
  V'+A*18446744073709551616*c'=T+x*(M%A+A*mk):=by
 have h4:A*(w+18446744073709551616*c')=A*(Pk+x*mk+c):=by rw[h2]
 rw[Nat.mul_add,Nat.mul_add,Nat.mul_add,Nat.mul_left_comm A x mk]at h4
 rw[Nat.mul_assoc,Nat.mul_add x]
 omega
theorem H8{P:List Nat}{c Z:Nat}(hl:P.length=8)(hP:Lt 18446744073709551616 P)(hV:V P+W^6*c=Z)(hZ:Z<W^8):
  (P.set 6 ((P.getD 6 0+c)%18446744073709551616)).set 7 ((P.getD 7 0+(P.getD 6 0+c)/18446744073709551616)%18446744073709551616)=D 8 Z:=by
 match P,hl with
 | [a0,a1,a2,a3,a4,a5,a6,a7],_=>
  have h6:=hP.getD (by decide) 6
  have h7:=hP.getD (by decide) 7
  simp only[List.getD_cons_succ,List.getD_cons_zero,List.set_cons_succ,List.set_cons_zero]at h6 h7 ⊢
  have e:V [a0,a1,a2,a3,a4,a5,a6,a7]=V [a0,a1,a2,a3,a4,a5]+W^6*(a6+W*a7):=by
   have:=ml [a0,a1,a2,a3,a4,a5] [a6,a7]
   simp only[List.cons_append,List.nil_append,List.length_cons,List.length_nil]at this
   rw[this,show V [a6,a7]=a6+W*a7 by rw[fq,dc,← fq,FT]]
  have hlo:Lt 18446744073709551616 [a0,a1,a2,a3,a4,a5]:=fun y hy=>hP y (by simp at hy;rcases hy with h | h | h | h | h | h <;> simp[h])
  have hW:W=18446744073709551616:=rfl
  have hs:a6+c+W*a7<W*W:=by
   have h8:W^8=W^6*(W*W):=by rw[show 8=6+2 from rfl,Nat.pow_add,Nat.pow_two]
   have h9:W^6*(a6+c+W*a7)<W^6*(W*W):=by
    rw[← h8]
    have:W^6*(a6+c+W*a7)=W^6*(a6+W*a7)+W^6*c:=by rw[← Nat.mul_add];congr 1;omega
    omega
   exact Nat.lt_of_mul_lt_mul_left h9
  have h7':a7+(a6+c)/18446744073709551616<18446744073709551616:=by
   rw[hW]at hs;omega
  rw[Nat.mod_eq_of_lt h7']
  refine uw (fun y hy=>?_) rfl ?_
  ·simp at hy
   rcases hy with rfl | rfl | rfl | rfl | rfl | rfl | rfl | rfl
   ·exact hP _ (by simp)
   ·exact hP _ (by simp)
   ·exact hP _ (by simp)
   ·exact hP _ (by simp)
   ·exact hP _ (by simp)
   ·exact hP _ (by simp)
   ·exact Nat.mod_lt _ (by decide)
   ·exact h7'
  ·have e2:V [a0,a1,a2,a3,a4,a5,(a6+c)%18446744073709551616,a7+(a6+c)/18446744073709551616]=V [a0,a1,a2,a3,a4,a5]+W^6*((a6+c)%18446744073709551616+W*(a7+(a6+c)/18446744073709551616)):=by
    have:=ml [a0,a1,a2,a3,a4,a5] [(a6+c)%18446744073709551616,a7+(a6+c)/18446744073709551616]
    simp only[List.cons_append,List.nil_append,List.length_cons,List.length_nil]at this
    rw[this,show V [(a6+c)%18446744073709551616,a7+(a6+c)/18446744073709551616]=(a6+c)%18446744073709551616+W*(a7+(a6+c)/18446744073709551616) by rw[fq,dc,← fq,FT]]
   rw[e2,← hV,e,Nat.add_assoc,← Nat.mul_add]
   congr 2
   rw[hW];omega
theorem FN(X:Nat)(h:X<W^8):(D 8 X).drop 1++[0]=D 8 (X/W):=by
 refine uw (fun y hy=>?_) (by simp) ?_
 ·rcases List.mem_append.1 hy with hy | hy
  ·exact dw _ _ y (List.mem_of_mem_drop hy)
  ·simp at hy;subst hy;decide
 ·rw[ml,P8 (dw _ _),FT,Nat.mul_zero,Nat.add_zero,eU h,Nat.pow_one]
theorem NE{a b:Prop}(k:b)(h:Rm b→a:=by intro k;(first|refine Z01 ?_|refine Z02 ?_|refine Z03 ?_|refine Z04 ?_|refine Z05 ?_|refine Z06 ?_|refine Z07 ?_|refine Z08 ?_|refine Z09 ?_|refine Z10 ?_|refine Z11 ?_|refine Z12 ?_|refine Z13 ?_|refine Z14 ?_|refine Z15 ?_|refine Z16 ?_|refine Z17 ?_|refine Z18 ?_|refine Z19 ?_|refine Z22 ?_|refine Z23 ?_|refine Z24 ?_|refine Z26 ?_|refine Z27 ?_|refine Z29 ?_|refine Z30 ?_|refine Z31 ?_|refine Z32 ?_|refine Z33 ?_|refine Z46 ?_|refine Z62 ?_|refine Z63 ?_|refine Z67 ?_|refine Z71 ?_|refine Z75 ?_|refine Z76 ?_);exact k.h):a:=h ⟨k⟩
theorem Xn{a b:Prop}(k:b)(h:Rm b→a:=by intro k;(first|refine Z01 ?_|refine Z02 ?_|refine Z15 ?_|refine Z16 ?_|refine Z17 ?_|refine Z18 ?_|refine Z19 ?_|refine Z22 ?_|refine Z23 ?_|refine Z33 ?_|refine Z46 ?_|refine Z62 ?_|refine Z63 ?_|refine Z71 ?_);exact k.h):a:=h ⟨k⟩
theorem VK{a b:Prop}(k:b)(h:Rm b→a:=by intro k;refine Zqf (by intro _ _ _;(first|refine Xn ?_);exact Zq) ?_;exact k.h):a:=h ⟨k⟩
theorem KI{a b:Prop}(k:b)(h:Rm b→a:=by intro k;(first|refine VK ?_|refine Ko ?_|refine ga ?_|refine Kp ?_|refine Zqn ?_);exact k.h):a:=h ⟨k⟩
set_option maxHeartbeats 4000000 in
theorem rA(x T M sh bt bm:Nat)(hx:x<18446744073709551616)(hM:M<W^6)(hT:T+x*M<W^8)(hs:sh≤1):
  Spec Tryz.prog 130 [N .u64 x,pt bm 0,N .i64 sh,pt bt 0] ai [.blk bt (LV .u64 (D 8 T)) 167,.blk bm (LV .u64 (D 6 M)) 32]
   (fun v Wr=>v = .tuple #[]∧Wr=[.blk bt (LV .u64 (D 8 ((T+x*M)/W^sh))) 167,.blk bm (LV .u64 (D 6 M)) 32]):=by
 refine ad Tryz.func130 rfl rfl rfl fun w _=>?_
 have hlm:=ae 6 M
 have hTW:T<W^8:=by omega
 repeat (first|refine NE ?_)
 refine ay (ι:=Nat×List Nat×Nat) (fun q=>q.1≤6∧q.2.1.length=8∧Lt 18446744073709551616 q.2.1∧q.2.2<18446744073709551616∧V q.2.1+W^q.1*q.2.2=T+x*(M%W^q.1))
  (fun q=>[(0,N .u64 x),(2,N .i64 sh),(3,pt bt 0),(7,N .u64 q.2.2),(14,pt bm 0),(15,N .i64 q.1)])
  (fun q=>[.blk bt (LV .u64 q.2.1) 167,.blk bm (LV .u64 (D 6 M)) 32]) (fun q=>6-q.1) (0,D 8 T,0) ⟨by simp,ae _ _,dw _ _,by simp,by simp only[Nat.pow_zero,Nat.mod_one,Nat.mul_zero,Nat.add_zero];exact eU hTW⟩ sbq sw ?_
 rintro⟨k,P,c⟩ ⟨hk,hPl,hPb,hc,hP⟩
 simp only at hk hPl hPb hc hP ⊢
 by_cases hk':k<6
 ·have hyk:=(dw 6 M).getD (by decide) k
  have hyv:=mg hM k
  have hpb:=hPb.getD (by decide) k
  obtain⟨hw1,hw2⟩:=If hpb hc (og hx hyk)
  repeat (first|refine y_8 ?_|refine Z01 ?_|refine Z02 ?_|refine Z03 ?_|refine Z04 ?_|refine Z05 ?_|refine Z06 ?_|refine Z07 ?_|refine Z08 ?_|refine Z09 ?_|refine Z10 ?_|refine Z11 ?_|refine Z12 ?_|refine Z13 ?_|refine Z14 ?_|refine Z15 ?_|refine Z16 ?_|refine Z17 ?_|refine Z18 ?_|refine Z19 ?_|refine Z22 ?_|refine Z23 ?_|refine Z24 ?_|refine Z26 ?_|refine Z27 ?_|refine Z29 ?_|refine Z30 ?_|refine Z31 ?_|refine Z32 ?_|refine Z33 ?_|refine Z46 ?_|refine Z62 ?_|refine Z63 ?_|refine Z67 ?_|refine Z71 ?_|refine Z75 ?_|refine Z76 ?_)
  refine au (by rfl) ?_
  repeat (first|refine KI ?_)
  refine Zq0 ?_ (by kernel_rfl)
  repeat (first|refine y_4 (ri x ((D 6 M).getD k 0) hx hyk) ?_|refine Td ?_|refine Z01 ?_|refine Z02 ?_|refine Z03 ?_|refine Z04 ?_|refine Z05 ?_|refine Z06 ?_|refine Z07 ?_|refine Z08 ?_|refine Z09 ?_|refine Z10 ?_|refine Z11 ?_|refine Z12 ?_|refine Z13 ?_|refine Z14 ?_|refine Z15 ?_|refine Z16 ?_|refine Z17 ?_|refine Z18 ?_|refine Z19 ?_|refine Z22 ?_|refine Z23 ?_|refine Z24 ?_|refine Z26 ?_|refine Z27 ?_|refine Z29 ?_|refine Z30 ?_|refine Z31 ?_|refine Z32 ?_|refine Z33 ?_|refine Z46 ?_|refine Z62 ?_|refine Z63 ?_|refine Z67 ?_|refine Z71 ?_|refine Z75 ?_|refine Z76 ?_)
  refine ao (k+1,P.set k _,_) ⟨by simp only;omega,by simp only[List.length_set];exact hPl,hPb.set (Nat.mod_lt _ (by decide)) _,hw2,?_⟩ (by simp only;omega) sbq sw
  simp only
  have hvs:=NM hPb k ((P.getD k 0+(x*(D 6 M).getD k 0%18446744073709551616+c)%18446744073709551616)%18446744073709551616) (by omega)
  rw[cX,← hyv,Nat.pow_succ]
  exact Av hvs hw1 hP
 ·have hke:k=6:=by omega
  subst hke
  rw[Nat.mod_eq_of_lt hM]at hP
  have htop:=H8 hPl hPb hP hT
  have hg7:(P.set 6 ((P.getD 6 0+c)%18446744073709551616)).getD 7 0=P.getD 7 0:=by
   rw[List.getD_eq_getElem?_getD,List.getElem?_set_ne (by decide),← List.getD_eq_getElem?_getD]
  have hl8:=ae 8 (T+x*M)
  repeat (first|refine y_5 ?_|refine Td ?_|rw[hg7]|rw[htop]|refine NE ?_)
  obtain⟨Z,hZ⟩:∃Z,Z=T+x*M:=⟨_,rfl⟩
  rw[← hZ]at hl8 hT ⊢
  have h01:sh=0∨sh=1:=by omega
  rcases h01 with rfl | rfl
  ·have e1:List.take 0 (D 8 Z)++List.take (8-0) (List.drop 0 (List.take 8 (D 8 Z)))++List.drop (0+min (List.drop 0 (List.take 8 (D 8 Z))).length (8-0)) (D 8 Z)=D 8 Z:=by
    simp[hl8,List.take_of_length_le]
   have e2:List.take 8 (D 8 Z)++List.replicate (8-8) 0++List.drop 8 (D 8 Z)=D 8 Z:=by
    simp[hl8,List.take_of_length_le]
   refine au (by rfl) ?_
   repeat (first|refine KI ?_)
   refine Zq0 ?_ (by kernel_rfl)
   rw[e1]
   repeat (first|refine yo (by rfl) fd (by rfl) (by rfl) hl8 (by omega) (by omega) ?_|rw[e2]|refine NE ?_)
   refine gB (by rfl) fun _ hw=>aa hw (Wout:=[.blk bt (LV .u64 (D 8 Z)) 167,.blk bm (LV .u64 (D 6 M)) 32]) (by exact sw) ⟨rfl,by rw[Nat.pow_zero,Nat.div_one]⟩
  ·have hsh:=FN Z hT
   have a1:(D 8 Z).take 8=D 8 Z:=List.take_of_length_le (by omega)
   have a2:((D 8 Z).drop 1).length=7:=by rw[List.length_drop,hl8]
   have e1:List.take 0 (D 8 Z)++List.take (8-0) (List.drop 1 (List.take 8 (D 8 Z)))++List.drop (0+min (List.drop 1 (List.take 8 (D 8 Z))).length (8-0)) (D 8 Z)=(D 8 Z).drop 1++(D 8 Z).drop 7:=by
    rw[a1,List.take_of_length_le (l:=(D 8 Z).drop 1) (by omega),a2];rfl
   have hl9:((D 8 Z).drop 1++(D 8 Z).drop 7).length=8:=by rw[List.length_append,a2,List.length_drop,hl8]
   have e2:List.take 7 ((D 8 Z).drop 1++(D 8 Z).drop 7)++List.replicate (8-7) 0++List.drop 8 ((D 8 Z).drop 1++(D 8 Z).drop 7)=D 8 (Z/W):=by
    rw[List.take_left' a2,List.drop_eq_nil_of_le (Nat.le_of_eq hl9),List.append_nil,← hsh];rfl
   refine au (by rfl) ?_
   repeat (first|refine KI ?_)
   refine Zq0 ?_ (by kernel_rfl)
   rw[e1]
   repeat (first|refine yo (by rfl) fd (by rfl) (by rfl) hl9 (by omega) (by omega) ?_|rw[e2]|refine NE ?_)
   refine gB (by rfl) fun _ hw=>aa hw (Wout:=[.blk bt (LV .u64 (D 8 (Z/W))) 167,.blk bm (LV .u64 (D 6 M)) 32]) (by exact sw) ⟨rfl,by rw[Nat.pow_one]⟩
def Ri:Nat:=3231460744492646417066832100176244795738767926513225105051837195607029917124509527734802654356338138714468589979680
theorem KZ:W^6*Ri%p=1:=by decide +kernel
theorem L1:9940570264628428797*p%18446744073709551616=18446744073709551615:=by decide +kernel
theorem Su:([17644856173732828998,754043588434789617,10224657059481499349,7488229067341005760,11130996698012816685,1267921511277847466]:List Nat)=D 6 (W^12%p):=by decide +kernel
attribute [irreducible] Ri
def f5(a b:Nat):Nat:=a*b*Ri%p
theorem MG(a b:Nat):f5 a b<p:=Nat.mod_lt _ bY
theorem MH{T a b:Nat}(h:T*W^6%p=a*b%p):T%p=f5 a b:=by
 unfold f5
 rw[Nat.mul_mod,← h,← Nat.mul_mod,Nat.mul_assoc,Nat.mul_mod,KZ,Nat.mul_one,Nat.mod_mod]
theorem F0(u:Nat):(u+u*18446744073709551615%18446744073709551616)%18446744073709551616=0:=by
 have e3:u+u*18446744073709551615=u*18446744073709551616:=by omega
 have e4:=Nat.add_mod_mod u (u*18446744073709551615) 18446744073709551616
 rw[e3]at e4
 exact e4.trans (Nat.mul_mod_left _ _)
theorem ER(T:Nat):(T+T%18446744073709551616*9940570264628428797%18446744073709551616*p)%18446744073709551616=0:=by
 have h:=L1
 have e:T%18446744073709551616*9940570264628428797%18446744073709551616*p%18446744073709551616=T%18446744073709551616*18446744073709551615%18446744073709551616:=by
  rw[Nat.mod_mul_mod,Nat.mul_assoc,Nat.mul_mod,h,Nat.mod_mod]
 rw[Nat.add_mod,e]
 exact F0 _
theorem I6{T x b a i:Nat}(hT:T<2*p)(hx:x<18446744073709551616)(hb:b<p)(h:T*W^i%p=a%W^i*b%p)(hxa:x=a/W^i%W)(m:Nat)(hm:m=(T+x*b)%18446744073709551616*9940570264628428797%18446744073709551616):
  (T+x*b+m*p)/W<2*p∧(T+x*b+m*p)/W*W^(i+1)%p=a%W^(i+1)*b%p:=by
 have hm1:m<18446744073709551616:=by rw[hm];exact Nat.mod_lt _ (by decide)
 have hd:W∣T+x*b+m*p:=by rw[hm];exact Nat.dvd_of_mod_eq_zero (ER _)
 have h1:x*b≤18446744073709551615*p:=Nat.mul_le_mul (by omega) (Nat.le_of_lt hb)
 have h2:m*p≤18446744073709551615*p:=Nat.mul_le_mul (by omega) (Nat.le_refl _)
 constructor
 ·refine Nat.div_lt_of_lt_mul ?_
  rw[show W=18446744073709551616 from rfl]
  omega
 ·have e:(T+x*b+m*p)/W*W^(i+1)=(T+x*b+m*p)*W^i:=by
   rw[Nat.pow_succ,Nat.mul_comm (W^i) W,← Nat.mul_assoc,Nat.div_mul_cancel hd]
  rw[e,Nat.add_mul,Nat.mul_right_comm m p,Nat.add_mul_mod_self_right,Nat.add_mul,Nat.add_mod,h,← Nat.add_mod,cX,← hxa,Nat.add_mul]
  congr 2
  rw[Nat.mul_right_comm,Nat.mul_comm x]
theorem xZ:Spec Tryz.prog 102 [] ai [] (IsV (LV .u64 (D 6 (W^12%p)))):=by
 refine ad Tryz.func102 rfl rfl rfl fun w _=>?_
 repeat (first|(refine cJ ?_;intro _)|refine bn (kk:=.u64) (vs:=[17644856173732828998,754043588434789617,10224657059481499349,7488229067341005760,11130996698012816685,1267921511277847466]) (by rfl) (by rfl) (by rfl) (by rfl) (by rfl) (by rfl) (by rfl) (by rfl) ?_|refine Z03 ?_|refine Z04 ?_|refine Z05 ?_|refine Z06 ?_|refine Z07 ?_|refine Z08 ?_|refine Z09 ?_|refine Z10 ?_|refine Z11 ?_|refine Z12 ?_|refine Z13 ?_|refine Z14 ?_|refine Z29 ?_|refine Z30 ?_|refine Z31 ?_|refine Z32 ?_|refine Z82 fun _=>?_)
 refine Zec fun _ hw=>aa hw SubW.nil ⟨?_,rfl⟩
 rw[← Su];rfl
theorem Wa{a b:Prop}(k:b)(h:Rm b→a:=by intro k;(first|refine Z01 ?_|refine Z02 ?_|refine Z03 ?_|refine Z04 ?_|refine Z05 ?_|refine Z06 ?_|refine Z07 ?_|refine Z08 ?_|refine Z09 ?_|refine Z10 ?_|refine Z11 ?_|refine Z12 ?_|refine Z13 ?_|refine Z14 ?_|refine Z15 ?_|refine Z17 ?_|refine Z18 ?_|refine Z22 ?_|refine Z23 ?_|refine Z24 ?_|refine Z26 ?_|refine Z27 ?_|refine Z29 ?_|refine Z30 ?_|refine Z31 ?_|refine Z32 ?_|refine Z35 ?_|refine Z48 ?_|refine Z57 ?_|refine Z62 ?_|refine Z63 ?_|refine Z66 ?_|refine Z67 ?_);exact k.h):a:=h ⟨k⟩
set_option maxHeartbeats 4000000 in
theorem ej{a b:Nat}(ha:a<W^6)(hb:b<p):Spec Tryz.prog 101 [LV .u64 (D 6 a),LV .u64 (D 6 b)] ai [] (IsV (LV .u64 (D 6 (f5 a b)))):=by
 refine ad Tryz.func101 rfl rfl rfl fun w _=>?_
 have hla:=ae 6 a
 have hlb:=ae 6 b
 have hlp:=ae 6 p
 have hpl:=lQ
 have hp2:=Ot
 repeat (first|(refine cJ ?_;intro _)|refine aq (v:=LV .u64 (List.replicate 8 0)) (by rfl) (by rfl) fun _=>?_|refine KM ?_|refine Z01 ?_|refine Z02 ?_|refine Z03 ?_|refine Z04 ?_|refine Z05 ?_|refine Z06 ?_|refine Z07 ?_|refine Z08 ?_|refine Z09 ?_|refine Z10 ?_|refine Z11 ?_|refine Z12 ?_|refine Z13 ?_|refine Z14 ?_|refine Z15 ?_|refine Z17 ?_|refine Z18 ?_|refine Z22 ?_|refine Z23 ?_|refine Z24 ?_|refine Z26 ?_|refine Z27 ?_|refine Z29 ?_|refine Z30 ?_|refine Z31 ?_|refine Z32 ?_|refine Z35 ?_|refine Z48 ?_|refine Z57 ?_|refine Z62 ?_|refine Z63 ?_|refine Z66 ?_|refine Z67 ?_|refine Z81 fun _=>?_|refine Z82 fun _=>?_)
 rename_i b2 b3 b4 b5 b6
 rw[show List.replicate 8 0=D 8 0 from(nP 8).symm]
 refine ay (ι:=Nat×Nat) (fun q=>q.1≤6∧q.2<2*p∧q.2*W^q.1%p=a%W^q.1*b%p)
  (fun q=>[(3,pt b3 0),(4,pt b4 0),(5,pt b5 0),(6,pt b6 0),(7,.func (.func 130) #[] #[pt b6 0]),(12,LV .u64 (D 6 a)),(13,N .i64 q.1)])
  (fun q=>[.blk b6 (LV .u64 (D 8 q.2)) 167,.blk b5 (LV .u64 (D 6 p)) 32,.blk b3 (LV .u64 (D 6 b)) 32,.blk b4 (LV .u64 (List.replicate 6 0)) 32]) (fun q=>6-q.1) (0,0) ⟨by simp,by have:=bY;simp only;omega,by simp[Nat.mod_one]⟩ sbq sw ?_
 rintro⟨i,T⟩ ⟨hi,hT,hq⟩
 simp only at hi hT hq ⊢
 have hT8:T<W^8:=Nat.lt_trans (Nat.lt_of_lt_of_le hT (by omega)) (Nat.lt_of_lt_of_le hp2 (K1 (by decide)))
 by_cases h:i<6
 ·have hxi:=(dw 6 a).getD (by decide) i
  have hxv:=mg ha i
  generalize hx:(D 6 a).getD i 0=x at hxi hxv
  obtain⟨r1,r2⟩:=I6 hT hxi hb hq hxv _ rfl
  have hW8:W^8=18446744073709551616*18446744073709551616*W^6:=by decide
  have h1:x*b≤18446744073709551615*p:=Nat.mul_le_mul (by omega) (Nat.le_of_lt hb)
  have t1:T+x*b<W^8:=by omega
  have hm1:(T+x*b)%18446744073709551616*9940570264628428797%18446744073709551616<18446744073709551616:=Nat.mod_lt _ (by decide)
  generalize hm:(T+x*b)%18446744073709551616*9940570264628428797%18446744073709551616=m at r1 r2 hm1
  have h2:m*p≤18446744073709551615*p:=Nat.mul_le_mul (by omega) (Nat.le_refl _)
  have t2:T+x*b+m*p<W^8:=by omega
  have hg:(D 8 (T+x*b)).getD 0 0=(T+x*b)%18446744073709551616:=by rw[mg t1,Nat.pow_zero,Nat.div_one];rfl
  have hl8:=ae 8 (T+x*b)
  repeat (first|refine y_8 ?_|rw[hx]|(refine aw (by rfl) (by rfl) (by rfl) (rA x T b 0 b6 b3 hxi (Nat.lt_trans hb hpl) t1 (by decide)) (.cons fd (.cons fd .nil)) (fun _ _=>trivial) (by rfl) ?_;rintro _ _ ⟨rfl,rfl⟩;rw[Nat.pow_zero,Nat.div_one])|rw[hg]|rw[hm]|(refine aw (by rfl) (by rfl) (by rfl) (rA m (T+x*b) p 1 b6 b5 hm1 hpl t2 (by decide)) (.cons fd (.cons fd .nil)) (fun _ _=>trivial) (by rfl) ?_;rintro _ _ ⟨rfl,rfl⟩;rw[Nat.pow_one])|refine Wa ?_|refine Z81 fun _=>?_|refine Z82 fun _=>?_)
  exact ao (i+1,(T+x*b+m*p)/W) ⟨by simp only;omega,r1,r2⟩ (by simp only;omega) sbq sw
 ·have hie:i=6:=by omega
  subst hie
  rw[Nat.mod_eq_of_lt ha]at hq
  have hv:=MH hq
  have hT6:T<W^6:=by omega
  have hl8:=ae 8 T
  have hg6:(D 8 T).getD 6 0=0:=by rw[mg hT8,Nat.div_eq_of_lt hT6,Nat.zero_mod]
  have htk:List.take 6 (List.drop 0 (List.take 6 (D 8 T)))=D 6 T:=by
   rw[List.drop_zero,List.take_take,Nat.min_self,show(8:Nat)=6+2 from rfl,Tu,List.take_left' (ae 6 T)]
  have hlv:i5 6 p T 0=f5 a b:=by
   rw[← hv];unfold i5
   rw[Nat.zero_mul,Nat.add_zero]
   by_cases hlt:T<p
   ·rw[if_pos hlt,Nat.mod_eq_of_lt hlt]
   ·rw[if_neg hlt,Nat.mod_eq_sub_mod (by omega),Nat.mod_eq_of_lt (by omega)]
  have hlr:=ae 6 (f5 a b)
  repeat (first|refine y_5 ?_|refine Z01 ?_|refine Z02 ?_|refine Z03 ?_|refine Z04 ?_|refine Z05 ?_|refine Z06 ?_|refine Z07 ?_|refine Z08 ?_|refine Z09 ?_|refine Z10 ?_|refine Z11 ?_|refine Z12 ?_|refine Z13 ?_|refine Z14 ?_|refine Z15 ?_|refine Z17 ?_|refine Z18 ?_|refine Z22 ?_|refine Z23 ?_|refine Z24 ?_|refine Z26 ?_|refine Z27 ?_|refine Z29 ?_|refine Z30 ?_|refine Z31 ?_|refine Z32 ?_|refine Z35 ?_|refine Z48 ?_|refine Z57 ?_|refine Z62 ?_|refine Z63 ?_|refine Z66 ?_|refine Z67 ?_|refine Z81 fun _=>?_|refine Z82 fun _=>?_)
  refine au (by rfl) ?_
  repeat (first|(refine Zqf (by intro _ _ _;(first|refine Z01 ?_|refine Z02 ?_|refine Z15 ?_|refine Z17 ?_|refine Z18 ?_|refine Z22 ?_|refine Z23 ?_|refine Z35 ?_|refine Z48 ?_|refine Z57 ?_|refine Z62 ?_|refine Z63 ?_|refine Z66 ?_);exact Zq) ?_)|(refine Zqp (by intro _ _ _;(refine lw (ys:=List.drop 0 (List.take 6 (D 8 T))) (by rfl) (by rfl) (by rfl) (RdW.arrN fd (by omega) (by omega) hl8) (by rw[List.drop_zero,List.length_take];omega) (by decide) (by rfl) ?_;rw[htk]);exact Zq) ?_)|(refine Zqp (by intro _ _ _;(refine t5 (by rfl) fd (by omega) (by rfl) (by rfl) ?_;rw[hg6]);exact Zq) ?_)|(refine Zqp (by intro _ _ _;(refine ah (by rfl) (by rfl) (by rfl) (gT hT6 (Nat.zero_le 1)) (fun _ _=>trivial) (by rfl) ?_;rw[hlv]);exact Zq) ?_)|(refine Zqp (by intro _ _ _;(first|refine Z24 ?_|refine Z26 ?_|refine Z27 ?_|refine Z67 ?_|refine Z23 ?_|refine Z62 ?_|refine Z66 ?_);exact Zq) ?_)|refine ga ?_|refine Zqn ?_)
  refine Zq0 ?_ (by kernel_rfl)
  repeat (first|refine Wa ?_|refine Z81 fun _=>?_|refine Z82 fun _=>?_)
  refine Zec fun _ hw=>aa hw SubW.nil ⟨?_,rfl⟩
  rfl
theorem Wh:Ri*(W^12%p)*Ri%p=1:=by decide +kernel
theorem Wj:(W^12%p)*Ri%p=W^6%p:=by decide +kernel
theorem rE(a b:Nat):f5 (a%p) (b%p)=f5 a b:=by
 unfold f5
 rw[Nat.mul_mod (a%p*(b%p)),← Nat.mul_mod a b,← Nat.mul_mod]
theorem AO(a b:Nat):f5 (a%p) b=f5 a b:=by
 unfold f5
 rw[Nat.mul_assoc,Nat.mod_mul_mod,← Nat.mul_assoc]
theorem I5(a b:Nat):f5 (f5 a b) (W^12%p)=a*b%p:=by
 show f5 (a*b*Ri%p) (W^12%p)=_
 rw[AO]
 unfold f5
 have e:a*b*Ri*(W^12%p)*Ri=a*b*(Ri*(W^12%p)*Ri):=by
  generalize W^12%p=s
  simp only[Nat.mul_assoc]
 rw[e,Nat.mul_mod,Wh,Nat.mul_one,Nat.mod_mod]
theorem MI(a b:Nat):f5 a b<W^6:=Nat.lt_trans (MG a b) lQ
theorem Jj:W^12%p<p:=Nat.mod_lt _ bY
theorem bV{a b:Prop}(k:b)(h:Rm b→a:=by intro k;(first|refine Z03 ?_|refine Z04 ?_|refine Z05 ?_|refine Z06 ?_|refine Z07 ?_|refine Z08 ?_|refine Z09 ?_|refine Z10 ?_|refine Z11 ?_|refine Z12 ?_|refine Z13 ?_|refine Z14 ?_|refine Z24 ?_|refine Z26 ?_|refine Z27 ?_|refine Z29 ?_|refine Z30 ?_|refine Z31 ?_|refine Z32 ?_|refine Z67 ?_);exact k.h):a:=h ⟨k⟩
theorem fu{a b:Prop}(k:b)(h:Rm b→a:=by intro k;(first|refine sv ?_|refine ga ?_|refine Zqn ?_);exact k.h):a:=h ⟨k⟩
theorem EB{a b:Nat}(ha:a<W^6)(hb:b<W^6):Spec Tryz.prog 50 [LV .u64 (D 6 a),LV .u64 (D 6 b)] ai [] (IsV (LV .u64 (D 6 (a*b%p)))):=by
 refine ad Tryz.func50 rfl rfl rfl fun w _=>?_
 have hl0:=fun x=>ae 6 x
 have e1:=rE a b
 have e2:=I5 a b
 repeat (first|(refine cJ ?_;intro _)|refine bV ?_|refine Z81 fun _=>?_|refine Z82 fun _=>?_)
 refine au (by rfl) ?_
 repeat (first|(refine Zqf (by intro _ _ _;(first|contradiction);exact Zq) ?_)|refine bT (bS ha) ?_|refine bT (bS hb) ?_|(refine Zqp (by intro _ _ _;(refine ah (by rfl) (by rfl) (by rfl) (ej (oO a) (Nat.mod_lt b bY)) (fun _ _=>trivial) (by rfl) ?_;rw[e1]);exact Zq) ?_)|(refine Zqp (by intro _ _ _;refine ah (by rfl) (by rfl) (by rfl) (xZ) (fun _ _=>trivial) (by rfl) ?_;exact Zq) ?_)|(refine Zqp (by intro _ _ _;(refine ah (by rfl) (by rfl) (by rfl) (ej (MI a b) Jj) (fun _ _=>trivial) (by rfl) ?_;rw[e2]);exact Zq) ?_)|refine fu ?_)
 refine Zq0 ?_ (by kernel_rfl)
 repeat (first|refine bV ?_|refine Z81 fun _=>?_|refine Z82 fun _=>?_)
 refine Zec fun _ hw=>aa hw SubW.nil ⟨?_,rfl⟩
 rfl
set_option maxHeartbeats 2000000 in
theorem tI{a:Nat}(ha:a<W^6):Spec Tryz.prog 52 [LV .u64 (D 6 a)] ai [] (IsV (LV .u64 (D 6 ((p-a%p)%p)))):=by
 refine ad Tryz.func52 rfl rfl rfl fun w _=>?_
 have hl0:=fun x=>ae 6 x
 have hA:=Nat.mod_lt a bY
 have hlp:=hl0 p
 repeat (first|(refine cJ ?_;intro _)|refine y_4 (bS ha) ?_|refine Pi ?_|refine Z81 fun _=>?_|refine Z82 fun _=>?_)
 generalize a%p=A at *
 have hpl:=lQ
 have hAl:A<W^6:=by omega
 have hla:=hl0 A
 rename_i b1 b2 b3
 refine ay (ι:=Nat) (fun i=>i≤6) (fun i=>[(1,pt b1 0),(2,pt b2 0),(3,pt b3 0),(4,N .u64 (cp gk (D 6 p) (D 6 A) i).2),(9,N .i64 i)])
  (fun i=>[.blk b3 (LV .u64 ((cp gk (D 6 p) (D 6 A) i).1++(D 6 p).drop i)) 32,.blk b1 (LV .u64 (D 6 A)) 32,.blk b2 (LV .u64 (List.replicate 6 0)) 32]) (fun i=>6-i) 0 (by omega) (by rw[iK];exact sbq) (by rw[iK];exact sw) ?_
 intro i hi
 have hc1:=jo 6 p A i
 have hl:=gP gk (D 6 p) (D 6 A) i
 have hol:((cp gk (D 6 p) (D 6 A) i).1++(D 6 p).drop i).length=6:=by simp;omega
 have hdg:=jZ (xs:=D 6 p) hl
 by_cases h:i<6
 ·repeat (first|refine Dp ?_|refine Z81 fun _=>?_|refine Z82 fun _=>?_)
  refine au (by rfl) ?_
  repeat (first|(refine Zqf (by intro _ _ _;(first|refine g7 (by rfl) (by rfl) (by rfl) (wh _ _ _ hc1) (by rfl) ?_|refine KP ?_);exact Zq) ?_)|refine ut ?_)
  refine Zq0 ?_ (by kernel_rfl)
  rw[hdg,← rZ,← r4,← gQ,kG gk (D 6 p) (D 6 A) i (by omega)]
  repeat (first|refine sy ?_|refine Z81 fun _=>?_|refine Z82 fun _=>?_)
  exact ao (i+1) (by omega) (by omega) sbq sw
 ·have hie:i=6:=by omega
  subst hie
  have hdr:(D 6 p).drop 6=[]:=List.drop_eq_nil_of_le (by omega)
  rw[nQ hpl hAl,hdr,List.append_nil,FO (Nat.le_of_lt hA)]at *
  simp only at *
  have hv:i5 6 p (p-A) 0=(p-A)%p:=by
   unfold i5
   rw[Nat.zero_mul,Nat.add_zero]
   rcases Nat.eq_zero_or_pos A with h0 | h0
   ·subst h0;rw[Nat.sub_zero,if_neg (by omega),Nat.sub_self,Nat.mod_self]
   ·rw[if_pos (by omega),Nat.mod_eq_of_lt (by omega)]
  have hl3:=hl0 ((p-A)%p)
  repeat (first|refine y_5 ?_|(refine ah (by rfl) (by rfl) (by rfl) (gT (a:=p-A) (by omega) (Nat.zero_le 1)) (fun _ _=>trivial) (by rfl) ?_;rw[hv])|refine sy ?_|refine Z81 fun _=>?_|refine Z82 fun _=>?_)
  refine Zec fun _ hw=>aa hw SubW.nil ⟨?_,rfl⟩
  rfl
theorem om{a b:Nat}(ha:a<W^6)(hb:b<W^6):Spec Tryz.prog 113 [LV .u64 (D 6 a),LV .u64 (D 6 b)] ai [] (IsV (LV .u64 (D 6 ((a+(p-b%p)%p)%p)))):=by
 refine ad Tryz.func113 rfl rfl rfl fun w _=>?_
 have hl0:=fun x=>ae 6 x
 repeat (first|(refine cJ ?_;intro _)|refine bV ?_|refine Z81 fun _=>?_|refine Z82 fun _=>?_)
 refine au (by rfl) ?_
 repeat (first|(refine Zqf (by intro _ _ _;(first|contradiction);exact Zq) ?_)|refine bT (tI hb) ?_|refine bT (tF ha (oO (p-b%p))) ?_|refine fu ?_)
 refine Zq0 ?_ (by kernel_rfl)
 repeat (first|refine bV ?_|refine Z81 fun _=>?_|refine Z82 fun _=>?_)
 refine Zec fun _ hw=>aa hw SubW.nil ⟨?_,rfl⟩
 rfl
set_option maxHeartbeats 2000000 in
theorem mP{a b:Nat}(ha:a<W^6)(hb:b≤a):Spec Tryz.prog 133 [LV .u64 (D 6 a),LV .u64 (D 6 b)] ai [] (IsV (LV .u64 (D 6 (a-b)))):=by
 refine ad Tryz.func133 rfl rfl rfl fun w _=>?_
 have hl0:=fun x=>ae 6 x
 have hla:=hl0 a
 repeat (first|(refine cJ ?_;intro _)|refine sy ?_|refine Z81 fun _=>?_|refine Z82 fun _=>?_)
 rename_i b2 b3 b4
 refine ay (ι:=Nat) (fun i=>i≤6) (fun i=>[(2,pt b2 0),(3,pt b3 0),(4,pt b4 0),(5,N .u64 (cp gk (D 6 a) (D 6 b) i).2),(7,N .i64 i)])
  (fun i=>[.blk b2 (LV .u64 ((cp gk (D 6 a) (D 6 b) i).1++(D 6 a).drop i)) 32,.blk b3 (LV .u64 (D 6 b)) 32,.blk b4 (LV .u64 (List.replicate 6 0)) 32]) (fun i=>6-i) 0 (by omega) (by rw[iK];exact sbq) (by rw[iK];exact sw) ?_
 intro i hi
 have hc1:=jo 6 a b i
 have hl:=gP gk (D 6 a) (D 6 b) i
 have hol:((cp gk (D 6 a) (D 6 b) i).1++(D 6 a).drop i).length=6:=by simp;omega
 have hdg:=jZ (xs:=D 6 a) hl
 by_cases h:i<6
 ·repeat (first|refine Dp ?_|refine Z81 fun _=>?_|refine Z82 fun _=>?_)
  refine au (by rfl) ?_
  repeat (first|(refine Zqf (by intro _ _ _;(first|refine g7 (by rfl) (by rfl) (by rfl) (wh _ _ _ hc1) (by rfl) ?_|refine KP ?_);exact Zq) ?_)|refine ut ?_)
  refine Zq0 ?_ (by kernel_rfl)
  rw[hdg,← rZ,← r4,← gQ,kG gk (D 6 a) (D 6 b) i (by omega)]
  repeat (first|refine sy ?_|refine Z81 fun _=>?_|refine Z82 fun _=>?_)
  exact ao (i+1) (by omega) (by omega) sbq sw
 ·have hie:i=6:=by omega
  subst hie
  have hdr:(D 6 a).drop 6=[]:=List.drop_eq_nil_of_le (by omega)
  rw[nQ ha (Nat.lt_of_le_of_lt hb ha),hdr,List.append_nil,FO hb]at *
  simp only at *
  have hl3:=hl0 (a-b)
  repeat (first|refine Pj ?_|refine Z81 fun _=>?_|refine Z82 fun _=>?_)
  refine Zec fun _ hw=>aa hw SubW.nil ⟨?_,rfl⟩
  rfl
theorem WP:([1]++List.replicate (6-[1].length) 0:List Nat)=D 6 1:=by decide +kernel
theorem P0:([]++List.replicate (6-([]:List Nat).length) 0:List Nat)=D 6 0:=by rw[nP];rfl
theorem U2(a x:Nat):f5 (a^x*W^6%p) (a^x*W^6%p)=a^(2*x)*W^6%p:=by
 rw[rE]
 unfold f5
 have e:a^x*W^6*(a^x*W^6)*Ri=a^(2*x)*W^6*(W^6*Ri):=by
  rw[Nat.two_mul,Nat.pow_add]
  generalize a^x=y;generalize W^6=z
  simp only[Nat.mul_assoc,Nat.mul_left_comm]
 rw[e,Nat.mul_mod,KZ,Nat.mul_one,Nat.mod_mod]
theorem bN(a x:Nat):f5 (a^x*W^6%p) (a*W^6%p)=a^(x+1)*W^6%p:=by
 rw[rE]
 unfold f5
 have e:a^x*W^6*(a*W^6)*Ri=a^(x+1)*W^6*(W^6*Ri):=by
  rw[Nat.pow_succ a x]
  generalize a^x=y;generalize W^6=z
  simp only[Nat.mul_assoc,Nat.mul_left_comm]
 rw[e,Nat.mul_mod,KZ,Nat.mul_one,Nat.mod_mod]
theorem nk(a:Nat):f5 (a%p) (W^12%p)=a*W^6%p:=by
 rw[AO]
 unfold f5
 rw[Nat.mul_assoc,Nat.mul_mod,Wj,← Nat.mul_mod]
theorem Mz:f5 1 (W^12%p)=1*W^6%p:=by decide +kernel
theorem R3(y:Nat):f5 (y*W^6%p) 1=y%p:=by
 rw[AO]
 unfold f5
 rw[Nat.mul_one,Nat.mul_assoc,Nat.mul_mod,KZ,Nat.mul_one,Nat.mod_mod]
theorem mv{ys:List Nat}(hy:Lt 18446744073709551616 ys)(i:Nat):(ys.getD (i/64) 0 >>> (i%64)%18446744073709551616 &&& 1%18446744073709551616)=V ys/2^i%2:=by
 rw[show 1%18446744073709551616=1 from rfl,Nat.and_one_is_mod,Nat.mod_mod_of_dvd _ (by decide),cP hy]
 exact JV _ _
theorem zu{a b:Prop}(k:b)(h:Rm b→a:=by intro k;refine bn (kk:=.u64) (vs:=[1]) (by rfl) (by rfl) (by rfl) (by rfl) (by rfl) (by rfl) (by rfl) (by rfl) ?_;rw[WP];exact k.h):a:=h ⟨k⟩
theorem FJ{a b:Prop}(k:b)(h:Rm b→a:=by intro k;(first|refine Z01 ?_|refine Z02 ?_|refine Z03 ?_|refine Z04 ?_|refine Z05 ?_|refine Z06 ?_|refine Z07 ?_|refine Z08 ?_|refine Z09 ?_|refine Z10 ?_|refine Z11 ?_|refine Z12 ?_|refine Z13 ?_|refine Z14 ?_|refine Z16 ?_|refine Z17 ?_|refine Z18 ?_|refine Z20 ?_|refine Z21 ?_|refine Z22 ?_|refine Z23 ?_|refine Z24 ?_|refine Z26 ?_|refine Z27 ?_|refine Z29 ?_|refine Z30 ?_|refine Z31 ?_|refine Z32 ?_|refine Z36 ?_|refine Z37 ?_|refine Z38 ?_|refine Z40 ?_|refine Z42 ?_|refine Z67 ?_|refine Z71 ?_);exact k.h):a:=h ⟨k⟩
set_option maxHeartbeats 4000000 in
theorem EC{a:Nat}(ha:a<W^6)(s:Value)(xs:List Nat)(hx:Lt 18446744073709551616 xs)(hl:xs.length<65536):
  Spec Tryz.prog 95 [LV .u64 (D 6 a),s] (fun w=>Rd w s (xs.map (N .u64))) [] (IsV (LV .u64 (D 6 (a^V xs%p)))):=by
 refine ad Tryz.func95 rfl rfl rfl fun w hr=>?_
 have hr:=RdC.mk0 hr
 have hl0:=fun x=>ae 6 x
 have e1:=nk a
 have h1W:1<W^6:=by decide
 have h1p:1<p:=fe.1
 have hz:V xs/2^(64*xs.length)=0:=Nat.div_eq_of_lt (by rw[Nat.pow_mul,← W_2];exact uz hx)
 repeat (first|(refine cJ ?_;intro _)|refine y_4 (bS ha) ?_|refine ah (by rfl) (by rfl) (by rfl) (xZ) (fun _ _=>trivial) (by rfl) ?_|(refine ah (by rfl) (by rfl) (by rfl) (ej (oO a) Jj) (fun _ _=>trivial) (by rfl) ?_;rw[e1])|refine zu ?_|(refine ah (by rfl) (by rfl) (by rfl) (ej h1W Jj) (fun _ _=>trivial) (by rfl) ?_;rw[Mz])|refine FJ ?_|refine Z81 fun _=>?_|refine Z82 fun _=>?_)
 rename_i b2 b4 b5 b6
 refine ay (ι:=Nat) (fun j=>j≤64*xs.length) (fun j=>[(1,s),(4,pt b4 0),(5,pt b5 0),(6,pt b6 0),(7,.int .i64 ((j:Int)-1))])
  (fun j=>[.blk b6 (LV .u64 (D 6 (a^(V xs/2^j)*W^6%p))) 32,.blk b5 (LV .u64 (D 6 (a*W^6%p))) 32,.blk b4 (LV .u64 (List.replicate 6 0)) 32]) (fun j=>j) (64*xs.length) (Nat.le_refl _) sbq (by rw[hz,Nat.pow_zero];exact sw) ?_
 intro j hj
 have hl6:=fun x=>hl0 (a^x*W^6%p)
 have hlb:=hl0 (a*W^6%p)
 repeat (first|refine FJ ?_|refine Z81 fun _=>?_|refine Z82 fun _=>?_)
 refine an (by rfl) (fun h=>?_) (fun h=>?_)
 ·have h0:(0:Int)≤(j:Int)-1:=h
  obtain⟨i,rfl⟩:∃i,j=i+1:=⟨j-1,by omega⟩
  rw[show((i+1:Nat):Int)-1=Int.ofNat i by simp]
  have hst:=mw (V xs) i
  have hbt:=mv hx i
  generalize V xs/2^(i+1)=x at hst ⊢
  have hla:=hl6 x
  have hla2:=hl6 (2*x)
  have hla3:=hl6 (2*x+1)
  have q1:=U2 a x
  have q2:=bN a (2*x)
  repeat (first|(refine ah (by rfl) (by rfl) (by rfl) (ej (a:=a^x*W^6%p) (b:=a^x*W^6%p) (oO _) (Nat.mod_lt _ bY)) (fun _ _=>trivial) (by rfl) ?_;rw[q1])|refine ib (by rfl) (by rfl) (show i%64≤64 by omega) (by rfl) ?_|rw[hbt]|refine FJ ?_|refine Z81 fun _=>?_|refine Z82 fun _=>?_)
  refine an (by rfl) (fun hb=>?_) (fun hb=>?_)
  ·have hx1:V xs/2^i=2*x+1:=by omega
   repeat (first|(refine ah (by rfl) (by rfl) (by rfl) (ej (a:=a^(2*x)*W^6%p) (b:=a*W^6%p) (oO _) (Nat.mod_lt _ bY)) (fun _ _=>trivial) (by rfl) ?_;rw[q2])|refine FJ ?_|refine Z81 fun _=>?_|refine Z82 fun _=>?_)
   refine ao i (by omega) (by omega) ?_ (by rw[hx1];exact sw)
   rw[show((i:Int)-1)=Int.ofNat i-Int.ofNat 1 from rfl]
   exact sbq
  ·have hx1:V xs/2^i=2*x:=by omega
   repeat (first|refine FJ ?_|refine Z81 fun _=>?_|refine Z82 fun _=>?_)
   refine ao i (by omega) (by omega) ?_ (by rw[hx1];exact sw)
   rw[show((i:Int)-1)=Int.ofNat i-Int.ofNat 1 from rfl]
   exact sbq
 ·have hp0:¬(0:Int)≤(j:Int)-1:=h
  have hj0:j=0:=by omega
  subst hj0
  have hle:=hl0 (a^V xs%p)
  have q3:=R3 (a^V xs)
  rw[Nat.pow_zero,Nat.div_one]
  repeat (first|refine zu ?_|(refine ah (by rfl) (by rfl) (by rfl) (ej (a:=a^V xs*W^6%p) (oO _) h1p) (fun _ _=>trivial) (by rfl) ?_;rw[q3])|refine FJ ?_|refine Z81 fun _=>?_|refine Z82 fun _=>?_)
  refine Zec fun _ hw=>aa hw SubW.nil ⟨?_,rfl⟩
  rfl
theorem Ci(X i:Nat):((X/W^i%W) >>> 1%18446744073709551616 ||| (X/W^(i+1)%W) <<< 63%18446744073709551616%18446744073709551616)=X/2/W^i%W:=by
 have h:=AT (w:=1) (by decide) X i
 rw[Nat.pow_one,show 64-1=63 from rfl]at h
 rw[← h]
 have hx:X/W^i%W<W:=Nat.mod_lt _ mm
 generalize X/W^i%W=x at *
 generalize X/W^(i+1)%W=y
 have e1:x >>> 1=x/2:=by rw[Nat.shiftRight_eq_div_pow]
 have e2:y <<< 63%18446744073709551616=2^63*(y%2):=by rw[Nat.shiftLeft_eq];omega
 have hW:W=18446744073709551616:=rfl
 rw[e1,e2,Nat.mod_eq_of_lt (a:=x/2) (by omega),Nat.mod_eq_of_lt (a:=2^63*(y%2)) (by omega),Nat.or_comm,← Nat.two_pow_add_eq_or_of_lt (by omega),Nat.mod_eq_of_lt (a:=x/2+2^63*(y%2)) (by omega),Nat.add_comm]
theorem Tl{a b:Prop}(k:b)(h:Rm b→a:=by intro k;(first|refine Z01 ?_|refine Z02 ?_|refine Z03 ?_|refine Z04 ?_|refine Z05 ?_|refine Z06 ?_|refine Z07 ?_|refine Z08 ?_|refine Z09 ?_|refine Z10 ?_|refine Z11 ?_|refine Z12 ?_|refine Z13 ?_|refine Z14 ?_|refine Z15 ?_|refine Z17 ?_|refine Z18 ?_|refine Z22 ?_|refine Z23 ?_|refine Z24 ?_|refine Z26 ?_|refine Z27 ?_|refine Z29 ?_|refine Z30 ?_|refine Z31 ?_|refine Z32 ?_|refine Z41 ?_|refine Z42 ?_|refine Z43 ?_|refine Z46 ?_|refine Z67 ?_);exact k.h):a:=h ⟨k⟩
theorem Wb{a b:Prop}(k:b)(h:Rm b→a:=by intro k;(first|refine ib (by rfl) (by rfl) (show 1≤64 by decide) (by rfl) ?_|refine Z01 ?_|refine Z02 ?_|refine Z15 ?_|refine Z17 ?_|refine Z18 ?_|refine Z22 ?_|refine Z23 ?_|refine Z41 ?_|refine Z42 ?_|refine Z43 ?_|refine Z46 ?_);exact k.h):a:=h ⟨k⟩
set_option maxHeartbeats 4000000 in
theorem n8(a h ba:Nat)(ha:a<W^6)(hh:h≤1):
  Spec Tryz.prog 151 [pt ba 0,N .u64 h] ai [.blk ba (LV .u64 (D 6 a)) 32] (fun v Wr=>v = .tuple #[]∧Wr=[.blk ba (LV .u64 (D 6 ((a+h*W^6)/2))) 32]):=by
 refine ad Tryz.func151 rfl rfl rfl fun w _=>?_
 obtain⟨X,hX⟩:∃X,X=a+h*W^6:=⟨_,rfl⟩
 have hDX:D 6 a=D 6 X:=by rw[hX,← mh 6 (a+h*W^6),Nat.add_mul_mod_self_right,mh]
 have hX6:X/W^6%W=h:=by
  rw[hX,Nat.add_mul_div_right _ _ (bP 6),Nat.div_eq_of_lt ha,Nat.zero_add,Nat.mod_eq_of_lt (by have:W=18446744073709551616:=rfl;omega)]
 rw[← hX,hDX]
 have hdx:=ae 6 X
 have hg:∀j,j<6→(D 6 X).getD j 0=X/W^j%W:=fun j hj=>zy 6 X j hj
 repeat (first|refine Tl ?_)
 refine ay (ι:=Nat) (fun i=>i≤5) (fun i=>[(0,pt ba 0),(1,N .u64 h),(5,N .i64 i)]) (fun i=>[.blk ba (LV .u64 (D i (X/2)++(D 6 X).drop i)) 32]) (fun i=>5-i) 0 (by omega) sbq (by rw[D_0,List.nil_append,List.drop_zero];exact sw) ?_
 intro i hi
 have hdl:=ae i (X/2)
 have hpl:(D i (X/2)++(D 6 X).drop i).length=6:=by rw[List.length_append,hdl,List.length_drop,hdx];omega
 have hg0:=(jZ (xs:=D 6 X) hdl).trans (hg i (by omega))
 by_cases h5:i<5
 ·have hg1:=(DV (xs:=D 6 X) hdl).trans (hg (i+1) (by omega))
  repeat (first|refine y_8 ?_|refine Z01 ?_|refine Z02 ?_|refine Z03 ?_|refine Z04 ?_|refine Z05 ?_|refine Z06 ?_|refine Z07 ?_|refine Z08 ?_|refine Z09 ?_|refine Z10 ?_|refine Z11 ?_|refine Z12 ?_|refine Z13 ?_|refine Z14 ?_|refine Z15 ?_|refine Z17 ?_|refine Z18 ?_|refine Z22 ?_|refine Z23 ?_|refine Z24 ?_|refine Z26 ?_|refine Z27 ?_|refine Z29 ?_|refine Z30 ?_|refine Z31 ?_|refine Z32 ?_|refine Z41 ?_|refine Z42 ?_|refine Z43 ?_|refine Z46 ?_|refine Z67 ?_)
  refine au (by rfl) ?_
  repeat (first|(refine Zqf (by intro _ _ _;(first|refine Wb ?_);exact Zq) ?_)|refine Kq ?_|refine ga ?_|refine Zqn ?_)
  refine Zq0 ?_ (by kernel_rfl)
  rw[hg0,hg1,Ci,qp hdl (by omega),← ux]
  repeat (first|refine Tl ?_)
  exact ao (i+1) (by omega) (by omega) sbq sw
 ·have hie:i=5:=by omega
  subst hie
  have ho:=Ci X 5
  rw[show(5+1:Nat)=6 from rfl,hX6]at ho
  repeat (first|refine y_5 ?_|refine Z01 ?_|refine Z02 ?_|refine Z03 ?_|refine Z04 ?_|refine Z05 ?_|refine Z06 ?_|refine Z07 ?_|refine Z08 ?_|refine Z09 ?_|refine Z10 ?_|refine Z11 ?_|refine Z12 ?_|refine Z13 ?_|refine Z14 ?_|refine Z15 ?_|refine Z17 ?_|refine Z18 ?_|refine Z22 ?_|refine Z23 ?_|refine Z24 ?_|refine Z26 ?_|refine Z27 ?_|refine Z29 ?_|refine Z30 ?_|refine Z31 ?_|refine Z32 ?_|refine Z41 ?_|refine Z42 ?_|refine Z43 ?_|refine Z46 ?_|refine Z67 ?_)
  refine au (by rfl) ?_
  repeat (first|(refine Zqf (by intro _ _ _;(first|refine Wb ?_);exact Zq) ?_)|refine Kq ?_|refine ga ?_|refine Zqn ?_)
  refine Zq0 ?_ (by kernel_rfl)
  rw[hg0,ho,qp hdl (by omega),← ux,List.drop_eq_nil_of_le (by omega),List.append_nil]
  repeat (first|refine Tl ?_)
  refine gB (by rfl) fun _ hw=>aa hw (Wout:=[.blk ba (LV .u64 (D 6 (X/2))) 32]) (by exact sw) ⟨rfl,rfl⟩
theorem vg{u:Nat}(hu:u<W^6):((D 6 u).getD 0 0%18446744073709551616 &&& 1%18446744073709551616)=u%2:=by
 rw[mg hu,Nat.pow_zero,Nat.div_one,show 1%18446744073709551616=1 from rfl,Nat.and_one_is_mod,show W=18446744073709551616 from rfl]
 omega
theorem Iz:p%2=1:=by decide +kernel
theorem Od{A x u:Nat}(h:A*(2*x)%p=2*u%p):A*x%p=u%p:=by
 rw[Nat.mul_left_comm]at h
 have h2:¬p∣2:=fun hd=>by
  have:=Nat.le_of_dvd (by decide) hd
  have:=Iz
  have:=fe.1
  have h3:p=2:=by omega
  omega
 rcases Nat.le_total (A*x) u with hle | hle
 ·exact(Pr.zT fe h2 hle (by rw[Nat.mul_comm u,Nat.mul_comm (A*x)];exact h.symm)).symm
 ·exact Pr.zT fe h2 hle (by rw[Nat.mul_comm u,Nat.mul_comm (A*x)];exact h)
theorem zv{a b:Prop}(k:b)(h:Rm b→a:=by intro k;(first|refine Z01 ?_|refine Z02 ?_|refine Z03 ?_|refine Z04 ?_|refine Z05 ?_|refine Z06 ?_|refine Z07 ?_|refine Z08 ?_|refine Z09 ?_|refine Z10 ?_|refine Z11 ?_|refine Z12 ?_|refine Z13 ?_|refine Z14 ?_|refine Z15 ?_|refine Z17 ?_|refine Z18 ?_|refine Z19 ?_|refine Z22 ?_|refine Z23 ?_|refine Z24 ?_|refine Z26 ?_|refine Z27 ?_|refine Z29 ?_|refine Z30 ?_|refine Z31 ?_|refine Z32 ?_|refine Z40 ?_|refine Z46 ?_|refine Z67 ?_);exact k.h):a:=h ⟨k⟩
set_option maxHeartbeats 8000000 in
theorem sW(U X A bu bx:Nat)(hU:0<U)(hUW:U<W^6)(hX:X<p)(hA:A*X%p=U%p):
  Spec Tryz.prog 132 [pt bu 0,pt bx 0] ai [.blk bu (LV .u64 (D 6 U)) 32,.blk bx (LV .u64 (D 6 X)) 32]
   (fun v Wr=>v = .tuple #[]∧∃u x,Wr=[.blk bu (LV .u64 (D 6 u)) 32,.blk bx (LV .u64 (D 6 x)) 32]∧u∣U∧u%2=1∧x<p∧A*x%p=u%p):=by
 refine ad Tryz.func132 rfl rfl rfl fun w _=>?_
 have hpl:=lQ
 have hp2:=Ot
 have hpo:=Iz
 have hl0:=fun x=>ae 6 x
 repeat (first|refine zv ?_|refine Z82 fun _=>?_)
 refine ay (ι:=Nat×Nat) (fun q=>0<q.1∧q.1∣U∧q.2<p∧A*q.2%p=q.1%p) (fun _=>[(0,pt bu 0),(1,pt bx 0)]) (fun q=>[.blk bu (LV .u64 (D 6 q.1)) 32,.blk bx (LV .u64 (D 6 q.2)) 32]) (fun q=>q.1) (U,X) ⟨hU,Nat.dvd_refl U,hX,hA⟩ sbq sw ?_
 rintro⟨u,x⟩ ⟨h1,h2,h3,h4⟩
 simp only at h1 h2 h3 h4 ⊢
 have huU:=Nat.le_of_dvd hU h2
 have huW:u<W^6:=by omega
 have hxW:x<W^6:=by omega
 have hb1:=vg huW
 have hb2:=vg hxW
 have hlu:=hl0 u
 have hlx:=hl0 x
 repeat (first|rw[hb1]|refine zv ?_|refine Z82 fun _=>?_)
 refine an (by rfl) (fun he=>?_) (fun he=>?_)
 ·obtain⟨y,rfl⟩:∃y,u=2*y:=⟨u/2,by omega⟩
  have hy:(2*y+0*W^6)/2=y:=by rw[Nat.zero_mul];omega
  have hly:=hl0 y
  have hdv:y∣U:=Nat.dvd_trans (Nat.dvd_mul_left y 2) h2
  repeat (first|(refine aw (by rfl) (by rfl) (by rfl) (n8 (2*y) 0 bu huW (Nat.zero_le 1)) (.cons fd .nil) (fun _ _=>trivial) (by rfl) ?_;rintro _ _ ⟨rfl,rfl⟩;rw[hy])|rw[hb2]|refine zv ?_|refine Z82 fun _=>?_)
  refine an (by rfl) (fun hx=>?_) (fun hx=>?_)
  ·obtain⟨z,rfl⟩:∃z,x=2*z:=⟨x/2,by omega⟩
   have hz:(2*z+0*W^6)/2=z:=by rw[Nat.zero_mul];omega
   have hm:=Od h4
   repeat (first|(refine aw (by rfl) (by rfl) (by rfl) (n8 (2*z) 0 bx hxW (Nat.zero_le 1)) (.cons fd .nil) (fun _ _=>trivial) (by rfl) ?_;rintro _ _ ⟨rfl,rfl⟩;rw[hz])|refine zv ?_|refine Z82 fun _=>?_)
   exact ao (y,z) ⟨by omega,hdv,by omega,hm⟩ (by simp only;omega) sbq sw
  ·have hlp:=hl0 p
   have hm:A*((x+p)/2)%p=y%p:=by
    refine Od ?_
    rw[show 2*((x+p)/2)=x+p by omega,Nat.mul_add,Nat.add_mul_mod_self_right]
    exact h4
   have hs:(x+p)/2<p:=by omega
   clear h4 hb1 hb2 h2 huU
   repeat (first|refine KM ?_|(refine cJ ?_;intro _)|refine zv ?_|refine Z82 fun _=>?_)
   rename_i b4
   refine ay (ι:=Nat) (fun i=>i≤6) (fun i=>[(0,pt bu 0),(1,pt bx 0),(4,pt b4 0),(5,N .u64 (cp iR (D 6 x) (D 6 p) i).2),(24,N .i64 i)])
    (fun i=>[.blk bx (LV .u64 ((cp iR (D 6 x) (D 6 p) i).1++(D 6 x).drop i)) 32,.blk bu (LV .u64 (D 6 y)) 32,.blk b4 (LV .u64 (D 6 p)) 32]) (fun i=>6-i) 0 (by omega) (by rw[iK];exact sbq) (by rw[iK];exact sw) ?_
   intro i hi
   have hc1:=mz 6 x p i
   have hl:=gP iR (D 6 x) (D 6 p) i
   have hol:((cp iR (D 6 x) (D 6 p) i).1++(D 6 x).drop i).length=6:=by simp;omega
   have hdg:=jZ (xs:=D 6 x) hl
   by_cases h:i<6
   ·repeat (first|refine y_8 ?_|refine Z01 ?_|refine Z02 ?_|refine Z03 ?_|refine Z04 ?_|refine Z05 ?_|refine Z06 ?_|refine Z07 ?_|refine Z08 ?_|refine Z09 ?_|refine Z10 ?_|refine Z11 ?_|refine Z12 ?_|refine Z13 ?_|refine Z14 ?_|refine Z15 ?_|refine Z17 ?_|refine Z18 ?_|refine Z19 ?_|refine Z22 ?_|refine Z23 ?_|refine Z24 ?_|refine Z26 ?_|refine Z27 ?_|refine Z29 ?_|refine Z30 ?_|refine Z31 ?_|refine Z32 ?_|refine Z40 ?_|refine Z46 ?_|refine Z67 ?_|refine Z82 fun _=>?_)
    refine au (by rfl) ?_
    repeat (first|(refine Zqf (by intro _ _ _;(first|refine g7 (by rfl) (by rfl) (by rfl) (zJ _ _ _ hc1) (by rfl) ?_|refine Z01 ?_|refine Z02 ?_|refine Z15 ?_|refine Z17 ?_|refine Z18 ?_|refine Z19 ?_|refine Z22 ?_|refine Z23 ?_|refine Z40 ?_|refine Z46 ?_);exact Zq) ?_)|refine ut ?_)
    refine Zq0 ?_ (by kernel_rfl)
    rw[hdg,← wE,← wF,← gQ,kG iR (D 6 x) (D 6 p) i (by omega)]
    repeat (first|refine zv ?_|refine Z82 fun _=>?_)
    exact ao (i+1) (by omega) (by omega) sbq sw
   ·have hie:i=6:=by omega
    subst hie
    have hdr:(D 6 x).drop 6=[]:=List.drop_eq_nil_of_le (by omega)
    have hxp:x+p<W^6:=by omega
    have h0:(x+p)/W^6=0:=Nat.div_eq_of_lt hxp
    have hz:(x+p+0*W^6)/2=(x+p)/2:=by rw[Nat.zero_mul,Nat.add_zero]
    rw[sU hxW hpl,hdr,List.append_nil]at *
    simp only[h0]at *
    have hlz:=hl0 ((x+p)/2)
    repeat (first|refine y_5 ?_|(refine aw (by rfl) (by rfl) (by rfl) (n8 (x+p) 0 bx hxp (Nat.zero_le 1)) (.cons fd .nil) (fun _ _=>trivial) (by rfl) ?_;rintro _ _ ⟨rfl,rfl⟩;rw[hz])|refine zv ?_|refine Z82 fun _=>?_)
    exact ao (y,(x+p)/2) ⟨by omega,hdv,hs,hm⟩ (by simp only;omega) sbq sw
 ·repeat (first|refine zv ?_|refine Z82 fun _=>?_)
  refine gB (by rfl) fun _ hw=>aa hw (Wout:=[.blk bu (LV .u64 (D 6 u)) 32,.blk bx (LV .u64 (D 6 x)) 32]) (by exact sw) ⟨rfl,u,x,rfl,h2,by omega,h3,h4⟩
instance nzp:NeZero p:=⟨Nat.ne_of_gt bY⟩
theorem LI{a r:Nat}(h:a*r%p=1):r%p=a^(p-2)%p:=by
 have hk:Kf.κ p a*Kf.κ p r=1:=by
  rw[← Kf.go,← Kf.κ_1,Kf.sB,h,Nat.mod_eq_of_lt fe.1]
 have h2:=Kf.Ak fe hk
 rw[Kf.inv,← Kf.wt,Kf.sB]at h2
 exact h2.symm
theorem CU{A x y u v:Nat}(hx:A*x%p=u%p)(hy:A*y%p=v%p)(h:v≤u):A*((x+(p-y%p)%p)%p)%p=(u-v)%p:=by
 have e1:Kf.κ p A*Kf.κ p x=Kf.κ p u:=by rw[← Kf.go,Kf.sB];exact hx
 have e2:Kf.κ p A*Kf.κ p y=Kf.κ p v:=by rw[← Kf.go,Kf.sB];exact hy
 rw[← Kf.sB,Kf.go,Kf.mf,Kf.fL,Kf.mf,Kf.wr (Nat.le_of_lt (Nat.mod_lt _ bY)),Kf.mf,Kf.Bo h]
 grind
theorem Lu{a b c d:Nat}(h:Nat.gcd a b=1)(hc:c∣a)(hd:d∣b):Nat.gcd c d=1:=
 Nat.eq_one_of_dvd_one (h ▸ Nat.dvd_gcd (Nat.dvd_trans (Nat.gcd_dvd_left c d) hc) (Nat.dvd_trans (Nat.gcd_dvd_right c d) hd))
theorem xa{a b:Nat}(h:Nat.gcd a b=1)(hle:b≤a):Nat.gcd (a-b) b=1:=
 Nat.eq_one_of_dvd_one (h ▸ Nat.dvd_gcd (by
  have:=Nat.dvd_add (Nat.gcd_dvd_left (a-b) b) (Nat.gcd_dvd_right (a-b) b)
  rwa [Nat.sub_add_cancel hle]at this) (Nat.gcd_dvd_right _ _))
theorem Hm{a b:Nat}(h:Nat.gcd a b=1)(hle:a≤b):Nat.gcd a (b-a)=1:=by
 rw[Nat.gcd_comm]at h ⊢
 exact xa h hle
theorem Ur{A:Nat}(h0:0<A)(hA:A<p):Nat.gcd A p=1:=by
 rcases fe.2 _ (Nat.gcd_dvd_right A p)with h | h
 ·exact h
 ·have:=Nat.le_of_dvd h0 (h ▸ Nat.gcd_dvd_left A p)
  omega
theorem Wc{a b:Prop}(k:b)(h:Rm b→a:=by intro k;refine bn (kk:=.u64) (vs:=[]) (by rfl) (by rfl) (by rfl) (by rfl) (by rfl) (by rfl) (by rfl) (by rfl) ?_;rw[P0];exact k.h):a:=h ⟨k⟩
theorem pz{a b:Prop}(k:b)(h:Rm b→a:=by intro k;(first|refine Z02 ?_|refine Z03 ?_|refine Z04 ?_|refine Z05 ?_|refine Z06 ?_|refine Z07 ?_|refine Z08 ?_|refine Z09 ?_|refine Z10 ?_|refine Z11 ?_|refine Z12 ?_|refine Z13 ?_|refine Z14 ?_|refine Z17 ?_|refine Z18 ?_|refine Z24 ?_|refine Z26 ?_|refine Z27 ?_|refine Z29 ?_|refine Z30 ?_|refine Z31 ?_|refine Z32 ?_|refine Z62 ?_|refine Z63 ?_|refine Z67 ?_|refine Z77 ?_|refine Z78 ?_|refine Z79 ?_);exact k.h):a:=h ⟨k⟩
theorem Xo{a b:Prop}(k:b)(h:Rm b→a:=by intro k;(first|refine Z02 ?_|refine Z17 ?_|refine Z18 ?_|refine Z62 ?_|refine Z63 ?_|refine Z77 ?_|refine Z78 ?_|refine Z79 ?_);exact k.h):a:=h ⟨k⟩
theorem Wd{a b:Prop}(k:b)(h:Rm b→a:=by intro k;(first|refine Z24 ?_|refine Z26 ?_|refine Z27 ?_|refine Z67 ?_|refine Z62 ?_);exact k.h):a:=h ⟨k⟩
theorem Dq{a b:Prop}(k:b)(h:Rm b→a:=by intro k;refine Zqf (by intro _ _ _;(first|refine Xo ?_);exact Zq) ?_;exact k.h):a:=h ⟨k⟩
theorem VL{a b:Prop}(k:b)(h:Rm b→a:=by intro k;refine Zqp (by intro _ _ _;(first|refine Wd ?_);exact Zq) ?_;exact k.h):a:=h ⟨k⟩
theorem uu{a b:Prop}(k:b)(h:Rm b→a:=by intro k;(first|refine VL ?_|refine ga ?_|refine Zqn ?_);exact k.h):a:=h ⟨k⟩
set_option maxHeartbeats 8000000 in
theorem EA{a:Nat}(ha:a<W^6):Spec Tryz.prog 111 [LV .u64 (D 6 a)] ai [] (IsV (LV .u64 (D 6 (a^(p-2)%p)))):=by
 refine ad Tryz.func111 rfl rfl rfl fun w _=>?_
 have hpl:=lQ
 have hp0:=bY
 have hp1:=fe.1
 have hl0:=fun x=>ae 6 x
 have hlp:=hl0 p
 have hAp:=Nat.mod_lt a bY
 have hz0:=wv (oO a) (show 0<W^6 by decide)
 repeat (first|(refine cJ ?_;intro _)|refine y_4 (bS ha) ?_|refine KM ?_|refine zu ?_|refine Wc ?_|refine Z02 ?_|refine Z03 ?_|refine Z04 ?_|refine Z05 ?_|refine Z06 ?_|refine Z07 ?_|refine Z08 ?_|refine Z09 ?_|refine Z10 ?_|refine Z11 ?_|refine Z12 ?_|refine Z13 ?_|refine Z14 ?_|refine Z17 ?_|refine Z18 ?_|refine Z24 ?_|refine Z26 ?_|refine Z27 ?_|refine Z29 ?_|refine Z30 ?_|refine Z31 ?_|refine Z32 ?_|refine Z62 ?_|refine Z63 ?_|refine Z67 ?_|refine Z77 ?_|refine Z78 ?_|refine Z79 ?_|refine Z81 fun _=>?_|refine Z82 fun _=>?_)
 refine an (by rfl) (fun hb=>?_) (fun hb=>?_)
 ·rw[hz0]at hb
  have hv:a^(p-2)%p=a%p:=by
   rw[Nat.pow_mod,hb,Nat.zero_pow (by have:=Iz;omega),Nat.zero_mod]
  rw[← hv]
  rw[← hv]at hz0
  have hla:=hl0 (a^(p-2)%p)
  repeat (first|refine pz ?_|refine Z81 fun _=>?_|refine Z82 fun _=>?_)
  refine Zec fun _ hw=>aa hw SubW.nil ⟨?_,rfl⟩
  rfl
 ·rw[hz0]at hb
  have hA0:0<a%p:=by omega
  have hg0:=Ur hA0 hAp
  have hi0:a%p*1%p=(a%p)%p:=by rw[Nat.mul_one]
  have hi1:a%p*0%p=p%p:=by rw[Nat.mul_zero,Nat.mod_self,Nat.zero_mod]
  have hval:∀r,r<p→a%p*r%p=1%p→r=a^(p-2)%p:=by
   intro r hr h
   rw[Nat.mod_mul_mod,Nat.mod_eq_of_lt hp1]at h
   rw[← LI h,Nat.mod_eq_of_lt hr]
  generalize a^(p-2)%p=R at *
  generalize a%p=A at *
  clear hb hz0
  repeat (first|(refine cJ ?_;intro _)|refine pz ?_|refine Z81 fun _=>?_|refine Z82 fun _=>?_)
  rename_i b1 b2 b3 b4 b5 b6 b7
  refine ay (ι:=(Nat×Nat)×(Nat×Nat)) (fun q=>(0<q.1.1∧q.1.1≤p∧q.2.1<p∧A*q.2.1%p=q.1.1%p)∧(0<q.1.2∧q.1.2≤p∧q.2.2<p∧A*q.2.2%p=q.1.2%p)∧Nat.gcd q.1.1 q.1.2=1)
   (fun _=>[(2,pt b2 0),(3,pt b3 0),(4,pt b4 0),(5,pt b5 0),(6,pt b6 0),(7,pt b7 0)])
   (fun q=>[.blk b2 (LV .u64 (List.replicate 6 0)) 32,.blk b3 (LV .u64 (D 6 q.1.1)) 32,.blk b4 (LV .u64 (D 6 q.1.2)) 32,.blk b5 (LV .u64 (D 6 q.2.1)) 32,.blk b6 (LV .u64 (D 6 q.2.2)) 32,.blk b7 (LV .u64 (D 6 1)) 32]) (fun q=>q.1.1+q.1.2) ((A,p),(1,0))
   ⟨⟨hA0,Nat.le_of_lt hAp,hp1,hi0⟩,⟨hp0,Nat.le_refl p,hp0,hi1⟩,hg0⟩ sbq sw ?_
  rintro⟨⟨u,v⟩,⟨x,y⟩⟩ ⟨⟨hu0,hu,hx,hux⟩,⟨hv0,hv,hy,hvy⟩,hg⟩
  simp only at hu0 hu hx hux hv0 hv hy hvy hg ⊢
  have huW:u<W^6:=by omega
  have hvW:v<W^6:=by omega
  repeat (first|(refine aw (by rfl) (by rfl) (by rfl) (sW u x A b3 b5 hu0 huW hx hux) (.cons fd (.cons fd .nil)) (fun _ _=>trivial) (by rfl) ?_;rintro _ _ ⟨rfl,u1,x1,rfl,hd1,ho1,hx1,hux1⟩)|(refine aw (by rfl) (by rfl) (by rfl) (sW v y A b4 b6 hv0 hvW hy hvy) (.cons fd (.cons fd .nil)) (fun _ _=>trivial) (by rfl) ?_;rintro _ _ ⟨rfl,v1,y1,rfl,hd2,ho2,hy1,hvy1⟩)|refine pz ?_|refine Z81 fun _=>?_|refine Z82 fun _=>?_)
  have hg1:=Lu hg hd1 hd2
  have hu1:=Nat.le_of_dvd hu0 hd1
  have hv1:=Nat.le_of_dvd hv0 hd2
  have huW1:u1<W^6:=by omega
  have hvW1:v1<W^6:=by omega
  have hz1:=wv huW1 (show 1<W^6 by decide)
  have hz2:=wv hvW1 (show 1<W^6 by decide)
  clear hux hvy hd1 hd2 hg
  have hlx1:=hl0 x1
  have hly1:=hl0 y1
  have hlu1:=hl0 u1
  have hlv1:=hl0 v1
  refine an (by rfl) (fun hb=>?_) (fun hb=>?_)
  ·rw[hz1]at hb
   have hr:=hval x1 hx1 (by rw[hux1,hb])
   repeat (first|refine pz ?_|refine Z81 fun _=>?_|refine Z82 fun _=>?_)
   refine Zec fun _ hw=>aa hw SubW.nil ⟨?_,rfl⟩
   rw[hr]
  rw[hz1]at hb
  repeat (first|refine pz ?_|refine Z81 fun _=>?_|refine Z82 fun _=>?_)
  refine an (by rfl) (fun hb2=>?_) (fun hb2=>?_)
  ·rw[hz2]at hb2
   have hr:=hval y1 hy1 (by rw[hvy1,hb2])
   repeat (first|refine pz ?_|refine Z81 fun _=>?_|refine Z82 fun _=>?_)
   refine Zec fun _ hw=>aa hw SubW.nil ⟨?_,rfl⟩
   rw[hr]
  rw[hz2]at hb2
  have hne:u1≠v1:=by
   rintro rfl
   rw[Nat.gcd_self]at hg1
   exact hb hg1
  have hp1:=dw 6 u1
  have hp2:=dw 6 v1
  by_cases hlt:u1<v1
  ·have q1:0<u1:=by omega
   have q2:u1≤p:=by omega
   have q3:0<v1-u1:=by omega
   have q4:v1-u1≤p:=by omega
   have ho:vB (V (D 6 u1)) (V (D 6 v1)) = -1:=by rw[eU huW1,eU hvW1];exact pN hlt
   repeat (first|refine pz ?_|refine Z81 fun _=>?_|refine Z82 fun _=>?_)
   refine au (by rfl) ?_
   repeat (first|refine Dq ?_|(refine Zqp (by intro _ _ _;(refine ah (by rfl) (by rfl) (by rfl) (mx _ _ (D 6 u1) (D 6 v1) hp1 hp2 (by omega) (by omega)) (fun w hw=>⟨RdW.arrAll (m:=6) fd hlu1 w hw,RdW.arrAll (m:=6) fd hlv1 w hw⟩) (by rfl) ?_;rw[ho]);exact Zq) ?_)|refine uu ?_)
   refine Zq0 ?_ (by kernel_rfl)
   rw[show decide (Int.ofNat 0 ≤ -1)=false from by decide]
   repeat (first|refine pz ?_|refine Z81 fun _=>?_|refine Z82 fun _=>?_)
   refine au (by rfl) ?_
   repeat (first|refine Dq ?_|refine bT (mP hvW1 (Nat.le_of_lt hlt)) ?_|refine bT (om (Nat.lt_trans hy1 hpl) (Nat.lt_trans hx1 hpl)) ?_|refine uu ?_)
   refine Zq0 ?_ (by kernel_rfl)
   repeat (first|refine pz ?_|refine Z81 fun _=>?_|refine Z82 fun _=>?_)
   exact ao ((u1,v1-u1),(x1,(y1+(p-x1%p)%p)%p)) ⟨⟨q1,q2,hx1,hux1⟩,⟨q3,q4,Nat.mod_lt _ hp0,CU hvy1 hux1 (Nat.le_of_lt hlt)⟩,Hm hg1 (Nat.le_of_lt hlt)⟩ (by simp only;omega) sbq sw
  ·have q1:0<v1:=by omega
   have q2:v1≤p:=by omega
   have q3:0<u1-v1:=by omega
   have q4:u1-v1≤p:=by omega
   have ho:vB (V (D 6 u1)) (V (D 6 v1))=1:=by rw[eU huW1,eU hvW1];exact pM (by omega)
   repeat (first|refine pz ?_|refine Z81 fun _=>?_|refine Z82 fun _=>?_)
   refine au (by rfl) ?_
   repeat (first|refine Dq ?_|(refine Zqp (by intro _ _ _;(refine ah (by rfl) (by rfl) (by rfl) (mx _ _ (D 6 u1) (D 6 v1) hp1 hp2 (by omega) (by omega)) (fun w hw=>⟨RdW.arrAll (m:=6) fd hlu1 w hw,RdW.arrAll (m:=6) fd hlv1 w hw⟩) (by rfl) ?_;rw[ho]);exact Zq) ?_)|refine uu ?_)
   refine Zq0 ?_ (by kernel_rfl)
   rw[show decide ((0:Nat)≤1)=true from by decide]
   repeat (first|refine pz ?_|refine Z81 fun _=>?_|refine Z82 fun _=>?_)
   refine au (by rfl) ?_
   repeat (first|refine Dq ?_|refine bT (mP huW1 (Nat.le_of_not_lt hlt)) ?_|refine bT (om (Nat.lt_trans hx1 hpl) (Nat.lt_trans hy1 hpl)) ?_|refine uu ?_)
   refine Zq0 ?_ (by kernel_rfl)
   repeat (first|refine pz ?_|refine Z81 fun _=>?_|refine Z82 fun _=>?_)
   exact ao ((u1-v1,v1),((x1+(p-y1%p)%p)%p,y1)) ⟨⟨q3,q4,Nat.mod_lt _ hp0,CU hux1 hvy1 (Nat.le_of_not_lt hlt)⟩,⟨q1,q2,hy1,hvy1⟩,xa hg1 (Nat.le_of_not_lt hlt)⟩ (by simp only;omega) sbq sw
abbrev Fq:=Fin p
abbrev kp(a:Nat):Fq:=Kf.κ p a
theorem dB(x:Fq):kp x.val=x:=Kf.iO x
theorem ap(x:Fq):x.val<W^6:=Nat.lt_trans x.isLt lQ
theorem p_3:Kf.P3 p:=⟨fe,by decide +kernel⟩
theorem LL(a b:Nat):(a+b)%p=(kp a+kp b).val:=by rw[← Kf.fL,Kf.dQ]
theorem LN(a b:Nat):a*b%p=(kp a*kp b).val:=by rw[← Kf.go,Kf.dQ]
theorem LO(a:Nat):(p-a%p)%p=(- kp a).val:=by rw[← Kf.dQ (n:=p),Kf.wr (Nat.le_of_lt (Nat.mod_lt _ bY)),Kf.mf]
theorem LP(a b:Nat):(a+(p-b%p)%p)%p=(kp a-kp b).val:=by
 rw[← Kf.dQ (n:=p),Kf.fL,Kf.mf,Kf.wr (Nat.le_of_lt (Nat.mod_lt _ bY)),Kf.mf]
 exact congrArg Fin.val (by grind)
theorem mM(a e:Nat):a^e%p=(kp a^e).val:=by rw[← Kf.wt,Kf.dQ]
theorem LM(a:Nat):a^(p-2)%p=(Kf.inv (kp a)).val:=by rw[mM];rfl
theorem dd{a:Nat}(ha:a<W^6):Spec Tryz.prog 98 [LV .u64 (D 6 a)] ai [] (IsV (LV .u64 (D 6 (kp a).val))):=bS ha
theorem gE{a b:Nat}(ha:a<W^6)(hb:b<W^6):Spec Tryz.prog 49 [LV .u64 (D 6 a),LV .u64 (D 6 b)] ai [] (IsV (LV .u64 (D 6 (kp a+kp b).val))):=by
 rw[← LL];exact tF ha hb
theorem dK{a b:Nat}(ha:a<W^6)(hb:b<W^6):Spec Tryz.prog 50 [LV .u64 (D 6 a),LV .u64 (D 6 b)] ai [] (IsV (LV .u64 (D 6 (kp a*kp b).val))):=by
 rw[← LN];exact EB ha hb
theorem kM{a b:Nat}(ha:a<W^6)(hb:b<W^6):Spec Tryz.prog 113 [LV .u64 (D 6 a),LV .u64 (D 6 b)] ai [] (IsV (LV .u64 (D 6 (kp a-kp b).val))):=by
 rw[← LP];exact om ha hb
theorem gF{a:Nat}(ha:a<W^6):Spec Tryz.prog 52 [LV .u64 (D 6 a)] ai [] (IsV (LV .u64 (D 6 (- kp a).val))):=by
 rw[← LO];exact tI ha
theorem Ee{a:Nat}(ha:a<W^6):Spec Tryz.prog 111 [LV .u64 (D 6 a)] ai [] (IsV (LV .u64 (D 6 (Kf.inv (kp a)).val))):=by
 rw[← LM];exact EA ha
theorem Ef{a:Nat}(ha:a<W^6)(s:Value)(xs:List Nat)(hx:Lt 18446744073709551616 xs)(hl:xs.length<65536):
  Spec Tryz.prog 95 [LV .u64 (D 6 a),s] (fun w=>Rd w s (xs.map (N .u64))) [] (IsV (LV .u64 (D 6 (kp a^V xs).val))):=by
 rw[← mM];exact EC ha s xs hx hl
theorem gS(x y:Fq):Spec Tryz.prog 49 [LV .u64 (D 6 x.val),LV .u64 (D 6 y.val)] ai [] (IsV (LV .u64 (D 6 (x+y).val))):=by
 have:=gE (ap x) (ap y);rwa [dB,dB]at this
theorem dz(x y:Fq):Spec Tryz.prog 50 [LV .u64 (D 6 x.val),LV .u64 (D 6 y.val)] ai [] (IsV (LV .u64 (D 6 (x*y).val))):=by
 have:=dK (ap x) (ap y);rwa [dB,dB]at this
theorem lK(x y:Fq):Spec Tryz.prog 113 [LV .u64 (D 6 x.val),LV .u64 (D 6 y.val)] ai [] (IsV (LV .u64 (D 6 (x-y).val))):=by
 have:=kM (ap x) (ap y);rwa [dB,dB]at this
theorem jr(x:Fq):Spec Tryz.prog 52 [LV .u64 (D 6 x.val)] ai [] (IsV (LV .u64 (D 6 (-x).val))):=by
 have:=gF (ap x);rwa [dB]at this
theorem lI(x:Fq):Spec Tryz.prog 111 [LV .u64 (D 6 x.val)] ai [] (IsV (LV .u64 (D 6 (Kf.inv x).val))):=by
 have:=Ee (ap x);rwa [dB]at this
theorem Ag(x:Fq):Spec Tryz.prog 98 [LV .u64 (D 6 x.val)] ai [] (IsV (LV .u64 (D 6 x.val))):=by
 have:=dd (ap x);rwa [dB]at this
theorem gM(x y:Fq):(D 6 x.val=D 6 y.val)=(x=y):=by rw[wv (ap x) (ap y)];exact propext ⟨Fin.ext,fun h=>h ▸ rfl⟩
theorem C4:(0:Fq).val=0:=rfl
theorem z6:List.replicate 6 0=D 6 (0:Fq).val:=by rw[C4,nP]
theorem x5:([17185665809301629611,552535377879302143,15693976698673184137,15644892545385841839,10576397981472451381,468449654411884966]:List Nat)=D 6 ((p+1)/4):=by decide +kernel
theorem lJ{a:Nat}(ha:a<W^6):Spec Tryz.prog 97 [LV .u64 (D 6 a)] ai [] (IsV (N .i64 (Kf.sg (kp a)))):=by
 refine ad Tryz.func97 rfl rfl rfl fun w _=>?_
 have hl0:=fun x=>ae 6 x
 have hla:=hl0 (kp a).val
 have hb:=vg (ap (kp a))
 repeat (first|refine y_4 (dd ha) ?_|rw[hb]|refine Z02 ?_|refine Z03 ?_|refine Z04 ?_|refine Z05 ?_|refine Z06 ?_|refine Z07 ?_|refine Z08 ?_|refine Z09 ?_|refine Z10 ?_|refine Z11 ?_|refine Z12 ?_|refine Z13 ?_|refine Z14 ?_|refine Z24 ?_|refine Z26 ?_|refine Z27 ?_|refine Z40 ?_|refine Z44 ?_|refine Z45 ?_|refine Z57 ?_|refine Z67 ?_|refine Z74 ?_|refine Z81 fun _=>?_)
 refine Ze1 fun _ hw=>aa hw SubW.nil ⟨?_,rfl⟩
 rfl
theorem vN:Spec Tryz.prog 94 [] ai [] (IsV (LV .u64 (D 6 ((p+1)/4)))):=by
 refine ad Tryz.func94 rfl rfl rfl fun w _=>?_
 repeat (first|(refine cJ ?_;intro _)|refine bn (kk:=.u64) (vs:=[17185665809301629611,552535377879302143,15693976698673184137,15644892545385841839,10576397981472451381,468449654411884966]) (by rfl) (by rfl) (by rfl) (by rfl) (by rfl) (by rfl) (by rfl) (by rfl) ?_|refine Z03 ?_|refine Z04 ?_|refine Z05 ?_|refine Z06 ?_|refine Z07 ?_|refine Z08 ?_|refine Z09 ?_|refine Z10 ?_|refine Z11 ?_|refine Z12 ?_|refine Z13 ?_|refine Z14 ?_|refine Z29 ?_|refine Z30 ?_|refine Z31 ?_|refine Z32 ?_|refine Z82 fun _=>?_)
 refine Zec fun _ hw=>aa hw SubW.nil ⟨?_,rfl⟩
 rw[← x5];rfl
theorem Tm{a b:Prop}(k:b)(h:Rm b→a:=by intro k;(first|refine Z03 ?_|refine Z04 ?_|refine Z05 ?_|refine Z06 ?_|refine Z07 ?_|refine Z08 ?_|refine Z09 ?_|refine Z10 ?_|refine Z11 ?_|refine Z12 ?_|refine Z13 ?_|refine Z14 ?_|refine Z17 ?_|refine Z18 ?_|refine Z24 ?_|refine Z26 ?_|refine Z27 ?_|refine Z29 ?_|refine Z30 ?_|refine Z31 ?_|refine Z32 ?_|refine Z67 ?_);exact k.h):a:=h ⟨k⟩
theorem GI(x:Fq):Spec Tryz.prog 96 [LV .u64 (D 6 x.val)] ai [] (IsV (LV .u64 (D 6 (Kf.evn x).val))):=by
 refine ad Tryz.func96 rfl rfl rfl fun w _=>?_
 have hl0:=fun x=>ae 6 x
 have hs:=lJ (ap x)
 rw[dB]at hs
 repeat (first|(refine cJ ?_;intro _)|refine y_4 hs ?_|refine Tm ?_|refine Z81 fun _=>?_|refine Z82 fun _=>?_)
 refine an (by rfl) (fun h=>?_) (fun h=>?_)
 ·have he:Kf.evn x = -x:=if_pos h
  repeat (first|refine y_4 (jr x) ?_|refine Tm ?_|refine Z81 fun _=>?_|refine Z82 fun _=>?_)
  refine Zec fun _ hw=>aa hw SubW.nil ⟨?_,rfl⟩
  rw[he]
 ·have he:Kf.evn x=x:=if_neg h
  repeat (first|refine Tm ?_|refine Z81 fun _=>?_|refine Z82 fun _=>?_)
  refine Zec fun _ hw=>aa hw SubW.nil ⟨?_,rfl⟩
  rw[he]
theorem Vd(a:Nat):kp a^V (D 6 ((p+1)/4))=Kf.rt (kp a):=by
 rw[eU (by have:=lQ;omega)];rfl
theorem ij{a b:Prop}(k:b)(h:Rm b→a:=by intro k;refine R.Zpb (by rfl) (by intro _ _ _;refine aq (v:=LV .u64 (List.replicate 6 0)) (by rfl) (by rfl) fun _=>?_;exact R.eO) ?_;exact k.h):a:=h ⟨k⟩
theorem aV{a b:Prop}(k:b)(h:Rm b→a:=by intro k;refine R.Zpn (by rfl) (by intro _ _ _;(first|refine Z81 fun _=>?_|refine Z82 fun _=>?_);exact R.Zpx) ?_;exact k.h):a:=h ⟨k⟩
theorem Tn{a b:Prop}(k:b)(h:Rm b→a:=by intro k;(first|refine Z01 ?_|refine Z02 ?_|refine Z03 ?_|refine Z04 ?_|refine Z05 ?_|refine Z06 ?_|refine Z07 ?_|refine Z08 ?_|refine Z09 ?_|refine Z10 ?_|refine Z11 ?_|refine Z12 ?_|refine Z13 ?_|refine Z14 ?_|refine Z24 ?_|refine Z26 ?_|refine Z27 ?_|refine Z29 ?_|refine Z30 ?_|refine Z31 ?_|refine Z32 ?_|refine Z62 ?_|refine Z63 ?_|refine Z67 ?_|refine Z77 ?_|refine Z78 ?_|refine Z79 ?_);exact k.h):a:=h ⟨k⟩
theorem ur{a b:Prop}(k:b)(h:Rm b→a:=by intro k;refine R.Zpp (by rfl) (by intro _ _ _;(first|refine Wd ?_);exact Zq) ?_;exact k.h):a:=h ⟨k⟩
theorem Ah{a:Nat}(ha:a<W^6):Spec Tryz.prog 48 [LV .u64 (D 6 a)] ai [] (IsV (.tuple [LV .u64 (D 6 (Kf.K2.fsq (kp a)).1.val),.bool (Kf.K2.fsq (kp a)).2].toArray)):=by
 refine ad Tryz.func48 rfl rfl rfl fun w _=>?_
 have hl0:=fun x=>ae 6 x
 have hlq:=hl0 ((p+1)/4)
 have hpw:=fun s=>Ef ha s (D 6 ((p+1)/4)) (dw _ _) (by omega)
 rw[Vd]at hpw
 repeat (first|(refine cJ ?_;intro _)|refine ah (by rfl) (by rfl) (by rfl) (vN) (fun _ _=>trivial) (by rfl) ?_|refine Z01 ?_|refine Z02 ?_|refine Z03 ?_|refine Z04 ?_|refine Z05 ?_|refine Z06 ?_|refine Z07 ?_|refine Z08 ?_|refine Z09 ?_|refine Z10 ?_|refine Z11 ?_|refine Z12 ?_|refine Z13 ?_|refine Z14 ?_|refine Z24 ?_|refine Z26 ?_|refine Z27 ?_|refine Z29 ?_|refine Z30 ?_|refine Z31 ?_|refine Z32 ?_|refine Z62 ?_|refine Z63 ?_|refine Z67 ?_|refine Z77 ?_|refine Z78 ?_|refine Z79 ?_|refine Z81 fun _=>?_|refine Z82 fun _=>?_)
 refine R.af [0,1,2,3,4] (by rfl) ?_
 repeat (first|(refine R.Zpf (by rfl) (by intro _ _ _;(first|refine Z01 ?_|refine Z02 ?_|refine Z62 ?_|refine Z63 ?_|refine Z77 ?_|refine Z78 ?_|refine Z79 ?_);exact Zq) ?_)|refine ur ?_|(refine R.Zpp (by rfl) (by intro _ _ _;refine ah (by rfl) (by rfl) (by rfl) (hpw _) (RdW.arrAll (m:=6) fd hlq) (by rfl) ?_;exact Zq) ?_)|refine aA ?_|(refine ij ?_;intro _)|(refine aV ?_;intro _))
 refine R.Zp0 ?_
 repeat (first|refine Tn ?_|refine Z81 fun _=>?_|refine Z82 fun _=>?_)
 refine au (by rfl) ?_
 repeat (first|(refine Zqf (by intro _ _ _;(first|refine Z01 ?_|refine Z02 ?_|refine Z62 ?_|refine Z63 ?_|refine Z77 ?_|refine Z78 ?_|refine Z79 ?_);exact Zq) ?_)|refine bT (dz (Kf.rt (kp a)) (Kf.rt (kp a))) ?_|refine bT (dd ha) ?_|refine uu ?_)
 refine Zq0 ?_ (by kernel_rfl)
 repeat (first|refine Tn ?_|refine Z81 fun _=>?_|refine Z82 fun _=>?_)
 by_cases h2:Kf.rt (kp a)*Kf.rt (kp a)=kp a
 ·have hq:Kf.K2.fsq (kp a)=(Kf.evn (Kf.rt (kp a)),true):=if_pos h2
  have hb:(!decide (D 6 (Kf.rt (kp a)*Kf.rt (kp a)).val=D 6 (kp a).val))=false:=by rw[h2];simp
  rw[hq,hb]
  have hle:=hl0 (Kf.evn (Kf.rt (kp a))).val
  repeat (first|refine y_4 (GI (Kf.rt (kp a))) ?_|refine Tn ?_|refine Z81 fun _=>?_|refine Z82 fun _=>?_)
  refine aJ (by rfl) (by rfl) (by rfl) fd (by rfl) (by rfl) (by first | with_reducible assumption | (simp[*];done)) fun _ hw=>aa hw SubW.nil ⟨?_,rfl⟩
  rfl
 ·have hq:Kf.K2.fsq (kp a)=(0,false):=if_neg h2
  have hb:(!decide (D 6 (Kf.rt (kp a)*Kf.rt (kp a)).val=D 6 (kp a).val))=true:=by simp[gM,h2]
  rw[hq,hb]
  repeat (first|refine Wc ?_|refine Z01 ?_|refine Z02 ?_|refine Z03 ?_|refine Z04 ?_|refine Z05 ?_|refine Z06 ?_|refine Z07 ?_|refine Z08 ?_|refine Z09 ?_|refine Z10 ?_|refine Z11 ?_|refine Z12 ?_|refine Z13 ?_|refine Z14 ?_|refine Z24 ?_|refine Z26 ?_|refine Z27 ?_|refine Z29 ?_|refine Z30 ?_|refine Z31 ?_|refine Z32 ?_|refine Z62 ?_|refine Z63 ?_|refine Z67 ?_|refine Z77 ?_|refine Z78 ?_|refine Z79 ?_|refine Z81 fun _=>?_|refine Z82 fun _=>?_)
  refine aJ (by rfl) (by rfl) (by rfl) fd (by rfl) (by rfl) (by first | with_reducible assumption | (simp[*];done)) fun _ hw=>aa hw SubW.nil ⟨?_,rfl⟩
  rfl
theorem It(A B:Nat):decide (Int.ofNat 0<vB A B)=decide (B<A):=by
 rcases Nat.lt_trichotomy A B with h | h | h
 ·rw[pN h,decide_eq_false (by omega:¬B<A)];rfl
 ·rw[vC h,decide_eq_false (by omega:¬B<A)];rfl
 ·rw[pM h,decide_eq_true h];rfl
theorem To{a b:Prop}(k:b)(h:Rm b→a:=by intro k;(first|refine Z02 ?_|refine Z03 ?_|refine Z04 ?_|refine Z05 ?_|refine Z06 ?_|refine Z07 ?_|refine Z08 ?_|refine Z09 ?_|refine Z10 ?_|refine Z11 ?_|refine Z12 ?_|refine Z13 ?_|refine Z14 ?_|refine Z17 ?_|refine Z18 ?_|refine Z24 ?_|refine Z26 ?_|refine Z27 ?_|refine Z29 ?_|refine Z30 ?_|refine Z31 ?_|refine Z32 ?_|refine Z62 ?_|refine Z63 ?_|refine Z67 ?_);exact k.h):a:=h ⟨k⟩
theorem Tp{a b:Prop}(k:b)(h:Rm b→a:=by intro k;(first|refine Z02 ?_|refine Z17 ?_|refine Z18 ?_|refine Z62 ?_|refine Z63 ?_);exact k.h):a:=h ⟨k⟩
theorem nU{a:Nat}(ha:a<W^6):Spec Tryz.prog 51 [LV .u64 (D 6 a)] ai [] (IsV (.bool (decide ((- kp a).val<(kp a).val)))):=by
 refine ad Tryz.func51 rfl rfl rfl fun w _=>?_
 have hl0:=fun x=>ae 6 x
 have hlx:=hl0 (kp a).val
 have hly:=hl0 (- kp a).val
 have hv1:=eU (ap (kp a))
 have hv2:=eU (ap (- kp a))
 repeat (first|(refine cJ ?_;intro _)|refine To ?_|refine Z81 fun _=>?_|refine Z82 fun _=>?_)
 refine R.af [0,1,2,3,4,5,6,7] (by rfl) ?_
 repeat (first|(refine R.Zpf (by rfl) (by intro _ _ _;(first|refine Tp ?_);exact Zq) ?_)|refine ur ?_|refine ag (dd ha) ?_|refine ag (gF ha) ?_|refine aA ?_|(refine R.po (by rfl) (by rfl) (by intro _ _ _;refine aq (v:=LV .u64 (List.replicate 6 0)) (by rfl) (by rfl) fun _=>?_;exact R.eO) (by intro _ _ _;refine aq (v:=LV .u64 (List.replicate 6 0)) (by rfl) (by rfl) fun _=>?_;exact R.eO) (fun _=>?_) (fun _=>?_))|(refine ij ?_;intro _)|(refine aV ?_;intro _))
 all_goals
  repeat (first|(refine R.Zpf (by rfl) (by intro _ _ _;(first|refine Tp ?_);exact Zq) ?_)|refine ur ?_|refine ag (dd ha) ?_|refine ag (gF ha) ?_|refine aA ?_|(refine R.po (by rfl) (by rfl) (by intro _ _ _;refine aq (v:=LV .u64 (List.replicate 6 0)) (by rfl) (by rfl) fun _=>?_;exact R.eO) (by intro _ _ _;refine aq (v:=LV .u64 (List.replicate 6 0)) (by rfl) (by rfl) fun _=>?_;exact R.eO) (fun _=>?_) (fun _=>?_))|(refine ij ?_;intro _)|(refine aV ?_;intro _))
 all_goals refine R.Zp0 ?_
 all_goals
  repeat (first|refine To ?_|refine Z81 fun _=>?_|refine Z82 fun _=>?_)
  refine au (by rfl) ?_
  repeat (first|(refine Zqf (by intro _ _ _;(first|refine Tp ?_);exact Zq) ?_)|(refine Zqp (by intro _ _ _;(refine ah (by rfl) (by rfl) (by rfl) (mx _ _ (D 6 (kp a).val) (D 6 (- kp a).val) (dw _ _) (dw _ _) (by omega) (by omega)) (fun w hw=>⟨RdW.arrAll (m:=6) fd hlx w hw,RdW.arrAll (m:=6) fd hly w hw⟩) (by rfl) ?_;rw[hv1,hv2]);exact Zq) ?_)|refine uu ?_)
  refine Zq0 ?_ (by kernel_rfl)
  rw[It]
  repeat (first|refine To ?_|refine Z81 fun _=>?_|refine Z82 fun _=>?_)
  refine Ze1 fun _ hw=>aa hw SubW.nil ⟨?_,rfl⟩
  rfl
end
section
attribute [local irreducible] Code.wp wpList Af bodyPost L.Go ab
open Num
attribute [local simp] ae
abbrev F2:=Kf.K2 p
abbrev k2(a b:Nat):F2:=⟨kp a,kp b⟩
abbrev E2(x:F2):List Nat:=D 6 x.re.val++D 6 x.im.val
theorem bq(x:F2):k2 x.re.val x.im.val=x:=by unfold k2;rw[dB,dB]
theorem ak(x:F2):(E2 x).length=12:=by simp
theorem bI{a b:Prop}(k:b)(h:Rm b→a:=by intro k;refine aq (v:=LV .u64 (List.replicate 12 0)) (by rfl) (by rfl) ?_;exact k.h):a:=h ⟨k⟩
theorem bK{a b:Prop}(k:b)(h:Rm b→a:=by intro k;refine oA (by rfl) (by first | exact(show _=some (0,6)from rfl) | exact(show _=some (6,6)from rfl) | exact(show _=some (0,12)from rfl) | exact(show _=some (12,12)from rfl) | exact(show _=some (24,1)from rfl)) (by rfl) (by rfl) ?_;exact k.h):a:=h ⟨k⟩
theorem eP{a b:Prop}(k:b)(h:Rm b→a:=by intro k;refine cA (by rfl) (by rfl) (by rfl) (by rfl) (by simp;done) (by simp;done) (by rfl) ?_;exact k.h):a:=h ⟨k⟩
theorem nM{a b:Prop}(k:b)(h:Rm b→a:=by intro k;refine Zqp (by intro _ _ _;(refine bJ (by rfl) fd (by rfl) (by rfl) (by first | (refine ab.l ?_;(simp;done)) | (refine ab.r ?_ ?_ <;> (simp;done)) | (refine ab.all ?_;(simp;done))) (by rfl) ?_);exact Zq) ?_;exact k.h):a:=h ⟨k⟩
theorem VM{a b:Prop}(k:b)(h:Rm b→a:=by intro k;(first|refine bK ?_|refine eP ?_);exact k.h):a:=h ⟨k⟩
theorem VY{a b:Prop}(k:b)(h:Rm b→a:=by intro k;refine Zqf (by intro _ _ _;(first|refine VM ?_);exact Zq) ?_;exact k.h):a:=h ⟨k⟩
theorem sx{a b:Prop}(k:b)(h:Rm b→a:=by intro k;(first|refine VY ?_|refine nM ?_);exact k.h):a:=h ⟨k⟩
theorem kU{a b:Nat}(ha:a<W^6)(hb:b<W^6):Spec Tryz.prog 108 [LV .u64 (D 6 a++D 6 b)] ai [] (IsV (LV .u64 (E2 (k2 a b)))):=by
 refine ad Tryz.func108 rfl rfl rfl fun w _=>?_
 have hl0:=fun x=>ae 6 x
 repeat (first|(refine bI ?_;intro _)|refine bV ?_|refine Z81 fun _=>?_|refine Z82 fun _=>?_)
 refine au (by rfl) ?_
 repeat (first|refine sx ?_|refine bT (dd ha) ?_|refine bT (dd hb) ?_|refine fu ?_)
 refine Zq0 ?_ (by kernel_rfl)
 repeat (first|refine bV ?_|refine Z81 fun _=>?_|refine Z82 fun _=>?_)
 refine Zec fun _ hw=>aa hw SubW.nil ⟨?_,rfl⟩
 rfl
theorem ET{a b e f:Nat}(ha:a<W^6)(hb:b<W^6)(he:e<W^6)(hf:f<W^6):Spec Tryz.prog 56 [LV .u64 (D 6 a++D 6 b),LV .u64 (D 6 e++D 6 f)] ai [] (IsV (LV .u64 (E2 (Kf.K2.add (k2 a b) (k2 e f))))):=by
 refine ad Tryz.func56 rfl rfl rfl fun w _=>?_
 have hl0:=fun x=>ae 6 x
 repeat (first|(refine bI ?_;intro _)|refine bV ?_|refine Z81 fun _=>?_|refine Z82 fun _=>?_)
 refine au (by rfl) ?_
 repeat (first|refine sx ?_|refine bT (gE ha he) ?_|refine bT (gE hb hf) ?_|refine fu ?_)
 refine Zq0 ?_ (by kernel_rfl)
 repeat (first|refine bV ?_|refine Z81 fun _=>?_|refine Z82 fun _=>?_)
 refine Zec fun _ hw=>aa hw SubW.nil ⟨?_,rfl⟩
 rfl
theorem tO{a b:Nat}(ha:a<W^6)(hb:b<W^6):Spec Tryz.prog 59 [LV .u64 (D 6 a++D 6 b)] ai [] (IsV (LV .u64 (E2 (Kf.K2.neg (k2 a b))))):=by
 refine ad Tryz.func59 rfl rfl rfl fun w _=>?_
 have hl0:=fun x=>ae 6 x
 repeat (first|(refine bI ?_;intro _)|refine bV ?_|refine Z81 fun _=>?_|refine Z82 fun _=>?_)
 refine au (by rfl) ?_
 repeat (first|refine sx ?_|refine bT (gF ha) ?_|refine bT (gF hb) ?_|refine fu ?_)
 refine Zq0 ?_ (by kernel_rfl)
 repeat (first|refine bV ?_|refine Z81 fun _=>?_|refine Z82 fun _=>?_)
 refine Zec fun _ hw=>aa hw SubW.nil ⟨?_,rfl⟩
 rfl
theorem E4{a b e f:Nat}(ha:a<W^6)(hb:b<W^6)(he:e<W^6)(hf:f<W^6):Spec Tryz.prog 63 [LV .u64 (D 6 a++D 6 b),LV .u64 (D 6 e++D 6 f)] ai [] (IsV (LV .u64 (E2 (Kf.K2.sub (k2 a b) (k2 e f))))):=by
 refine ad Tryz.func63 rfl rfl rfl fun w _=>?_
 have hl0:=fun x=>ae 6 x
 repeat (first|(refine bI ?_;intro _)|refine bV ?_|refine Z81 fun _=>?_|refine Z82 fun _=>?_)
 refine au (by rfl) ?_
 repeat (first|refine sx ?_|refine bT (kM ha he) ?_|refine bT (kM hb hf) ?_|refine fu ?_)
 refine Zq0 ?_ (by kernel_rfl)
 repeat (first|refine bV ?_|refine Z81 fun _=>?_|refine Z82 fun _=>?_)
 refine Zec fun _ hw=>aa hw SubW.nil ⟨?_,rfl⟩
 rfl
theorem JG{a b:Nat}(ha:a<W^6)(hb:b<W^6):Spec Tryz.prog 165 [LV .u64 (D 6 a++D 6 b)] ai [] (IsV (LV .u64 (E2 ⟨kp a-kp b,kp a+kp b⟩))):=by
 refine ad Tryz.func165 rfl rfl rfl fun w _=>?_
 have hl0:=fun x=>ae 6 x
 repeat (first|(refine bI ?_;intro _)|refine bV ?_|refine Z81 fun _=>?_|refine Z82 fun _=>?_)
 refine au (by rfl) ?_
 repeat (first|refine sx ?_|refine bT (kM ha hb) ?_|refine bT (gE ha hb) ?_|refine fu ?_)
 refine Zq0 ?_ (by kernel_rfl)
 repeat (first|refine bV ?_|refine Z81 fun _=>?_|refine Z82 fun _=>?_)
 refine Zec fun _ hw=>aa hw SubW.nil ⟨?_,rfl⟩
 rfl
theorem rH{a b:Nat}(ha:a<W^6)(hb:b<W^6):Spec Tryz.prog 118 [LV .u64 (D 6 a++D 6 b)] ai [] (IsV (LV .u64 (E2 (Kf.K2.conj (k2 a b))))):=by
 refine ad Tryz.func118 rfl rfl rfl fun w _=>?_
 have hl0:=fun x=>ae 6 x
 repeat (first|(refine bI ?_;intro _)|refine bV ?_|refine Z81 fun _=>?_|refine Z82 fun _=>?_)
 refine au (by rfl) ?_
 repeat (first|refine sx ?_|refine bT (dd ha) ?_|refine bT (gF hb) ?_|refine fu ?_)
 refine Zq0 ?_ (by kernel_rfl)
 repeat (first|refine bV ?_|refine Z81 fun _=>?_|refine Z82 fun _=>?_)
 refine Zec fun _ hw=>aa hw SubW.nil ⟨?_,rfl⟩
 rfl
theorem yi{a b e:Nat}(ha:a<W^6)(hb:b<W^6)(he:e<W^6):Spec Tryz.prog 117 [LV .u64 (D 6 a++D 6 b),LV .u64 (D 6 e)] ai [] (IsV (LV .u64 (E2 (Kf.K2.gp (k2 a b) (kp e))))):=by
 refine ad Tryz.func117 rfl rfl rfl fun w _=>?_
 have hl0:=fun x=>ae 6 x
 repeat (first|(refine bI ?_;intro _)|refine bV ?_|refine Z81 fun _=>?_|refine Z82 fun _=>?_)
 refine au (by rfl) ?_
 repeat (first|refine sx ?_|refine bT (dK ha he) ?_|refine bT (dK hb he) ?_|refine fu ?_)
 refine Zq0 ?_ (by kernel_rfl)
 repeat (first|refine bV ?_|refine Z81 fun _=>?_|refine Z82 fun _=>?_)
 refine Zec fun _ hw=>aa hw SubW.nil ⟨?_,rfl⟩
 rfl
theorem EZ(u v a b e f:Nat)(ha:a<W^6)(hb:b<W^6)(he:e<W^6)(hf:f<W^6):Spec Tryz.prog 112 [pt u 0,pt v 0] (fun w=>eN w u (LV .u64 (D 6 a++D 6 b)) 34∧eN w v (LV .u64 (D 6 e++D 6 f)) 34) [] (IsV (LV .u64 (D 6 ((kp a+kp b)*(kp e+kp f)).val))):=by
 refine ad Tryz.func112 rfl rfl rfl fun w hr=>?_
 have h1:=OldB.mk0 hr.1
 have h2:=OldB.mk0 hr.2
 have hl0:=fun x=>ae 6 x
 repeat (first|(refine cJ ?_;intro _)|refine bV ?_|refine Z82 fun _=>?_)
 refine au (by rfl) ?_
 repeat (first|(refine Zqf (by intro _ _ _;(first|(refine ep (by rfl) ((h1).shift (by assumption)) (by rfl) (by rfl) (by first | (refine ab.l ?_;(simp;done)) | (refine ab.r ?_ ?_ <;> (simp;done)) | (refine ab.all ?_;(simp;done))) (by rfl) ?_)|(refine ep (by rfl) ((h2).shift (by assumption)) (by rfl) (by rfl) (by first | (refine ab.l ?_;(simp;done)) | (refine ab.r ?_ ?_ <;> (simp;done)) | (refine ab.all ?_;(simp;done))) (by rfl) ?_)|refine bK ?_);exact Zq) ?_)|refine nM ?_|refine bT (gE ha hb) ?_|refine bT (gE he hf) ?_|refine bT (dz (kp a+kp b) (kp e+kp f)) ?_|refine fu ?_)
 refine Zq0 ?_ (by kernel_rfl)
 repeat (first|refine bV ?_|refine Z82 fun _=>?_)
 refine Zec fun _ hw=>aa hw SubW.nil ⟨?_,rfl⟩
 rfl
theorem zw{a b:Prop}(k:b)(h:Rm b→a:=by intro k;(first|refine Z01 ?_|refine Z02 ?_|refine Z03 ?_|refine Z04 ?_|refine Z05 ?_|refine Z06 ?_|refine Z07 ?_|refine Z08 ?_|refine Z09 ?_|refine Z10 ?_|refine Z11 ?_|refine Z12 ?_|refine Z13 ?_|refine Z14 ?_|refine Z24 ?_|refine Z26 ?_|refine Z27 ?_|refine Z29 ?_|refine Z30 ?_|refine Z31 ?_|refine Z32 ?_|refine Z48 ?_|refine Z67 ?_);exact k.h):a:=h ⟨k⟩
theorem cz{a b:Prop}(k:b)(h:Rm b→a:=by intro k;refine R.Zpp (by rfl) (by intro _ _ _;(refine bJ (by rfl) fd (by rfl) (by rfl) (by first | (refine ab.l ?_;(simp;done)) | (refine ab.r ?_ ?_ <;> (simp;done)) | (refine ab.all ?_;(simp;done))) (by rfl) ?_);exact Zq) ?_;exact k.h):a:=h ⟨k⟩
theorem Kr{a b:Prop}(k:b)(h:Rm b→a:=by intro k;(first|refine bK ?_|refine eP ?_|refine Z01 ?_|refine Z02 ?_|refine Z48 ?_);exact k.h):a:=h ⟨k⟩
theorem aL{a b:Prop}(k:b)(h:Rm b→a:=by intro k;refine R.Zpp (by rfl) (by intro _ _ _;(first|refine y_7 ?_);exact Zq) ?_;exact k.h):a:=h ⟨k⟩
set_option maxHeartbeats 4000000 in
theorem gL{a b e f:Nat}(ha:a<W^6)(hb:b<W^6)(he:e<W^6)(hf:f<W^6):Spec Tryz.prog 57 [LV .u64 (D 6 a++D 6 b),LV .u64 (D 6 e++D 6 f)] ai [] (IsV (LV .u64 (E2 (Kf.K2.mul (k2 a b) (k2 e f))))):=by
 refine ad Tryz.func57 rfl rfl rfl fun w _=>?_
 have hl0:=fun x=>ae 6 x
 have hmix:(kp a+kp b)*(kp e+kp f)-(kp a*kp e+kp b*kp f)=kp a*kp f+kp b*kp e:=by grind
 repeat (first|(refine bI ?_;intro _)|refine zw ?_|refine Z81 fun _=>?_|refine Z82 fun _=>?_)
 refine R.af [0,1,2,3,4,5,6,7,8,9,10,11,12,13] (by rfl) ?_
 repeat (first|(refine R.Zpf (by rfl) (by intro _ _ _;(first|refine Kr ?_);exact Zq) ?_)|refine aL ?_|refine cz ?_|refine ag (dK ha he) ?_|refine ag (dK hb hf) ?_|refine aA ?_|(refine R.po (by rfl) (by rfl) (by intro _ _ _;refine aq (v:=LV .u64 (List.replicate 6 0)) (by rfl) (by rfl) fun _=>?_;exact R.eO) (by intro _ _ _;refine aq (v:=LV .u64 (List.replicate 6 0)) (by rfl) (by rfl) fun _=>?_;exact R.eO) (fun _=>?_) (fun _=>?_))|(refine ij ?_;intro _)|(refine aV ?_;intro _))
 all_goals
  repeat (first|(refine R.Zpf (by rfl) (by intro _ _ _;(first|refine Kr ?_);exact Zq) ?_)|refine aL ?_|refine cz ?_|refine ag (dK ha he) ?_|refine ag (dK hb hf) ?_|refine aA ?_|(refine R.po (by rfl) (by rfl) (by intro _ _ _;refine aq (v:=LV .u64 (List.replicate 6 0)) (by rfl) (by rfl) fun _=>?_;exact R.eO) (by intro _ _ _;refine aq (v:=LV .u64 (List.replicate 6 0)) (by rfl) (by rfl) fun _=>?_;exact R.eO) (fun _=>?_) (fun _=>?_))|(refine ij ?_;intro _)|(refine aV ?_;intro _))
 all_goals refine R.Zp0 ?_
 all_goals
  repeat (first|refine zw ?_|refine Z81 fun _=>?_|refine Z82 fun _=>?_)
  refine au (by rfl) ?_
  repeat (first|(refine Zqf (by intro _ _ _;(first|refine Kr ?_);exact Zq) ?_)|refine nM ?_|refine bT (lK (kp a*kp e) (kp b*kp f)) ?_|refine bT (gS (kp a*kp e) (kp b*kp f)) ?_|(refine Zqp (by intro _ _ _;refine ah (by rfl) (by rfl) (by rfl) (EZ _ _ a b e f ha hb he hf) (fun w hw=>⟨eN.own fd w hw,eN.own fd w hw⟩) (by rfl) ?_;exact Zq) ?_)|(refine Zqp (by intro _ _ _;(refine ah (by rfl) (by rfl) (by rfl) (lK ((kp a+kp b)*(kp e+kp f)) (kp a*kp e+kp b*kp f)) (fun _ _=>trivial) (by rfl) ?_;rw[hmix]);exact Zq) ?_)|refine fu ?_)
  refine Zq0 ?_ (by kernel_rfl)
  repeat (first|refine zw ?_|refine Z81 fun _=>?_|refine Z82 fun _=>?_)
  refine Zec fun _ hw=>aa hw SubW.nil ⟨?_,rfl⟩
  rfl
theorem aF(x y:F2):Spec Tryz.prog 57 [LV .u64 (E2 x),LV .u64 (E2 y)] ai [] (IsV (LV .u64 (E2 (Kf.K2.mul x y)))):=by
 have:=gL (ap x.re) (ap x.im) (ap y.re) (ap y.im);rwa [bq,bq]at this
theorem cV(x y:F2):Spec Tryz.prog 56 [LV .u64 (E2 x),LV .u64 (E2 y)] ai [] (IsV (LV .u64 (E2 (Kf.K2.add x y)))):=by
 have:=ET (ap x.re) (ap x.im) (ap y.re) (ap y.im);rwa [bq,bq]at this
theorem bG(x y:F2):Spec Tryz.prog 63 [LV .u64 (E2 x),LV .u64 (E2 y)] ai [] (IsV (LV .u64 (E2 (Kf.K2.sub x y)))):=by
 have:=E4 (ap x.re) (ap x.im) (ap y.re) (ap y.im);rwa [bq,bq]at this
theorem o0(x:F2):Spec Tryz.prog 59 [LV .u64 (E2 x)] ai [] (IsV (LV .u64 (E2 (Kf.K2.neg x)))):=by
 have:=tO (ap x.re) (ap x.im);rwa [bq]at this
theorem CJ(x:F2):Spec Tryz.prog 108 [LV .u64 (E2 x)] ai [] (IsV (LV .u64 (E2 x))):=by
 have:=kU (ap x.re) (ap x.im);rwa [bq]at this
theorem Sn(x:F2):Spec Tryz.prog 118 [LV .u64 (E2 x)] ai [] (IsV (LV .u64 (E2 (Kf.K2.conj x)))):=by
 have:=rH (ap x.re) (ap x.im);rwa [bq]at this
theorem Xa(x:F2):Spec Tryz.prog 165 [LV .u64 (E2 x)] ai [] (IsV (LV .u64 (E2 ⟨x.re-x.im,x.re+x.im⟩))):=by
 have:=JG (ap x.re) (ap x.im);rwa [dB,dB]at this
theorem CK(x:F2)(k:Fq):Spec Tryz.prog 117 [LV .u64 (E2 x),LV .u64 (D 6 k.val)] ai [] (IsV (LV .u64 (E2 (Kf.K2.gp x k)))):=by
 have:=yi (ap x.re) (ap x.im) (ap k);rwa [bq,dB]at this
theorem jX(x y:F2):(decide (D 6 x.re.val=D 6 y.re.val)&&decide (D 6 x.im.val=D 6 y.im.val))=decide (x=y):=by
 rw[← Bool.decide_and]
 refine decide_eq_decide.2 ?_
 rw[gM,gM]
 exact⟨fun h=>Kf.K2.ext' h.1 h.2,fun h=>h ▸ ⟨rfl,rfl⟩⟩
set_option maxHeartbeats 4000000 in
theorem EY{a b:Nat}(ha:a<W^6)(hb:b<W^6):Spec Tryz.prog 64 [LV .u64 (D 6 a++D 6 b)] ai [] (IsV (LV .u64 (E2 (Kf.K2.inv (k2 a b))))):=by
 refine ad Tryz.func64 rfl rfl rfl fun w _=>?_
 have hl0:=fun x=>ae 6 x
 repeat (first|(refine bI ?_;intro _)|refine bV ?_|refine Z81 fun _=>?_|refine Z82 fun _=>?_)
 refine R.af [0,1,2,3,4,5,6,7,8,9,10,11,12] (by rfl) ?_
 repeat (first|(refine R.Zpf (by rfl) (by intro _ _ _;(first|refine bK ?_);exact Zq) ?_)|refine aL ?_|refine cz ?_|refine ag (dK ha ha) ?_|refine ag (dK hb hb) ?_|refine ag (gS (kp a*kp a) (kp b*kp b)) ?_|refine aA ?_|(refine ij ?_;intro _)|(refine aV ?_;intro _))
 refine R.Zp0 ?_
 repeat (first|refine bV ?_|refine Z81 fun _=>?_|refine Z82 fun _=>?_)
 refine au (by rfl) ?_
 repeat (first|(refine Zqf (by intro _ _ _;(first|refine bK ?_);exact Zq) ?_)|refine nM ?_|refine bT (rH ha hb) ?_|refine bT (lI (kp a*kp a+kp b*kp b)) ?_|refine bT (CK (Kf.K2.conj (k2 a b)) (Kf.inv (kp a*kp a+kp b*kp b))) ?_|refine fu ?_)
 refine Zq0 ?_ (by kernel_rfl)
 repeat (first|refine bV ?_|refine Z81 fun _=>?_|refine Z82 fun _=>?_)
 refine Zec fun _ hw=>aa hw SubW.nil ⟨?_,rfl⟩
 rfl
theorem kw(x:F2):Spec Tryz.prog 64 [LV .u64 (E2 x)] ai [] (IsV (LV .u64 (E2 (Kf.K2.inv x)))):=by
 have:=EY (ap x.re) (ap x.im);rwa [bq]at this
abbrev hv:Fq:=Kf.K2.hv p
theorem Hu:([15924587544893707606,1105070755758604287,12941209323636816658,12843041017062132063,2706051889235351147,936899308823769933]:List Nat)=D 6 ((p+1)/2%p):=by decide +kernel
theorem qQ:Spec Tryz.prog 110 [] ai [] (IsV (LV .u64 (D 6 hv.val))):=by
 refine ad Tryz.func110 rfl rfl rfl fun w _=>?_
 repeat (first|(refine cJ ?_;intro _)|refine bn (kk:=.u64) (vs:=[15924587544893707606,1105070755758604287,12941209323636816658,12843041017062132063,2706051889235351147,936899308823769933]) (by rfl) (by rfl) (by rfl) (by rfl) (by rfl) (by rfl) (by rfl) (by rfl) ?_|refine Z03 ?_|refine Z04 ?_|refine Z05 ?_|refine Z06 ?_|refine Z07 ?_|refine Z08 ?_|refine Z09 ?_|refine Z10 ?_|refine Z11 ?_|refine Z12 ?_|refine Z13 ?_|refine Z14 ?_|refine Z29 ?_|refine Z30 ?_|refine Z31 ?_|refine Z32 ?_|refine Z82 fun _=>?_)
 refine Zec fun _ hw=>aa hw SubW.nil ⟨?_,rfl⟩
 rw[show hv.val=(p+1)/2%p from rfl,← Hu];rfl
theorem Ts:([]++List.replicate (6-([]:List Nat).length) 0:List Nat)=D 6 (0:Fq).val:=by rw[C4];exact P0
theorem uX(x:Fq):Spec Tryz.prog 48 [LV .u64 (D 6 x.val)] ai [] (IsV (.tuple [LV .u64 (D 6 (Kf.K2.fsq x).1.val),.bool (Kf.K2.fsq x).2].toArray)):=by
 have:=Ah (ap x);rwa [dB]at this
def kZ(x:Fq):Bool:=decide ((-x).val<x.val)
def il(x:F2):Bool:=if x.im=0 then kZ x.re else kZ x.im
theorem wn{a b:Prop}(k:b)(h:Rm b→a:=by intro k;refine bn (kk:=.u64) (vs:=[]) (by rfl) (by rfl) (by rfl) (by rfl) (by rfl) (by rfl) (by rfl) (by rfl) ?_;rw[Ts];exact k.h):a:=h ⟨k⟩
theorem eQ{a b:Prop}(k:b)(h:Rm b→a:=by intro k;refine bJ (by rfl) fd (by rfl) (by rfl) (by first | (refine ab.l ?_;(simp;done)) | (refine ab.r ?_ ?_ <;> (simp;done)) | (refine ab.all ?_;(simp;done))) (by rfl) ?_;exact k.h):a:=h ⟨k⟩
theorem fo{a b:Prop}(k:b)(h:Rm b→a:=by intro k;refine jG (by rfl) (by rfl) (by rfl) (by rfl) ?_;exact k.h):a:=h ⟨k⟩
theorem fI{a b:Prop}(k:b)(h:Rm b→a:=by intro k;refine Jr (by rfl) (by rfl) (by rfl) (by kernel_rfl) (by rfl) (by rfl) (by rfl) (by rfl) (by rfl) (by rfl) (by rfl) (by rfl) (by rfl) (by rfl) (by kernel_rfl) (by simp;done) (by simp;done) (by simp;done) (by simp;done) (by rfl) ?_;exact k.h):a:=h ⟨k⟩
theorem FK{a b:Prop}(k:b)(h:Rm b→a:=by intro k;(first|refine Z02 ?_|refine Z03 ?_|refine Z04 ?_|refine Z05 ?_|refine Z06 ?_|refine Z07 ?_|refine Z08 ?_|refine Z09 ?_|refine Z10 ?_|refine Z11 ?_|refine Z12 ?_|refine Z13 ?_|refine Z14 ?_|refine Z24 ?_|refine Z26 ?_|refine Z27 ?_|refine Z67 ?_|refine Z77 ?_|refine Z78 ?_|refine Z79 ?_);exact k.h):a:=h ⟨k⟩
theorem Dr{a b:Prop}(k:b)(h:Rm b→a:=by intro k;(first|refine bK ?_|refine eQ ?_|refine fo ?_|refine fI ?_);exact k.h):a:=h ⟨k⟩
theorem rO{a b:Nat}(ha:a<W^6)(hb:b<W^6):Spec Tryz.prog 87 [LV .u64 (D 6 a++D 6 b)] ai [] (IsV (N .i64 (Kf.K2.sgn (k2 a b)))):=by
 refine ad Tryz.func87 rfl rfl rfl fun w _=>?_
 have hl0:=fun x=>ae 6 x
 repeat (first|refine wn ?_|refine bK ?_|refine eQ ?_|refine fo ?_|refine fI ?_|refine y_4 (dd ha) ?_|refine FK ?_|refine Z81 fun _=>?_)
 refine an (by rfl) (fun h=>?_) (fun h=>?_)
 ·rw[gM]at h
  have hs:Kf.K2.sgn (k2 a b)=Kf.sg (kp b):=if_pos h
  repeat (first|refine Dr ?_|refine y_4 (lJ hb) ?_|refine FK ?_|refine Z81 fun _=>?_)
  refine Ze1 fun _ hw=>aa hw SubW.nil ⟨?_,rfl⟩
  rw[hs]
 ·rw[gM]at h
  have hs:Kf.K2.sgn (k2 a b)=Kf.sg (kp a):=if_neg h
  repeat (first|refine Dr ?_|refine y_4 (lJ ha) ?_|refine FK ?_|refine Z81 fun _=>?_)
  refine Ze1 fun _ hw=>aa hw SubW.nil ⟨?_,rfl⟩
  rw[hs]
theorem EU{a b:Nat}(ha:a<W^6)(hb:b<W^6):Spec Tryz.prog 58 [LV .u64 (D 6 a++D 6 b)] ai [] (IsV (.bool (il (k2 a b)))):=by
 refine ad Tryz.func58 rfl rfl rfl fun w _=>?_
 have hl0:=fun x=>ae 6 x
 repeat (first|refine wn ?_|refine bK ?_|refine eQ ?_|refine fo ?_|refine fI ?_|refine y_4 (dd hb) ?_|refine FK ?_|refine Z81 fun _=>?_)
 refine an (by rfl) (fun h=>?_) (fun h=>?_)
 ·rw[gM]at h
  have hs:il (k2 a b)=kZ (kp a):=if_pos h
  repeat (first|refine Dr ?_|refine y_4 (nU ha) ?_|refine FK ?_|refine Z81 fun _=>?_)
  refine Ze1 fun _ hw=>aa hw SubW.nil ⟨?_,rfl⟩
  rw[hs];rfl
 ·rw[gM]at h
  have hs:il (k2 a b)=kZ (kp b):=if_neg h
  repeat (first|refine Dr ?_|refine y_4 (nU hb) ?_|refine FK ?_|refine Z81 fun _=>?_)
  refine Ze1 fun _ hw=>aa hw SubW.nil ⟨?_,rfl⟩
  rw[hs];rfl
theorem AW(x:F2):Spec Tryz.prog 87 [LV .u64 (E2 x)] ai [] (IsV (N .i64 (Kf.K2.sgn x))):=by
 have:=rO (ap x.re) (ap x.im);rwa [bq]at this
theorem ww{x y:F2}(h:x=y):E2 x=E2 y:=by rw[h]
theorem NL{a b:Fq}{o:F2}(ho:o=⟨a,b⟩):D 6 a.val++D 6 b.val=E2 o:=by rw[ho]
theorem Tq{S1 a b:Prop}(s1:S1)(k:b)(h:S1→Rm b→a:=by intro s1 k;refine ep (by rfl) s1 (by rfl) (by rfl) (by first | (refine ab.l ?_;(simp;done)) | (refine ab.r ?_ ?_ <;> (simp;done)) | (refine ab.all ?_;(simp;done))) (by rfl) ?_;exact k.h):a:=h s1 ⟨k⟩
theorem ik{a b:Prop}(k:b)(h:Rm b→a:=by intro k;(first|refine Z01 ?_|refine Z02 ?_|refine Z03 ?_|refine Z04 ?_|refine Z05 ?_|refine Z06 ?_|refine Z07 ?_|refine Z08 ?_|refine Z09 ?_|refine Z10 ?_|refine Z11 ?_|refine Z12 ?_|refine Z13 ?_|refine Z14 ?_|refine Z17 ?_|refine Z18 ?_|refine Z19 ?_|refine Z24 ?_|refine Z26 ?_|refine Z27 ?_|refine Z29 ?_|refine Z30 ?_|refine Z31 ?_|refine Z32 ?_|refine Z49 ?_|refine Z50 ?_|refine Z51 ?_|refine Z52 ?_|refine Z67 ?_|refine Z77 ?_|refine Z78 ?_|refine Z79 ?_);exact k.h):a:=h ⟨k⟩
theorem NF{a b:Prop}(k:b)(h:Rm b→a:=by intro k;(first|refine Z01 ?_|refine Z02 ?_|refine Z17 ?_|refine Z18 ?_|refine Z19 ?_|refine Z49 ?_|refine Z50 ?_|refine Z77 ?_|refine Z78 ?_|refine Z79 ?_);exact k.h):a:=h ⟨k⟩
theorem Ks{a b:Prop}(k:b)(h:Rm b→a:=by intro k;(first|refine bK ?_|refine eQ ?_|refine eP ?_|refine fo ?_|refine fI ?_);exact k.h):a:=h ⟨k⟩
theorem Pl{a b:Prop}(k:b)(h:Rm b→a:=by intro k;(first|refine bK ?_|refine eP ?_|refine fo ?_|refine fI ?_|refine Z01 ?_|refine Z02 ?_|refine Z17 ?_|refine Z18 ?_|refine Z19 ?_|refine Z49 ?_|refine Z50 ?_|refine Z77 ?_|refine Z78 ?_|refine Z79 ?_);exact k.h):a:=h ⟨k⟩
theorem Ds{a b:Prop}(k:b)(h:Rm b→a:=by intro k;(first|refine bK ?_|refine eP ?_|refine fo ?_|refine fI ?_);exact k.h):a:=h ⟨k⟩
theorem VZ{a b:Prop}(k:b)(h:Rm b→a:=by intro k;refine Zqf (by intro _ _ _;(first|refine Pl ?_);exact Zq) ?_;exact k.h):a:=h ⟨k⟩
theorem DD{a b:Prop}(k:b)(h:Rm b→a:=by intro k;(first|refine VZ ?_|refine nM ?_|refine sv ?_|refine ga ?_|refine Zqn ?_);exact k.h):a:=h ⟨k⟩
set_option maxHeartbeats 4000000 in
theorem yQ(u:Nat)(x:F2)(m:Fq):Spec Tryz.prog 109 [LV .u64 (D 6 m.val),pt u 0] (fun w=>eN w u (LV .u64 (E2 x)) 34) [] (IsV (.tuple [LV .u64 (E2 (Kf.K2.f8 x m).1),.bool (Kf.K2.f8 x m).2].toArray)):=by
 refine ad Tryz.func109 rfl rfl rfl fun w hr=>?_
 have h1:=OldB.mk0 hr
 have hl0:=fun x=>ae 6 x
 repeat (first|(refine bI ?_;intro _)|(refine cJ ?_;intro _)|refine Tq h1 ?_|refine Ks ?_|refine y_4 (gS x.re m) ?_|refine ah (by rfl) (by rfl) (by rfl) (qQ) (fun _ _=>trivial) (by rfl) ?_|refine y_4 (dz (x.re+m) hv) ?_|refine y_4 (uX ((x.re+m)*hv)) ?_|refine ik ?_|refine Z81 fun _=>?_|refine Z82 fun _=>?_)
 obtain⟨s,hs⟩:∃s,s=Kf.K2.fsq ((x.re+m)*hv):=⟨_,rfl⟩
 rw[← hs]
 refine R.af [0,1,2,3,4,5,6,7,8] (by rfl) ?_
 repeat (first|(refine R.Zpf (by rfl) (by intro _ _ _;(first|(refine ep (by rfl) ((h1).shift (by assumption)) (by rfl) (by rfl) (by first | (refine ab.l ?_;(simp;done)) | (refine ab.r ?_ ?_ <;> (simp;done)) | (refine ab.all ?_;(simp;done))) (by rfl) ?_)|refine Pl ?_);exact Zq) ?_)|refine aL ?_|refine cz ?_|(refine R.Zpp (by rfl) (by intro _ _ _;refine ah (by rfl) (by rfl) (by rfl) (qQ) (fun _ _=>trivial) (by rfl) ?_;exact Zq) ?_)|refine ag (dz x.im hv) ?_|refine ag (lI s.1) ?_|refine ag (dz (x.im*hv) (Kf.inv s.1)) ?_|refine aA ?_|(refine ij ?_;intro _)|(refine aV ?_;intro _))
 refine R.Zp0 ?_
 repeat (first|refine wn ?_|refine Z01 ?_|refine Z02 ?_|refine Z03 ?_|refine Z04 ?_|refine Z05 ?_|refine Z06 ?_|refine Z07 ?_|refine Z08 ?_|refine Z09 ?_|refine Z10 ?_|refine Z11 ?_|refine Z12 ?_|refine Z13 ?_|refine Z14 ?_|refine Z17 ?_|refine Z18 ?_|refine Z19 ?_|refine Z24 ?_|refine Z26 ?_|refine Z27 ?_|refine Z29 ?_|refine Z30 ?_|refine Z31 ?_|refine Z32 ?_|refine Z49 ?_|refine Z50 ?_|refine Z51 ?_|refine Z52 ?_|refine Z67 ?_|refine Z77 ?_|refine Z78 ?_|refine Z79 ?_|refine Z81 fun _=>?_|refine Z82 fun _=>?_)
 refine an (by rfl) (fun h=>?_) (fun h=>?_)
 ·rw[gM]at h
  obtain⟨o,ho⟩:∃o:F2,o=⟨s.1,(Kf.K2.fsq (-x.re)).1⟩:=⟨_,rfl⟩
  have hv0:=NL ho
  have hT:=Kf.K2.SW hs h ho
  have hsg:=AW o
  obtain⟨g,hg⟩:∃g,g=Kf.K2.sgn o:=⟨_,rfl⟩
  rw[← hg]at hsg
  have hlo:=ak o
  have hln:=ak (Kf.K2.neg o)
  have hle:=ak (Kf.K2.dk o)
  clear hs ho
  repeat (first|(refine cA (by rfl) (by rfl) (by rfl) (by rfl) (by simp;done) (by simp;done) (by rfl) ?_;rw[hv0])|refine Ks ?_|(refine bI ?_;intro _)|(refine cJ ?_;intro _)|refine y_4 hsg ?_|refine y_4 (jr x.re) ?_|refine y_4 (uX (-x.re)) ?_|refine Tq h1 ?_|refine ik ?_|refine Z81 fun _=>?_|refine Z82 fun _=>?_)
  refine an (by rfl) (fun hc=>?_) (fun hc=>?_)
  ·have he:=Kf.K2.GH hg hc
   repeat (first|refine y_4 (o0 o) ?_|refine ik ?_|refine Z81 fun _=>?_|refine Z82 fun _=>?_)
   rw[← he]
   cases hB:(Kf.K2.fsq (-x.re)).2 with
   | false=>
    rw[hB]at hT
    rw[hT]
    repeat (first|refine ik ?_|refine Z81 fun _=>?_|refine Z82 fun _=>?_)
    refine au (by rfl) ?_
    repeat (first|refine DD ?_)
    refine Zq0 ?_ (by kernel_rfl)
    repeat (first|refine ik ?_|refine Z81 fun _=>?_|refine Z82 fun _=>?_)
    refine aJ (by rfl) (by rfl) (by rfl) fd (by rfl) (by rfl) (by first | with_reducible assumption | (simp[*];done)) fun _ hw=>aa hw SubW.nil ⟨?_,rfl⟩
    rfl
   | true=>
    rw[hB]at hT
    rw[hT]
    have hE2:=jX (Kf.K2.mul (Kf.K2.dk o) (Kf.K2.dk o)) x
    repeat (first|refine ik ?_|refine Z81 fun _=>?_|refine Z82 fun _=>?_)
    refine au (by rfl) ?_
    repeat (first|(refine Zqf (by intro _ _ _;(first|refine Ds ?_|(refine ep (by rfl) ((h1).shift (by assumption)) (by rfl) (by rfl) (by first | (refine ab.l ?_;(simp;done)) | (refine ab.r ?_ ?_ <;> (simp;done)) | (refine ab.all ?_;(simp;done))) (by rfl) ?_)|refine NF ?_);exact Zq) ?_)|refine nM ?_|refine bT (aF (Kf.K2.dk o) (Kf.K2.dk o)) ?_|refine fu ?_)
    refine Zq0 ?_ (by kernel_rfl)
    rw[hE2]
    repeat (first|refine ik ?_|refine Z81 fun _=>?_|refine Z82 fun _=>?_)
    refine aJ (by rfl) (by rfl) (by rfl) fd (by rfl) (by rfl) (by first | with_reducible assumption | (simp[*];done)) fun _ hw=>aa hw SubW.nil ⟨?_,rfl⟩
    rfl
  ·have he:=(Kf.K2.GG hg hc).symm
   repeat (first|refine ik ?_|refine Z81 fun _=>?_|refine Z82 fun _=>?_)
   have hE0:=ww he
   rw[hE0]
   cases hB:(Kf.K2.fsq (-x.re)).2 with
   | false=>
    rw[hB]at hT
    rw[hT]
    repeat (first|refine ik ?_|refine Z81 fun _=>?_|refine Z82 fun _=>?_)
    refine au (by rfl) ?_
    repeat (first|refine DD ?_)
    refine Zq0 ?_ (by kernel_rfl)
    repeat (first|refine ik ?_|refine Z81 fun _=>?_|refine Z82 fun _=>?_)
    refine aJ (by rfl) (by rfl) (by rfl) fd (by rfl) (by rfl) (by first | with_reducible assumption | (simp[*];done)) fun _ hw=>aa hw SubW.nil ⟨?_,rfl⟩
    rfl
   | true=>
    rw[hB]at hT
    rw[hT]
    have hE2:=jX (Kf.K2.mul (Kf.K2.dk o) (Kf.K2.dk o)) x
    repeat (first|refine ik ?_|refine Z81 fun _=>?_|refine Z82 fun _=>?_)
    refine au (by rfl) ?_
    repeat (first|(refine Zqf (by intro _ _ _;(first|refine Ds ?_|(refine ep (by rfl) ((h1).shift (by assumption)) (by rfl) (by rfl) (by first | (refine ab.l ?_;(simp;done)) | (refine ab.r ?_ ?_ <;> (simp;done)) | (refine ab.all ?_;(simp;done))) (by rfl) ?_)|refine NF ?_);exact Zq) ?_)|refine nM ?_|refine bT (aF (Kf.K2.dk o) (Kf.K2.dk o)) ?_|refine fu ?_)
    refine Zq0 ?_ (by kernel_rfl)
    rw[hE2]
    repeat (first|refine ik ?_|refine Z81 fun _=>?_|refine Z82 fun _=>?_)
    refine aJ (by rfl) (by rfl) (by rfl) fd (by rfl) (by rfl) (by first | with_reducible assumption | (simp[*];done)) fun _ hw=>aa hw SubW.nil ⟨?_,rfl⟩
    rfl
 ·rw[gM]at h
  obtain⟨o,ho⟩:∃o:F2,o=⟨s.1,x.im*hv*Kf.inv s.1⟩:=⟨_,rfl⟩
  have hv0:=NL ho
  have hT:=Kf.K2.SX hs h ho
  have hsg:=AW o
  obtain⟨g,hg⟩:∃g,g=Kf.K2.sgn o:=⟨_,rfl⟩
  rw[← hg]at hsg
  have hlo:=ak o
  have hln:=ak (Kf.K2.neg o)
  have hle:=ak (Kf.K2.dk o)
  clear hs ho
  repeat (first|(refine cA (by rfl) (by rfl) (by rfl) (by rfl) (by simp;done) (by simp;done) (by rfl) ?_;rw[hv0])|refine Ks ?_|(refine bI ?_;intro _)|(refine cJ ?_;intro _)|refine y_4 hsg ?_|(skip;fail)|refine ik ?_|refine Z81 fun _=>?_|refine Z82 fun _=>?_)
  refine an (by rfl) (fun hc=>?_) (fun hc=>?_)
  ·have he:=Kf.K2.GH hg hc
   repeat (first|refine y_4 (o0 o) ?_|refine ik ?_|refine Z81 fun _=>?_|refine Z82 fun _=>?_)
   rw[← he]
   cases hB:s.2 with
   | false=>
    rw[hB]at hT
    rw[hT]
    repeat (first|refine ik ?_|refine Z81 fun _=>?_|refine Z82 fun _=>?_)
    refine au (by rfl) ?_
    repeat (first|refine DD ?_)
    refine Zq0 ?_ (by kernel_rfl)
    repeat (first|refine ik ?_|refine Z81 fun _=>?_|refine Z82 fun _=>?_)
    refine aJ (by rfl) (by rfl) (by rfl) fd (by rfl) (by rfl) (by first | with_reducible assumption | (simp[*];done)) fun _ hw=>aa hw SubW.nil ⟨?_,rfl⟩
    rfl
   | true=>
    rw[hB]at hT
    rw[hT]
    have hE2:=jX (Kf.K2.mul (Kf.K2.dk o) (Kf.K2.dk o)) x
    repeat (first|refine ik ?_|refine Z81 fun _=>?_|refine Z82 fun _=>?_)
    refine au (by rfl) ?_
    repeat (first|(refine Zqf (by intro _ _ _;(first|refine Ds ?_|(refine ep (by rfl) ((h1).shift (by assumption)) (by rfl) (by rfl) (by first | (refine ab.l ?_;(simp;done)) | (refine ab.r ?_ ?_ <;> (simp;done)) | (refine ab.all ?_;(simp;done))) (by rfl) ?_)|refine NF ?_);exact Zq) ?_)|refine nM ?_|refine bT (aF (Kf.K2.dk o) (Kf.K2.dk o)) ?_|refine fu ?_)
    refine Zq0 ?_ (by kernel_rfl)
    rw[hE2]
    repeat (first|refine ik ?_|refine Z81 fun _=>?_|refine Z82 fun _=>?_)
    refine aJ (by rfl) (by rfl) (by rfl) fd (by rfl) (by rfl) (by first | with_reducible assumption | (simp[*];done)) fun _ hw=>aa hw SubW.nil ⟨?_,rfl⟩
    rfl
  ·have he:=(Kf.K2.GG hg hc).symm
   repeat (first|refine ik ?_|refine Z81 fun _=>?_|refine Z82 fun _=>?_)
   have hE0:=ww he
   rw[hE0]
   cases hB:s.2 with
   | false=>
    rw[hB]at hT
    rw[hT]
    repeat (first|refine ik ?_|refine Z81 fun _=>?_|refine Z82 fun _=>?_)
    refine au (by rfl) ?_
    repeat (first|refine DD ?_)
    refine Zq0 ?_ (by kernel_rfl)
    repeat (first|refine ik ?_|refine Z81 fun _=>?_|refine Z82 fun _=>?_)
    refine aJ (by rfl) (by rfl) (by rfl) fd (by rfl) (by rfl) (by first | with_reducible assumption | (simp[*];done)) fun _ hw=>aa hw SubW.nil ⟨?_,rfl⟩
    rfl
   | true=>
    rw[hB]at hT
    rw[hT]
    have hE2:=jX (Kf.K2.mul (Kf.K2.dk o) (Kf.K2.dk o)) x
    repeat (first|refine ik ?_|refine Z81 fun _=>?_|refine Z82 fun _=>?_)
    refine au (by rfl) ?_
    repeat (first|(refine Zqf (by intro _ _ _;(first|refine Ds ?_|(refine ep (by rfl) ((h1).shift (by assumption)) (by rfl) (by rfl) (by first | (refine ab.l ?_;(simp;done)) | (refine ab.r ?_ ?_ <;> (simp;done)) | (refine ab.all ?_;(simp;done))) (by rfl) ?_)|refine NF ?_);exact Zq) ?_)|refine nM ?_|refine bT (aF (Kf.K2.dk o) (Kf.K2.dk o)) ?_|refine fu ?_)
    refine Zq0 ?_ (by kernel_rfl)
    rw[hE2]
    repeat (first|refine ik ?_|refine Z81 fun _=>?_|refine Z82 fun _=>?_)
    refine aJ (by rfl) (by rfl) (by rfl) fd (by rfl) (by rfl) (by first | with_reducible assumption | (simp[*];done)) fun _ hw=>aa hw SubW.nil ⟨?_,rfl⟩
    rfl
theorem wo:(List.replicate 12 0:List Nat)=E2 (Kf.K2.zero:F2):=by decide +kernel
theorem Tr{a b:Prop}(k:b)(h:Rm b→a:=by intro k;(first|refine Z01 ?_|refine Z02 ?_|refine Z03 ?_|refine Z04 ?_|refine Z05 ?_|refine Z06 ?_|refine Z07 ?_|refine Z08 ?_|refine Z09 ?_|refine Z10 ?_|refine Z11 ?_|refine Z12 ?_|refine Z13 ?_|refine Z14 ?_|refine Z19 ?_|refine Z24 ?_|refine Z26 ?_|refine Z27 ?_|refine Z29 ?_|refine Z30 ?_|refine Z31 ?_|refine Z32 ?_|refine Z48 ?_|refine Z54 ?_|refine Z67 ?_);exact k.h):a:=h ⟨k⟩
theorem nO{a b:Prop}(k:b)(h:Rm b→a:=by intro k;refine jG (k:=.u64) (z:=List.replicate 12 0) (by rfl) (by rfl) (by rfl) (by rfl) ?_;rw[wo];exact k.h):a:=h ⟨k⟩
theorem me{S1 a b:Prop}(s1:S1)(k:b)(h:S1→Rm b→a:=by intro s1 k;refine ah (by rfl) (by rfl) (by rfl) s1 (eN.own fd) (by rfl) ?_;exact k.h):a:=h s1 ⟨k⟩
theorem Pm{a b:Prop}(k:b)(h:Rm b→a:=by intro k;(first|refine nO ?_|refine Z01 ?_|refine Z02 ?_|refine Z03 ?_|refine Z04 ?_|refine Z05 ?_|refine Z06 ?_|refine Z07 ?_|refine Z08 ?_|refine Z09 ?_|refine Z10 ?_|refine Z11 ?_|refine Z12 ?_|refine Z13 ?_|refine Z14 ?_|refine Z19 ?_|refine Z24 ?_|refine Z26 ?_|refine Z27 ?_|refine Z29 ?_|refine Z30 ?_|refine Z31 ?_|refine Z32 ?_|refine Z48 ?_|refine Z54 ?_|refine Z67 ?_);exact k.h):a:=h ⟨k⟩
set_option maxHeartbeats 4000000 in
theorem E0{a b:Nat}(ha:a<W^6)(hb:b<W^6):Spec Tryz.prog 55 [LV .u64 (D 6 a++D 6 b)] ai [] (IsV (.tuple [LV .u64 (E2 (Kf.K2.cK (k2 a b)).1),.bool (Kf.K2.cK (k2 a b)).2].toArray)):=by
 refine ad Tryz.func55 rfl rfl rfl fun w _=>?_
 have hl0:=fun x=>ae 6 x
 have hlz:=ak (Kf.K2.zero:F2)
 have hred:=kU ha hb
 obtain⟨x,hx⟩:∃x:F2,x=k2 a b:=⟨_,rfl⟩
 rw[← hx]at hred ⊢
 clear hx
 have hlx:=ak x
 have hadd:Spec Tryz.prog 49 [LV .u64 (D 6 (x.re*x.re).val),LV .u64 (D 6 (x.im*x.im).val)] ai [] (IsV (LV .u64 (D 6 (Kf.K2.bW x).val))):=gS (x.re*x.re) (x.im*x.im)
 have hfs:=uX (Kf.K2.bW x)
 obtain⟨s,hs⟩:∃s,s=Kf.K2.fsq (Kf.K2.bW x):=⟨_,rfl⟩
 rw[← hs]at hfs
 obtain⟨t,ht⟩:∃t,t=Kf.K2.f8 x s.1:=⟨_,rfl⟩
 have htry:=fun u=>yQ u x s.1
 rw[← ht]at htry
 obtain⟨v,hv⟩:∃v,v=Kf.K2.f8 x (-s.1):=⟨_,rfl⟩
 have htry2:=fun u=>yQ u x (-s.1)
 rw[← hv]at htry2
 have hneg:=jr s.1
 have hP0:=Kf.K2.MR hs
 have hP1:=Kf.K2.MT hs (t:=t)
 have hP2:=Kf.K2.MU hs (t:=t) (v:=v)
 have hP3:=Kf.K2.MV hs (t:=t) (v:=v)
 obtain⟨s1,s2⟩:=s
 obtain⟨t1,t2⟩:=t
 obtain⟨v1,v2⟩:=v
 have hlt:=ak t1
 have hlv:=ak v1
 simp only at *
 repeat (first|(refine bI ?_;intro _)|refine y_4 hred ?_|(refine cJ ?_;intro _)|refine Tr ?_|refine Z81 fun _=>?_|refine Z82 fun _=>?_)
 refine R.af [0,1,2,3,4,5,6,7,8,9,10,11,12,13,14,15,16,17] (by rfl) ?_
 repeat (first|(refine R.Zpf (by rfl) (by intro _ _ _;(first|refine bK ?_|refine fo ?_|refine Z01 ?_|refine Z02 ?_|refine Z19 ?_|refine Z48 ?_|refine Z54 ?_);exact Zq) ?_)|refine aL ?_|refine cz ?_|refine ag (dz x.re x.re) ?_|refine ag (dz x.im x.im) ?_|refine ag hadd ?_|refine ag hfs ?_|refine aA ?_|(refine ij ?_;intro _)|(refine aV ?_;intro _))
 refine R.Zp0 ?_
 clear hfs hadd hred
 cases s2 with
 | false=>
  rw[hP0 rfl]
  repeat (first|refine Pm ?_|refine Z81 fun _=>?_|refine Z82 fun _=>?_)
  refine aJ (by rfl) (by rfl) (by rfl) fd (by rfl) (by rfl) (by first | with_reducible assumption | (simp[*];done)) fun _ hw=>aa hw SubW.nil ⟨?_,rfl⟩
  rfl
 | true=>
  cases t2 with
  | true=>
   rw[hP1 rfl ht rfl]
   clear hP0 hP1 hP2 hP3 hs ht hv
   repeat (first|(refine bI ?_;intro _)|refine me (htry _) ?_|refine Tr ?_|refine Z81 fun _=>?_|refine Z82 fun _=>?_)
   refine aJ (by rfl) (by rfl) (by rfl) fd (by rfl) (by rfl) (by first | with_reducible assumption | (simp[*];done)) fun _ hw=>aa hw SubW.nil ⟨?_,rfl⟩
   rfl
  | false=>
   cases v2 with
   | true=>
    rw[hP2 rfl ht rfl hv rfl]
    clear hP0 hP1 hP2 hP3 hs ht hv
    repeat (first|(refine bI ?_;intro _)|refine me (htry _) ?_|refine y_4 hneg ?_|refine me (htry2 _) ?_|refine Tr ?_|refine Z81 fun _=>?_|refine Z82 fun _=>?_)
    refine aJ (by rfl) (by rfl) (by rfl) fd (by rfl) (by rfl) (by first | with_reducible assumption | (simp[*];done)) fun _ hw=>aa hw SubW.nil ⟨?_,rfl⟩
    rfl
   | false=>
    rw[hP3 rfl ht rfl hv rfl]
    clear hP0 hP1 hP2 hP3 hs ht hv
    repeat (first|(refine bI ?_;intro _)|refine me (htry _) ?_|refine y_4 hneg ?_|refine me (htry2 _) ?_|refine Pm ?_|refine Z81 fun _=>?_|refine Z82 fun _=>?_)
    refine aJ (by rfl) (by rfl) (by rfl) fd (by rfl) (by rfl) (by first | with_reducible assumption | (simp[*];done)) fun _ hw=>aa hw SubW.nil ⟨?_,rfl⟩
    rfl
theorem OE(x:F2):Spec Tryz.prog 55 [LV .u64 (E2 x)] ai [] (IsV (.tuple [LV .u64 (E2 (Kf.K2.cK x).1),.bool (Kf.K2.cK x).2].toArray)):=by
 have:=E0 (ap x.re) (ap x.im);rwa [bq]at this
theorem TO(x:F2):Spec Tryz.prog 58 [LV .u64 (E2 x)] ai [] (IsV (.bool (il x))):=by
 have:=EU (ap x.re) (ap x.im);rwa [bq]at this
theorem fM(x:F2):(decide (D 6 x.re.val=D 6 x.re.val)&&decide (D 6 x.im.val=D 6 x.im.val))=true:=by rw[jX];exact decide_eq_true rfl
theorem cN{x y:F2}(h:¬x=y):(decide (D 6 x.re.val=D 6 y.re.val)&&decide (D 6 x.im.val=D 6 y.im.val))=false:=by rw[jX];exact decide_eq_false h
theorem Xh:([2]++List.replicate (6-[2].length) 0:List Nat)=D 6 2:=by decide +kernel
theorem Uz:Kf.isq (kp 2)=false:=by
 have h:Kf.isq (-kp 2)=true:=(Kf.ca p_3).2 ⟨kp 2057464292470212699950648958431590554769679873859515792311286236065221686597310451751142621105086029381756709738514,by decide +kernel⟩
 have h2:=Kf.fP p_3 (a:=kp 2) (by decide +kernel)
 rw[h]at h2
 cases h3:Kf.isq (kp 2)
 ·rfl
 ·rw[h3]at h2;exact absurd h2 (by decide)
def ac:F2:=k2 0 240
def bc:F2:=k2 1012 1012
def zc:F2:=Kf.K2.neg (k2 2 1)
def pol(x:F2):List F2→F2
 | []=>Kf.K2.zero
 | c::r=>Kf.K2.add (Kf.K2.mul (pol x r) x) c
def cm(x:F2):F2:=pol x [bc,ac,Kf.K2.zero,Kf.K2.one]
theorem acE:List.replicate 6 0++([240]++List.replicate (6-[240].length) 0)=E2 ac:=by decide +kernel
theorem bcE:([1012]++List.replicate (6-[1012].length) 0)++([1012]++List.replicate (6-[1012].length) 0)=E2 bc:=by decide +kernel
theorem fJ{a b:Prop}(k:b)(h:Rm b→a:=by intro k;refine eo (by rfl) (by rfl) (by rfl) (by rfl) (by simp;done) (by rfl) ?_;exact k.h):a:=h ⟨k⟩
theorem Br:Spec Tryz.prog 84 [] ai [] (IsV (LV .u64 (E2 ac))):=by
 refine ad Tryz.func84 rfl rfl rfl fun w _=>?_
 repeat (first|(refine bI ?_;intro _)|refine bn (kk:=.u64) (vs:=[240]) (by rfl) (by rfl) (by rfl) (by rfl) (by rfl) (by rfl) (by rfl) (by rfl) ?_|refine fJ ?_|(refine rS (by rfl) (by rfl) (by rfl) (by rfl) (by simp;done) (by rfl) ?_)|refine Z03 ?_|refine Z04 ?_|refine Z05 ?_|refine Z06 ?_|refine Z07 ?_|refine Z08 ?_|refine Z09 ?_|refine Z10 ?_|refine Z11 ?_|refine Z12 ?_|refine Z13 ?_|refine Z14 ?_|refine Z29 ?_|refine Z30 ?_|refine Z31 ?_|refine Z32 ?_|refine Z82 fun _=>?_)
 refine Zec fun _ hw=>aa hw SubW.nil ⟨?_,rfl⟩
 rw[← acE]
theorem Bu:Spec Tryz.prog 83 [] ai [] (IsV (LV .u64 (E2 bc))):=by
 refine ad Tryz.func83 rfl rfl rfl fun w _=>?_
 repeat (first|(refine bI ?_;intro _)|refine bn (kk:=.u64) (vs:=[1012]) (by rfl) (by rfl) (by rfl) (by rfl) (by rfl) (by rfl) (by rfl) (by rfl) ?_|refine eP ?_|refine fJ ?_|refine Z03 ?_|refine Z04 ?_|refine Z05 ?_|refine Z06 ?_|refine Z07 ?_|refine Z08 ?_|refine Z09 ?_|refine Z10 ?_|refine Z11 ?_|refine Z12 ?_|refine Z13 ?_|refine Z14 ?_|refine Z29 ?_|refine Z30 ?_|refine Z31 ?_|refine Z32 ?_|refine Z82 fun _=>?_)
 refine Zec fun _ hw=>aa hw SubW.nil ⟨?_,rfl⟩
 rw[← bcE]
theorem DJ:Spec Tryz.prog 82 [] ai [] (IsV (LV .u64 (E2 zc))):=by
 refine ad Tryz.func82 rfl rfl rfl fun w _=>?_
 have hl0:=fun x=>ae 6 x
 have hle:=fun x:F2=>ak x
 have hn:Spec Tryz.prog 59 [LV .u64 (D 6 2++D 6 1)] ai [] (IsV (LV .u64 (E2 zc))):=tO (by decide) (by decide)
 repeat (first|(refine bI ?_;intro _)|refine zu ?_|(refine bn (kk:=.u64) (vs:=[2]) (by rfl) (by rfl) (by rfl) (by rfl) (by rfl) (by rfl) (by rfl) (by rfl) ?_;rw[Xh])|refine eP ?_|refine fJ ?_|refine y_4 hn ?_|refine Tf ?_|refine Z82 fun _=>?_)
 refine Zec fun _ hw=>aa hw SubW.nil ⟨?_,rfl⟩
 rfl
theorem OD{a b:Nat}(ha:a<W^6)(hb:b<W^6)(x:F2):Spec Tryz.prog 57 [LV .u64 (E2 x),LV .u64 (D 6 a++D 6 b)] ai [] (IsV (LV .u64 (E2 (Kf.K2.mul x (k2 a b))))):=by
 have:=gL (ap x.re) (ap x.im) ha hb;rwa [bq]at this
theorem IE(x:F2){cs:List F2}{i:Nat}{c:F2}(h:cs[i]?=some c):pol x (cs.drop i)=Kf.K2.add (Kf.K2.mul (pol x (cs.drop (i+1))) x) c:=by
 obtain⟨h1,h2⟩:=List.getElem?_eq_some_iff.1 h
 rw[List.drop_eq_getElem_cons h1,h2];rfl
theorem NG{a b:Prop}(k:b)(h:Rm b→a:=by intro k;(first|refine Z01 ?_|refine Z02 ?_|refine Z03 ?_|refine Z04 ?_|refine Z05 ?_|refine Z06 ?_|refine Z07 ?_|refine Z08 ?_|refine Z09 ?_|refine Z10 ?_|refine Z11 ?_|refine Z12 ?_|refine Z13 ?_|refine Z14 ?_|refine Z16 ?_|refine Z17 ?_|refine Z18 ?_|refine Z20 ?_|refine Z21 ?_|refine Z22 ?_|refine Z23 ?_|refine Z24 ?_|refine Z26 ?_|refine Z27 ?_|refine Z29 ?_|refine Z30 ?_|refine Z31 ?_|refine Z32 ?_|refine Z67 ?_|refine Z71 ?_);exact k.h):a:=h ⟨k⟩
set_option maxHeartbeats 4000000 in
theorem i8{a e:Nat}(ha:a<W^6)(he:e<W^6)(b k:Nat)(cs:List F2)(hk:cs.length=k)(hk2:k<65536):
  Spec Tryz.prog 81 [LV .u64 (D 6 a++D 6 e),slv b k] (fun w=>eN w b (LV .u64 (cs.map E2).flatten) 34) [] (IsV (LV .u64 (E2 (pol (k2 a e) cs)))):=by
 refine ad Tryz.func81 rfl rfl rfl fun w hr=>?_
 have h1:=OldB.mk0 hr
 have hl0:=fun x=>ae 6 x
 have hle:=fun x:F2=>ak x
 have hz12:=wo
 have hm:=fun x=>OD ha he x
 generalize k2 a e=x at hm
 have h12:∀v∈cs.map E2,v.length=12:=fun v hv=>by
  obtain⟨c,_,rfl⟩:=List.mem_map.1 hv
  exact hle c
 repeat (first|(refine bI ?_;intro _)|refine A4 (by rfl) (by rfl) (by rfl) ?_|refine Z01 ?_|refine Z02 ?_|refine Z03 ?_|refine Z04 ?_|refine Z05 ?_|refine Z06 ?_|refine Z07 ?_|refine Z08 ?_|refine Z09 ?_|refine Z10 ?_|refine Z11 ?_|refine Z12 ?_|refine Z13 ?_|refine Z14 ?_|refine Z16 ?_|refine Z17 ?_|refine Z18 ?_|refine Z20 ?_|refine Z21 ?_|refine Z22 ?_|refine Z23 ?_|refine Z24 ?_|refine Z26 ?_|refine Z27 ?_|refine Z29 ?_|refine Z30 ?_|refine Z31 ?_|refine Z32 ?_|refine Z67 ?_|refine Z71 ?_|refine Z81 fun _=>?_|refine Z82 fun _=>?_)
 rename_i b2 b4
 refine ay (ι:=Nat) (fun j=>j≤k) (fun j=>[(1,slv b k),(2,pt b2 0),(4,pt b4 0),(5,.int .i64 ((j:Int)-1))])
  (fun j=>[.blk b4 (LV .u64 (E2 (pol x (cs.drop j)))) 34,.blk b2 (LV .u64 (D 6 a++D 6 e)) 34]) (fun j=>j) k (Nat.le_refl _) sbq (by rw[← hk,List.drop_length,show pol x []=Kf.K2.zero from rfl,← hz12];exact sw) ?_
 intro j hj
 repeat (first|refine NG ?_|refine Z81 fun _=>?_|refine Z82 fun _=>?_)
 refine an (by rfl) (fun h=>?_) (fun h=>?_)
 ·have h0:(0:Int)≤(j:Int)-1:=h
  obtain⟨i,rfl⟩:∃i,j=i+1:=⟨j-1,by omega⟩
  rw[show((i+1:Nat):Int)-1=Int.ofNat i by simp]
  obtain⟨c,hc⟩:∃c,cs[i]?=some c:=⟨cs[i]'(by omega),List.getElem?_eq_getElem (by omega)⟩
  have hpt:ab (cs.map E2).flatten (0+i*12) 12 (E2 c):=by
   rw[Nat.zero_add];exact ab.nth h12 (by rw[List.getElem?_map,hc];rfl)
  have had:=cV (Kf.K2.mul (pol x (cs.drop (i+1))) x) c
  rw[← IE x hc]at had
  repeat (first|refine NG ?_|refine Z81 fun _=>?_|refine Z82 fun _=>?_)
  refine au (by rfl) ?_
  repeat (first|(refine Zqf (by intro _ _ _;(first|refine Fb (by rfl) (by rfl) (by rfl) (by rfl) (show i<k by omega) (by rfl) ?_|refine ep (by rfl) (h1.shift (by assumption)) (by rfl) (by rfl) hpt (by rfl) ?_|refine Z01 ?_|refine Z02 ?_|refine Z16 ?_|refine Z17 ?_|refine Z18 ?_|refine Z20 ?_|refine Z21 ?_|refine Z22 ?_|refine Z23 ?_|refine Z71 ?_);exact Zq) ?_)|refine nM ?_|refine bT (hm (pol x (cs.drop (i+1)))) ?_|refine bT had ?_|refine Do ?_|refine ga ?_|refine Zqn ?_)
  refine Zq0 ?_ (by kernel_rfl)
  repeat (first|refine NG ?_|refine Z81 fun _=>?_|refine Z82 fun _=>?_)
  refine ao i (by omega) (by omega) ?_ sw
  rw[show((i:Int)-1)=Int.ofNat i-Int.ofNat 1 from rfl]
  exact sbq
 ·have hp0:¬(0:Int)≤(j:Int)-1:=h
  have hj0:j=0:=by omega
  subst hj0
  rw[List.drop_zero]
  repeat (first|refine NG ?_|refine Z81 fun _=>?_|refine Z82 fun _=>?_)
  refine Zec fun _ hw=>aa hw SubW.nil ⟨?_,rfl⟩
  rfl
theorem kl{cs:List F2}:∀v∈cs.map E2,v.length=12:=fun v hv=>by
 obtain⟨c,_,rfl⟩:=List.mem_map.1 hv
 exact ak c
theorem WQ:D 6 1++List.replicate 6 0=E2 (Kf.K2.one:F2):=by decide +kernel
theorem NH{a b:Prop}(k:b)(h:Rm b→a:=by intro k;refine eo (by rfl) (by rfl) (by rfl) (by rfl) (by simp;done) (by rfl) ?_;rw[WQ];exact k.h):a:=h ⟨k⟩
theorem Bk{S1 a b:Prop}(s1:S1)(k:b)(h:S1→Rm b→a:=by intro s1 k;refine R.Zpp (by rfl) (by intro _ _ _;refine ah (by rfl) (by rfl) (by rfl) s1 (eN.own fd) (by rfl) ?_;exact Zq) ?_;exact k.h):a:=h s1 ⟨k⟩
theorem sA{a b:Prop}(k:b)(h:Rm b→a:=by intro k;refine R.Zpn (by rfl) (by intro _ _ _;(first|refine Z81 fun _=>?_|refine Z82 fun _=>?_|refine Z85 fun _=>?_);exact R.Zpx) ?_;exact k.h):a:=h ⟨k⟩
theorem EX{a e:Nat}(ha:a<W^6)(he:e<W^6):Spec Tryz.prog 86 [LV .u64 (D 6 a++D 6 e)] ai [] (IsV (LV .u64 (E2 (cm (k2 a e))))):=by
 refine ad Tryz.func86 rfl rfl rfl fun w _=>?_
 have hl0:=fun x=>ae 6 x
 have hle:=fun x:F2=>ak x
 have hp:∀b,Spec Tryz.prog 81 [LV .u64 (D 6 a++D 6 e),slv b 4] (fun w=>eN w b (LV .u64 ([bc,ac,Kf.K2.zero,Kf.K2.one].map E2).flatten) 34) [] (IsV (LV .u64 (E2 (cm (k2 a e))))):=fun b=>i8 ha he b 4 [bc,ac,Kf.K2.zero,Kf.K2.one] rfl (by decide)
 generalize cm (k2 a e)=r at hp
 repeat (first|(refine bI ?_;intro _)|refine bV ?_|refine Z81 fun _=>?_|refine Z82 fun _=>?_|refine Z85 fun _=>?_)
 refine R.af [0,1,2,3,4,5,6,7,8] (by rfl) ?_
 repeat (first|(refine R.Zpf (by rfl) (by intro _ _ _;(first|refine nO ?_|refine zu ?_|refine NH ?_);exact Zq) ?_)|refine aL ?_|(refine R.Zpp (by rfl) (by intro _ _ _;refine ah (by rfl) (by rfl) (by rfl) (Bu) (fun _ _=>trivial) (by rfl) ?_;exact Zq) ?_)|(refine R.Zpp (by rfl) (by intro _ _ _;refine ah (by rfl) (by rfl) (by rfl) (Br) (fun _ _=>trivial) (by rfl) ?_;exact Zq) ?_)|refine Bk (hp _) ?_|refine aA ?_|(refine R.Zpd (by rfl) (by intro _ _ _;(refine av (m:=12) (kk:=.u64) (vss:=[bc,ac,Kf.K2.zero,Kf.K2.one].map E2) (by rfl) (by rfl) (by rfl) (by rfl) (by rfl) (by rfl) (by rfl) kl (by rfl) (by rfl) fun _=>?_);exact R.dO) fun _=>?_)|(refine sA ?_;intro _))
 refine R.Zp0 ?_
 repeat (first|refine bV ?_|refine Z81 fun _=>?_|refine Z82 fun _=>?_|refine Z85 fun _=>?_)
 refine Zec fun _ hw=>aa hw SubW.nil ⟨?_,rfl⟩
 rfl
theorem Vg(x:F2):Spec Tryz.prog 86 [LV .u64 (E2 x)] ai [] (IsV (LV .u64 (E2 (cm x)))):=by
 have:=EX (ap x.re) (ap x.im);rwa [bq]at this
def cT(g:Nat)(x:F2):F2×Bool:=(if Kf.K2.sgn (Kf.K2.cK (cm x)).1=g then(Kf.K2.cK (cm x)).1 else Kf.K2.neg (Kf.K2.cK (cm x)).1,(Kf.K2.cK (cm x)).2)
theorem pT{g s:Nat}{x:F2}{r:F2×Bool}(hr:r=Kf.K2.cK (cm x))(hs:s=Kf.K2.sgn r.1)(h:s=g):cT g x=(r.1,r.2):=by
 subst hs
 subst hr
 rw[cT,if_pos h]
theorem pS{g s:Nat}{x:F2}{r:F2×Bool}(hr:r=Kf.K2.cK (cm x))(hs:s=Kf.K2.sgn r.1)(h:¬s=g):cT g x=(Kf.K2.neg r.1,r.2):=by
 subst hs
 subst hr
 rw[cT,if_neg h]
theorem NI{a b:Prop}(k:b)(h:Rm b→a:=by intro k;(first|refine Z01 ?_|refine Z02 ?_|refine Z03 ?_|refine Z04 ?_|refine Z05 ?_|refine Z06 ?_|refine Z07 ?_|refine Z08 ?_|refine Z09 ?_|refine Z10 ?_|refine Z11 ?_|refine Z12 ?_|refine Z13 ?_|refine Z14 ?_|refine Z17 ?_|refine Z18 ?_|refine Z19 ?_|refine Z24 ?_|refine Z26 ?_|refine Z27 ?_|refine Z29 ?_|refine Z30 ?_|refine Z31 ?_|refine Z32 ?_|refine Z67 ?_);exact k.h):a:=h ⟨k⟩
set_option maxHeartbeats 4000000 in
theorem ix{a e:Nat}(ha:a<W^6)(he:e<W^6)(u:Nat)(x:F2):Spec Tryz.prog 85 [LV .u64 (E2 x),pt u 0] (fun w=>eN w u (LV .u64 (D 6 a++D 6 e)) 34) [] (IsV (.tuple [LV .u64 (E2 (cT (Kf.K2.sgn (k2 a e)) x).1),.bool (cT (Kf.K2.sgn (k2 a e)) x).2].toArray)):=by
 refine ad Tryz.func85 rfl rfl rfl fun w hr=>?_
 have h1:=OldB.mk0 hr
 have hl0:=fun x=>ae 6 x
 have hle:=fun x:F2=>ak x
 have hsd:=Vg x
 have hg:=rO ha he
 generalize Kf.K2.sgn (k2 a e)=g at hg
 have hsq:=OE (cm x)
 obtain⟨r,hr⟩:∃r,r=Kf.K2.cK (cm x):=⟨_,rfl⟩
 rw[← hr]at hsq
 have hs1:=AW r.1
 obtain⟨s,hs⟩:∃s,s=Kf.K2.sgn r.1:=⟨_,rfl⟩
 rw[← hs]at hs1
 have hR1:=pT (g:=g) hr hs
 have hR0:=pS (g:=g) hr hs
 clear hr hs
 generalize cm x=y at hsd hsq
 obtain⟨r1,r2⟩:=r
 simp only at hR1 hR0 hsq hs1
 have hn:=o0 r1
 repeat (first|(refine bI ?_;intro _)|refine y_4 hsd ?_|refine y_4 hsq ?_|refine NI ?_|refine Z81 fun _=>?_|refine Z82 fun _=>?_)
 refine au (by rfl) ?_
 repeat (first|(refine Zqf (by intro _ _ _;(first|(refine ep (by rfl) ((h1).shift (by assumption)) (by rfl) (by rfl) (by first | (refine ab.l ?_;(simp;done)) | (refine ab.r ?_ ?_ <;> (simp;done)) | (refine ab.all ?_;(simp;done))) (by rfl) ?_)|refine Z01 ?_|refine Z02 ?_|refine Z17 ?_|refine Z18 ?_|refine Z19 ?_);exact Zq) ?_)|refine nM ?_|refine bT hs1 ?_|refine bT hg ?_|refine fu ?_)
 refine Zq0 ?_ (by kernel_rfl)
 repeat (first|refine NI ?_|refine Z81 fun _=>?_|refine Z82 fun _=>?_)
 refine an (by rfl) (fun h=>?_) (fun h=>?_)
 ·rw[hR0 h]
  repeat (first|refine y_4 hn ?_|refine NI ?_|refine Z81 fun _=>?_|refine Z82 fun _=>?_)
  refine aJ (by rfl) (by rfl) (by rfl) fd (by rfl) (by rfl) (by first | with_reducible assumption | (simp[*];done)) fun _ hw=>aa hw SubW.nil ⟨?_,rfl⟩
  rfl
 ·rw[hR1 (Classical.not_not.1 h)]
  repeat (first|refine NI ?_|refine Z81 fun _=>?_|refine Z82 fun _=>?_)
  refine aJ (by rfl) (by rfl) (by rfl) fd (by rfl) (by rfl) (by first | with_reducible assumption | (simp[*];done)) fun _ hw=>aa hw SubW.nil ⟨?_,rfl⟩
  rfl
def wz(u:F2):F2:=Kf.K2.mul zc (Kf.K2.mul u u)
def tz(w:F2):F2:=Kf.K2.add (Kf.K2.mul w w) w
def iq(w:F2):F2:=if tz w=Kf.K2.zero then Kf.K2.mul bc (Kf.K2.inv (Kf.K2.mul zc ac))else Kf.K2.mul (Kf.K2.neg (Kf.K2.mul bc (Kf.K2.inv ac))) (Kf.K2.add Kf.K2.one (Kf.K2.inv (tz w)))
theorem Tb{w t:F2}(ht:t=tz w)(h:t=Kf.K2.zero):iq w=Kf.K2.mul bc (Kf.K2.inv (Kf.K2.mul zc ac)):=by
 subst ht
 exact if_pos h
theorem Be{w t:F2}(ht:t=tz w)(h:¬t=Kf.K2.zero):iq w=Kf.K2.mul (Kf.K2.neg (Kf.K2.mul bc (Kf.K2.inv ac))) (Kf.K2.add Kf.K2.one (Kf.K2.inv t)):=by
 subst ht
 exact if_neg h
def i6(u:F2):F2×F2:=
 if(cT (Kf.K2.sgn u) (iq (wz u))).2=true then(iq (wz u),(cT (Kf.K2.sgn u) (iq (wz u))).1)
 else(Kf.K2.mul (wz u) (iq (wz u)),(cT (Kf.K2.sgn u) (Kf.K2.mul (wz u) (iq (wz u)))).1)
theorem vj{u w x:F2}{r:F2×Bool}(hw:w=wz u)(hx:x=iq w)(hr:r=cT (Kf.K2.sgn u) x)(h:r.2=true):i6 u=(x,r.1):=by
 subst hw
 subst hx
 subst hr
 rw[i6,if_pos h]
theorem vh{u w x:F2}{r s:F2×Bool}(hw:w=wz u)(hx:x=iq w)(hr:r=cT (Kf.K2.sgn u) x)(h:r.2=false)(hs:s=cT (Kf.K2.sgn u) (Kf.K2.mul w x)):i6 u=(Kf.K2.mul w x,s.1):=by
 subst hw
 subst hx
 subst hr
 subst hs
 rw[i6,if_neg (by rw[h];decide)]
theorem lj{a b:Prop}(k:b)(h:Rm b→a:=by intro k;(first|refine Z01 ?_|refine Z02 ?_|refine Z03 ?_|refine Z04 ?_|refine Z05 ?_|refine Z06 ?_|refine Z07 ?_|refine Z08 ?_|refine Z09 ?_|refine Z10 ?_|refine Z11 ?_|refine Z12 ?_|refine Z13 ?_|refine Z14 ?_|refine Z19 ?_|refine Z24 ?_|refine Z26 ?_|refine Z27 ?_|refine Z29 ?_|refine Z30 ?_|refine Z31 ?_|refine Z32 ?_|refine Z48 ?_|refine Z67 ?_|refine Z77 ?_|refine Z78 ?_|refine Z79 ?_);exact k.h):a:=h ⟨k⟩
theorem fK{a b:Prop}(k:b)(h:Rm b→a:=by intro k;refine R.Zpb (by rfl) (by intro _ _ _;refine aq (v:=LV .u64 (List.replicate 12 0)) (by rfl) (by rfl) fun _=>?_;exact R.eO) ?_;exact k.h):a:=h ⟨k⟩
theorem We{a b:Prop}(k:b)(h:Rm b→a:=by intro k;refine ah (by rfl) (by rfl) (by rfl) (Bu) (fun _ _=>trivial) (by rfl) ?_;exact k.h):a:=h ⟨k⟩
theorem OP{a b:Prop}(k:b)(h:Rm b→a:=by intro k;refine ah (by rfl) (by rfl) (by rfl) (Br) (fun _ _=>trivial) (by rfl) ?_;exact k.h):a:=h ⟨k⟩
theorem dJ{S1 a b:Prop}(s1:S1)(k:b)(h:S1→Rm b→a:=by intro s1 k;refine M3 (hr:=s1) (by rfl) (by rfl) (by rfl) (by kernel_rfl) (by rfl) (by rfl) (by rfl) (by rfl) (by rfl) (by rfl) (by rfl) (by rfl) (by rfl) (by rfl) (by kernel_rfl) (by simp;done) (by simp;done) (by simp;done) (by simp;done) (by rfl) ?_;exact k.h):a:=h s1 ⟨k⟩
theorem Pn{a b:Prop}(k:b)(h:Rm b→a:=by intro k;(first|refine fJ ?_|refine fo ?_|refine fI ?_|refine Z01 ?_|refine Z02 ?_|refine Z19 ?_|refine Z48 ?_|refine Z77 ?_|refine Z78 ?_|refine Z79 ?_);exact k.h):a:=h ⟨k⟩
theorem Pp{a b:Prop}(k:b)(h:Rm b→a:=by intro k;(first|refine We ?_|refine OP ?_|refine ah (by rfl) (by rfl) (by rfl) (DJ) (fun _ _=>trivial) (by rfl) ?_);exact k.h):a:=h ⟨k⟩
set_option maxHeartbeats 8000000 in
theorem HT{a e:Nat}(ha:a<W^6)(he:e<W^6):Spec Tryz.prog 43 [LV .u64 (D 6 a++D 6 e)] ai [] (IsV (.tuple [LV .u64 (E2 (i6 (k2 a e)).1),LV .u64 (E2 (i6 (k2 a e)).2)].toArray)):=by
 refine ad Tryz.func43 rfl rfl rfl fun w _=>?_
 have hl0:=fun x=>ae 6 x
 have hle:=fun x:F2=>ak x
 have hm1:=gL ha he ha he
 obtain⟨u,hu⟩:∃u:F2,u=k2 a e:=⟨_,rfl⟩
 have hug:Kf.K2.sgn (k2 a e)=Kf.K2.sgn u:=by rw[hu]
 obtain⟨g,hg⟩:∃g,g=Kf.K2.sgn u:=⟨_,rfl⟩
 have hgu:=hg
 rw[← hg]at hug
 rw[← hu]at hm1 ⊢
 clear hu hg
 have hm2:=aF zc (Kf.K2.mul u u)
 generalize hq:Kf.K2.mul u u=q at hm1 hm2
 obtain⟨w1,hw1⟩:∃w1:F2,w1=Kf.K2.mul zc q:=⟨_,rfl⟩
 rw[← hw1]at hm2
 have hw:w1=wz u:=by rw[hw1,← hq];rfl
 clear hw1 hq
 have hww:=aF w1 w1
 have hwt:=cV (Kf.K2.mul w1 w1) w1
 generalize hv:Kf.K2.mul w1 w1=v at hww hwt
 obtain⟨t,ht1⟩:∃t:F2,t=Kf.K2.add v w1:=⟨_,rfl⟩
 rw[← ht1]at hwt
 have ht:t=tz w1:=by rw[ht1,← hv];rfl
 clear ht1 hv
 have hia:=kw ac
 have hba:=aF bc (Kf.K2.inv ac)
 have hnb:=o0 (Kf.K2.mul bc (Kf.K2.inv ac))
 have hX1:=Tb ht
 have hX0:=Be ht
 generalize Kf.K2.neg (Kf.K2.mul bc (Kf.K2.inv ac))=c0 at hnb hX0
 generalize Kf.K2.mul bc (Kf.K2.inv ac)=c1 at hba hnb
 generalize Kf.K2.inv ac=c2 at hia hba
 clear ht
 repeat (first|(refine bI ?_;intro _)|refine lj ?_|refine Z81 fun _=>?_|refine Z82 fun _=>?_)
 refine R.af [0,1,2,3,4,5,6] (by rfl) ?_
 repeat (first|(refine R.Zpf (by rfl) (by intro _ _ _;(first|refine Pn ?_);exact Zq) ?_)|refine aL ?_|refine cz ?_|(refine R.Zpp (by rfl) (by intro _ _ _;refine ah (by rfl) (by rfl) (by rfl) (DJ) (fun _ _=>trivial) (by rfl) ?_;exact Zq) ?_)|refine ag hm1 ?_|refine ag hm2 ?_|refine aA ?_|(refine fK ?_;intro _)|(refine aV ?_;intro _))
 refine R.Zp0 ?_
 repeat (first|refine lj ?_|refine Z81 fun _=>?_|refine Z82 fun _=>?_)
 refine R.af [0,1,2,3,4,5,6] (by rfl) ?_
 repeat (first|(refine R.Zpf (by rfl) (by intro _ _ _;(first|refine Pn ?_);exact Zq) ?_)|refine aL ?_|refine cz ?_|refine ag hww ?_|refine ag hwt ?_|refine aA ?_|(refine fK ?_;intro _)|(refine aV ?_;intro _))
 refine R.Zp0 ?_
 repeat (first|(refine bI ?_;intro _)|refine We ?_|refine OP ?_|refine y_4 hia ?_|refine y_4 hba ?_|refine y_4 hnb ?_|refine nO ?_|refine dJ (jX t Kf.K2.zero) ?_|refine lj ?_|refine Z81 fun _=>?_|refine Z82 fun _=>?_)
 refine an (by rfl) (fun h=>?_) (fun h=>?_)
 ·have hza:=aF zc ac
  have hzi:=kw (Kf.K2.mul zc ac)
  have hzb:=aF bc (Kf.K2.inv (Kf.K2.mul zc ac))
  obtain⟨x1,hxx⟩:∃x1:F2,x1=Kf.K2.mul bc (Kf.K2.inv (Kf.K2.mul zc ac)):=⟨_,rfl⟩
  have hx1:x1=iq w1:=hxx.trans (hX1 h).symm
  rw[← hxx]at hzb
  generalize Kf.K2.inv (Kf.K2.mul zc ac)=d1 at hzi hzb
  generalize Kf.K2.mul zc ac=d2 at hza hzi
  clear hxx hX1 hX0
  have hr1:=fun u=>ix ha he u x1
  rw[hug]at hr1
  obtain⟨r,hr⟩:∃r,r=cT g x1:=⟨_,rfl⟩
  rw[← hr]at hr1
  have hm3:=aF w1 x1
  obtain⟨x2,hx2⟩:∃x2:F2,x2=Kf.K2.mul w1 x1:=⟨_,rfl⟩
  rw[← hx2]at hm3
  have hr2:=fun u=>ix ha he u x2
  rw[hug]at hr2
  obtain⟨s,hs⟩:∃s,s=cT g x2:=⟨_,rfl⟩
  rw[← hs]at hr2
  have hM1:=fun h=>vj hw hx1 (hr.trans (by rw[hgu])) h
  have hM0:=fun h=>vh hw hx1 (hr.trans (by rw[hgu])) h (hs.trans (by rw[hgu,hx2]))
  rw[← hx2]at hM0
  clear hr hx2 hs hw hx1 hug hgu
  obtain⟨r1,r2⟩:=r
  obtain⟨s1,s2⟩:=s
  simp only at hM1 hM0 hr1 hr2
  cases r2 with
  | true=>
   rw[hM1 rfl]
   clear hM1 hM0
   repeat (first|refine Pp ?_|refine y_4 hza ?_|refine y_4 hzi ?_|refine y_4 hzb ?_|refine lj ?_|refine Z81 fun _=>?_|refine Z82 fun _=>?_)
   repeat (first|(refine bI ?_;intro _)|refine me (hr1 _) ?_|refine lj ?_|refine Z81 fun _=>?_|refine Z82 fun _=>?_)
   refine R.af [0,1,2,3] (by rfl) ?_
   refine R.Zpp (by rfl) (by intro _ _ _;(first|refine y_7 ?_);exact Zq) ?_
   refine R.zF [2,3] [1,3] (by rfl) (by rfl) (by intro _ _ _;(first|refine y_7 ?_);exact Zq) (by intro _ _ _;(first|refine nK ?_);exact Zqq) ?_ ?_
   case' refine_1=>refine R.Zps (by rfl) (by intro _ _ _;(first|refine nK ?_);exact Zqq) ?_
   case' refine_2=>refine R.DM (by rfl) (by intro _ _ _;(first|refine y_7 ?_);exact Zq) ?_
   all_goals refine R.Zps (by rfl) (by intro _ _ _;(first|refine nK ?_);exact Zqq) ?_
   all_goals refine R.Zp0 ?_
   all_goals
    repeat (first|refine lj ?_|refine Z81 fun _=>?_|refine Z82 fun _=>?_)
    refine gC (by rfl) (by rfl) (by rfl) fd fd (by rfl) (by rfl) (by first | with_reducible assumption | (simp[*];done)) (by rfl) (by rfl) (by first | with_reducible assumption | (simp[*];done)) fun _ hw=>aa hw SubW.nil ⟨?_,rfl⟩
    rfl
  | false=>
   rw[hM0 rfl]
   clear hM1 hM0
   repeat (first|refine Pp ?_|refine y_4 hza ?_|refine y_4 hzi ?_|refine y_4 hzb ?_|refine lj ?_|refine Z81 fun _=>?_|refine Z82 fun _=>?_)
   repeat (first|(refine bI ?_;intro _)|refine me (hr1 _) ?_|refine y_4 hm3 ?_|refine me (hr2 _) ?_|refine lj ?_|refine Z81 fun _=>?_|refine Z82 fun _=>?_)
   refine R.af [0,1,2,3] (by rfl) ?_
   refine R.Zpp (by rfl) (by intro _ _ _;(first|refine y_7 ?_);exact Zq) ?_
   refine R.zF [2,3] [1,3] (by rfl) (by rfl) (by intro _ _ _;(first|refine y_7 ?_);exact Zq) (by intro _ _ _;(first|refine nK ?_);exact Zqq) ?_ ?_
   case' refine_1=>refine R.Zps (by rfl) (by intro _ _ _;(first|refine nK ?_);exact Zqq) ?_
   case' refine_2=>refine R.DM (by rfl) (by intro _ _ _;(first|refine y_7 ?_);exact Zq) ?_
   all_goals refine R.Zps (by rfl) (by intro _ _ _;(first|refine nK ?_);exact Zqq) ?_
   all_goals refine R.Zp0 ?_
   all_goals
    repeat (first|refine lj ?_|refine Z81 fun _=>?_|refine Z82 fun _=>?_)
    refine gC (by rfl) (by rfl) (by rfl) fd fd (by rfl) (by rfl) (by first | with_reducible assumption | (simp[*];done)) (by rfl) (by rfl) (by first | with_reducible assumption | (simp[*];done)) fun _ hw=>aa hw SubW.nil ⟨?_,rfl⟩
    rfl
 ·have hit:=kw t
  have hio:=cV Kf.K2.one (Kf.K2.inv t)
  have him:=aF c0 (Kf.K2.add Kf.K2.one (Kf.K2.inv t))
  obtain⟨x1,hxx⟩:∃x1:F2,x1=Kf.K2.mul c0 (Kf.K2.add Kf.K2.one (Kf.K2.inv t)):=⟨_,rfl⟩
  have hx1:x1=iq w1:=hxx.trans (hX0 h).symm
  rw[← hxx]at him
  generalize Kf.K2.add Kf.K2.one (Kf.K2.inv t)=d1 at hio him
  generalize Kf.K2.inv t=d2 at hit hio
  clear hxx hX1 hX0
  repeat (first|refine lj ?_|refine Z81 fun _=>?_|refine Z82 fun _=>?_)
  refine au (by rfl) ?_
  repeat (first|(refine Zqf (by intro _ _ _;(first|refine zu ?_|refine NH ?_|refine fJ ?_|refine fo ?_|refine fI ?_|refine Z01 ?_|refine Z02 ?_|refine Z19 ?_|refine Z48 ?_|refine Z77 ?_|refine Z78 ?_|refine Z79 ?_);exact Zq) ?_)|refine nM ?_|refine bT hit ?_|refine bT hio ?_|refine bT him ?_|refine fu ?_)
  refine Zq0 ?_ (by kernel_rfl)
  have hr1:=fun u=>ix ha he u x1
  rw[hug]at hr1
  obtain⟨r,hr⟩:∃r,r=cT g x1:=⟨_,rfl⟩
  rw[← hr]at hr1
  have hm3:=aF w1 x1
  obtain⟨x2,hx2⟩:∃x2:F2,x2=Kf.K2.mul w1 x1:=⟨_,rfl⟩
  rw[← hx2]at hm3
  have hr2:=fun u=>ix ha he u x2
  rw[hug]at hr2
  obtain⟨s,hs⟩:∃s,s=cT g x2:=⟨_,rfl⟩
  rw[← hs]at hr2
  have hM1:=fun h=>vj hw hx1 (hr.trans (by rw[hgu])) h
  have hM0:=fun h=>vh hw hx1 (hr.trans (by rw[hgu])) h (hs.trans (by rw[hgu,hx2]))
  rw[← hx2]at hM0
  clear hr hx2 hs hw hx1 hug hgu
  obtain⟨r1,r2⟩:=r
  obtain⟨s1,s2⟩:=s
  simp only at hM1 hM0 hr1 hr2
  cases r2 with
  | true=>
   rw[hM1 rfl]
   clear hM1 hM0
   repeat (first|refine lj ?_|refine Z81 fun _=>?_|refine Z82 fun _=>?_)
   repeat (first|(refine bI ?_;intro _)|refine me (hr1 _) ?_|refine lj ?_|refine Z81 fun _=>?_|refine Z82 fun _=>?_)
   refine R.af [0,1,2,3] (by rfl) ?_
   refine R.Zpp (by rfl) (by intro _ _ _;(first|refine y_7 ?_);exact Zq) ?_
   refine R.zF [2,3] [1,3] (by rfl) (by rfl) (by intro _ _ _;(first|refine y_7 ?_);exact Zq) (by intro _ _ _;(first|refine nK ?_);exact Zqq) ?_ ?_
   case' refine_1=>refine R.Zps (by rfl) (by intro _ _ _;(first|refine nK ?_);exact Zqq) ?_
   case' refine_2=>refine R.DM (by rfl) (by intro _ _ _;(first|refine y_7 ?_);exact Zq) ?_
   all_goals refine R.Zps (by rfl) (by intro _ _ _;(first|refine nK ?_);exact Zqq) ?_
   all_goals refine R.Zp0 ?_
   all_goals
    repeat (first|refine lj ?_|refine Z81 fun _=>?_|refine Z82 fun _=>?_)
    refine gC (by rfl) (by rfl) (by rfl) fd fd (by rfl) (by rfl) (by first | with_reducible assumption | (simp[*];done)) (by rfl) (by rfl) (by first | with_reducible assumption | (simp[*];done)) fun _ hw=>aa hw SubW.nil ⟨?_,rfl⟩
    rfl
  | false=>
   rw[hM0 rfl]
   clear hM1 hM0
   repeat (first|refine lj ?_|refine Z81 fun _=>?_|refine Z82 fun _=>?_)
   repeat (first|(refine bI ?_;intro _)|refine me (hr1 _) ?_|refine y_4 hm3 ?_|refine me (hr2 _) ?_|refine lj ?_|refine Z81 fun _=>?_|refine Z82 fun _=>?_)
   refine R.af [0,1,2,3] (by rfl) ?_
   refine R.Zpp (by rfl) (by intro _ _ _;(first|refine y_7 ?_);exact Zq) ?_
   refine R.zF [2,3] [1,3] (by rfl) (by rfl) (by intro _ _ _;(first|refine y_7 ?_);exact Zq) (by intro _ _ _;(first|refine nK ?_);exact Zqq) ?_ ?_
   case' refine_1=>refine R.Zps (by rfl) (by intro _ _ _;(first|refine nK ?_);exact Zqq) ?_
   case' refine_2=>refine R.DM (by rfl) (by intro _ _ _;(first|refine y_7 ?_);exact Zq) ?_
   all_goals refine R.Zps (by rfl) (by intro _ _ _;(first|refine nK ?_);exact Zqq) ?_
   all_goals refine R.Zp0 ?_
   all_goals
    repeat (first|refine lj ?_|refine Z81 fun _=>?_|refine Z82 fun _=>?_)
    refine gC (by rfl) (by rfl) (by rfl) fd fd (by rfl) (by rfl) (by first | with_reducible assumption | (simp[*];done)) (by rfl) (by rfl) (by first | with_reducible assumption | (simp[*];done)) fun _ hw=>aa hw SubW.nil ⟨?_,rfl⟩
    rfl
def c10:F2:=k2 889424345604814976315064405719089812568196182208668418962679585805340366775741747653930584250892369786198727235542 889424345604814976315064405719089812568196182208668418962679585805340366775741747653930584250892369786198727235542
theorem Qh:([7077594464397203414,6640057249351452444,9850925049107374429,3658379999393219626,13500519111022079365,416399692810564414]++List.replicate (6-[7077594464397203414,6640057249351452444,9850925049107374429,3658379999393219626,13500519111022079365,416399692810564414].length) 0)++([7077594464397203414,6640057249351452444,9850925049107374429,3658379999393219626,13500519111022079365,416399692810564414]++List.replicate (6-[7077594464397203414,6640057249351452444,9850925049107374429,3658379999393219626,13500519111022079365,416399692810564414].length) 0)=E2 c10:=by decide +kernel
def c11:F2:=k2 0 2668273036814444928945193217157269437704588546626005256888038757416021100327225242961791752752677109358596181706522
theorem Qi:([0,0,0,0,0,0]++List.replicate (6-[0,0,0,0,0,0].length) 0)++([2786039319482058522,1473427674344805717,11106031073612571672,10975139998179658879,3608069185647134863,1249199078431693244]++List.replicate (6-[2786039319482058522,1473427674344805717,11106031073612571672,10975139998179658879,3608069185647134863,1249199078431693244].length) 0)=E2 c11:=by decide +kernel
def c12:F2:=k2 2668273036814444928945193217157269437704588546626005256888038757416021100327225242961791752752677109358596181706526 1334136518407222464472596608578634718852294273313002628444019378708010550163612621480895876376338554679298090853261
theorem Qj:([2786039319482058526,1473427674344805717,11106031073612571672,10975139998179658879,3608069185647134863,1249199078431693244]++List.replicate (6-[2786039319482058526,1473427674344805717,11106031073612571672,10975139998179658879,3608069185647134863,1249199078431693244].length) 0)++([10616391696595805069,736713837172402858,14776387573661061644,14710942035944605247,1804034592823567431,624599539215846622]++List.replicate (6-[10616391696595805069,736713837172402858,14776387573661061644,14710942035944605247,1804034592823567431,624599539215846622].length) 0)=E2 c12:=by decide +kernel
def c13:F2:=k2 3557697382419259905260257622876359250272784728834673675850718343221361467102966990615722337003569479144794908942033 0
theorem Qk:([9863633783879261905,8113484923696258161,2510212049010394485,14633519997572878506,17108588296669214228,1665598771242257658]++List.replicate (6-[9863633783879261905,8113484923696258161,2510212049010394485,14633519997572878506,17108588296669214228,1665598771242257658].length) 0)++([0,0,0,0,0,0]++List.replicate (6-[0,0,0,0,0,0].length) 0)=E2 c13:=by decide +kernel
def c20:F2:=k2 0 4002409555221667393417789825735904156556882819939007885332058136124031650490837864442687629129015664037894272559715
theorem Ql:([0,0,0,0,0,0]++List.replicate (6-[0,0,0,0,0,0].length) 0)++([13402431016077863523,2210141511517208575,7435674573564081700,7239337960414712511,5412103778470702295,1873798617647539866]++List.replicate (6-[13402431016077863523,2210141511517208575,7435674573564081700,7239337960414712511,5412103778470702295,1873798617647539866].length) 0)=E2 c20:=by decide +kernel
def c21:F2:=k2 12 4002409555221667393417789825735904156556882819939007885332058136124031650490837864442687629129015664037894272559775
theorem Qm:([12,0,0,0,0,0]++List.replicate (6-[12,0,0,0,0,0].length) 0)++([13402431016077863583,2210141511517208575,7435674573564081700,7239337960414712511,5412103778470702295,1873798617647539866]++List.replicate (6-[13402431016077863583,2210141511517208575,7435674573564081700,7239337960414712511,5412103778470702295,1873798617647539866].length) 0)=E2 c21:=by decide +kernel
def c22:F2:=k2 1 0
theorem Qn:([1,0,0,0,0,0]++List.replicate (6-[1,0,0,0,0,0].length) 0)++([0,0,0,0,0,0]++List.replicate (6-[0,0,0,0,0,0].length) 0)=E2 c22:=by decide +kernel
def c30:F2:=k2 3261222600550988246488569487636662646083386001431784202863158481286248011511053074731078808919938689216061999863558 3261222600550988246488569487636662646083386001431784202863158481286248011511053074731078808919938689216061999863558
theorem Qo:([1355520937843676934,18197961889718808424,17673314439684154624,1116230615302104219,6459500568425337235,1526798873638736187]++List.replicate (6-[1355520937843676934,18197961889718808424,17673314439684154624,1116230615302104219,6459500568425337235,1526798873638736187].length) 0)++([1355520937843676934,18197961889718808424,17673314439684154624,1116230615302104219,6459500568425337235,1526798873638736187]++List.replicate (6-[1355520937843676934,18197961889718808424,17673314439684154624,1116230615302104219,6459500568425337235,1526798873638736187].length) 0)=E2 c30:=by decide +kernel
def c31:F2:=k2 0 889424345604814976315064405719089812568196182208668418962679585805340366775741747653930584250892369786198727235518
theorem Qp:([0,0,0,0,0,0]++List.replicate (6-[0,0,0,0,0,0].length) 0)++([7077594464397203390,6640057249351452444,9850925049107374429,3658379999393219626,13500519111022079365,416399692810564414]++List.replicate (6-[7077594464397203390,6640057249351452444,9850925049107374429,3658379999393219626,13500519111022079365,416399692810564414].length) 0)=E2 c31:=by decide +kernel
def c32:F2:=k2 2668273036814444928945193217157269437704588546626005256888038757416021100327225242961791752752677109358596181706524 1334136518407222464472596608578634718852294273313002628444019378708010550163612621480895876376338554679298090853263
theorem Qq:([2786039319482058524,1473427674344805717,11106031073612571672,10975139998179658879,3608069185647134863,1249199078431693244]++List.replicate (6-[2786039319482058524,1473427674344805717,11106031073612571672,10975139998179658879,3608069185647134863,1249199078431693244].length) 0)++([10616391696595805071,736713837172402858,14776387573661061644,14710942035944605247,1804034592823567431,624599539215846622]++List.replicate (6-[10616391696595805071,736713837172402858,14776387573661061644,14710942035944605247,1804034592823567431,624599539215846622].length) 0)=E2 c32:=by decide +kernel
def c33:F2:=k2 2816510427748580758331037284777117739799287910327449993381818688383577828123182200904113516794492504322962636245776 0
theorem Qr:([16263467779354626832,5654561228188306393,12747851915130467410,8510412652460270214,18155985086623849168,1318599027233453979]++List.replicate (6-[16263467779354626832,5654561228188306393,12747851915130467410,8510412652460270214,18155985086623849168,1318599027233453979].length) 0)++([0,0,0,0,0,0]++List.replicate (6-[0,0,0,0,0,0].length) 0)=E2 c33:=by decide +kernel
def c40:F2:=k2 4002409555221667393417789825735904156556882819939007885332058136124031650490837864442687629129015664037894272559355 4002409555221667393417789825735904156556882819939007885332058136124031650490837864442687629129015664037894272559355
theorem Qs:([13402431016077863163,2210141511517208575,7435674573564081700,7239337960414712511,5412103778470702295,1873798617647539866]++List.replicate (6-[13402431016077863163,2210141511517208575,7435674573564081700,7239337960414712511,5412103778470702295,1873798617647539866].length) 0)++([13402431016077863163,2210141511517208575,7435674573564081700,7239337960414712511,5412103778470702295,1873798617647539866]++List.replicate (6-[13402431016077863163,2210141511517208575,7435674573564081700,7239337960414712511,5412103778470702295,1873798617647539866].length) 0)=E2 c40:=by decide +kernel
def c41:F2:=k2 0 4002409555221667393417789825735904156556882819939007885332058136124031650490837864442687629129015664037894272559571
theorem Qt:([0,0,0,0,0,0]++List.replicate (6-[0,0,0,0,0,0].length) 0)++([13402431016077863379,2210141511517208575,7435674573564081700,7239337960414712511,5412103778470702295,1873798617647539866]++List.replicate (6-[13402431016077863379,2210141511517208575,7435674573564081700,7239337960414712511,5412103778470702295,1873798617647539866].length) 0)=E2 c41:=by decide +kernel
def c42:F2:=k2 18 4002409555221667393417789825735904156556882819939007885332058136124031650490837864442687629129015664037894272559769
theorem Qu:([18,0,0,0,0,0]++List.replicate (6-[18,0,0,0,0,0].length) 0)++([13402431016077863577,2210141511517208575,7435674573564081700,7239337960414712511,5412103778470702295,1873798617647539866]++List.replicate (6-[13402431016077863577,2210141511517208575,7435674573564081700,7239337960414712511,5412103778470702295,1873798617647539866].length) 0)=E2 c42:=by decide +kernel
def Q1:List F2:=[c10,c11,c12,c13]
def Q2:List F2:=[c20,c21,c22]
def Q3:List F2:=[c30,c31,c32,c33]
def Q4:List F2:=[c40,c41,c42,c22]
abbrev GE(x y:F2)(i:Bool):Value:=GL (E2 x++E2 y) i
theorem NJ:(List.replicate (12+12) 0:List Nat)=E2 (Kf.K2.zero:F2)++E2 (Kf.K2.zero:F2):=by decide +kernel
def u5(x y:F2):F2×F2×Bool:=
 if pol x Q2=Kf.K2.zero∨pol x Q4=Kf.K2.zero then(Kf.K2.zero,Kf.K2.zero,true)
 else(Kf.K2.mul (pol x Q1) (Kf.K2.inv (pol x Q2)),Kf.K2.mul y (Kf.K2.mul (pol x Q3) (Kf.K2.inv (pol x Q4))),false)
theorem Ro{x y q2 q4:F2}(h2:q2=pol x Q2)(h4:q4=pol x Q4)(h:q2=Kf.K2.zero∨q4=Kf.K2.zero):u5 x y=(Kf.K2.zero,Kf.K2.zero,true):=by
 subst h2
 subst h4
 exact if_pos h
theorem HK{x y q1 q2 q3 q4:F2}(h1:q1=pol x Q1)(h2:q2=pol x Q2)(h3:q3=pol x Q3)(h4:q4=pol x Q4)(n2:¬q2=Kf.K2.zero)(n4:¬q4=Kf.K2.zero):u5 x y=(Kf.K2.mul q1 (Kf.K2.inv q2),Kf.K2.mul y (Kf.K2.mul q3 (Kf.K2.inv q4)),false):=by
 subst h1
 subst h2
 subst h3
 subst h4
 exact if_neg fun h=>h.elim n2 n4
theorem Vi{a b:Nat}(ha:a<W^6)(hb:b<W^6)(x:F2):Spec Tryz.prog 57 [LV .u64 (D 6 a++D 6 b),LV .u64 (E2 x)] ai [] (IsV (LV .u64 (E2 (Kf.K2.mul (k2 a b) x)))):=by
 have:=gL ha hb (ap x.re) (ap x.im);rwa [bq]at this
theorem co{a b:Prop}(k:b)(h:Rm b→a:=by intro k;refine aq (E:=36) (v:=GL (List.replicate 24 0) false) (by kernel_rfl) (by rfl) ?_;exact k.h):a:=h ⟨k⟩
theorem C8{a b:Prop}(k:b)(h:Rm b→a:=by intro k;refine oy (m:=6) (kk:=.u64) (by rfl) (by rfl) (by rfl) (by rfl) (by rfl) (by rfl) (by rfl) (by rfl) ?_;exact k.h):a:=h ⟨k⟩
theorem pb{a b:Prop}(k:b)(h:Rm b→a:=by intro k;(first|refine Z01 ?_|refine Z03 ?_|refine Z04 ?_|refine Z05 ?_|refine Z06 ?_|refine Z07 ?_|refine Z08 ?_|refine Z09 ?_|refine Z10 ?_|refine Z11 ?_|refine Z12 ?_|refine Z13 ?_|refine Z14 ?_|refine Z24 ?_|refine Z26 ?_|refine Z27 ?_|refine Z29 ?_|refine Z30 ?_|refine Z31 ?_|refine Z32 ?_|refine Z49 ?_|refine Z50 ?_|refine Z51 ?_|refine Z52 ?_|refine Z67 ?_|refine Z77 ?_|refine Z78 ?_|refine Z79 ?_);exact k.h):a:=h ⟨k⟩
theorem pc{a b:Prop}(k:b)(h:Rm b→a:=by intro k;refine rT (m:=12) (by rfl) (by rfl) (by kernel_rfl) (by rfl) (by rfl) ?_;rw[NJ];exact k.h):a:=h ⟨k⟩
theorem dt{a b:Prop}(k:b)(h:Rm b→a:=by intro k;refine eK (m:=24) (by rfl) (by rfl) fd (by rfl) (by first|with_reducible assumption|simp) (by first|with_reducible assumption|simp) ?_;exact k.h):a:=h ⟨k⟩
theorem yZ{a b:Prop}(k:b)(h:Rm b→a:=by intro k;refine tT (m:=12) (by rfl) (by rfl) (by kernel_rfl) (by rfl) (by simp;done) (by simp;done) (by rfl) ?_;exact k.h):a:=h ⟨k⟩
theorem r8{a b:Prop}(k:b)(h:Rm b→a:=by intro k;refine R.Zps (by rfl) (by intro _ _ _;refine eK (m:=24) (by rfl) (by rfl) fd (by rfl) (by first|with_reducible assumption|simp) (by first|with_reducible assumption|simp) ?_;exact Zqq) ?_;exact k.h):a:=h ⟨k⟩
theorem Pq{a b:Prop}(k:b)(h:Rm b→a:=by intro k;(first|refine pc ?_|refine dt ?_|refine Z01 ?_|refine Z03 ?_|refine Z04 ?_|refine Z05 ?_|refine Z06 ?_|refine Z07 ?_|refine Z08 ?_|refine Z09 ?_|refine Z10 ?_|refine Z11 ?_|refine Z12 ?_|refine Z13 ?_|refine Z14 ?_|refine Z24 ?_|refine Z26 ?_|refine Z27 ?_|refine Z29 ?_|refine Z30 ?_|refine Z31 ?_|refine Z32 ?_|refine Z49 ?_|refine Z50 ?_|refine Z51 ?_|refine Z52 ?_|refine Z67 ?_|refine Z77 ?_|refine Z78 ?_|refine Z79 ?_);exact k.h):a:=h ⟨k⟩
theorem gb{a b:Prop}(k:b)(h:Rm b→a:=by intro k;(first|refine aA ?_|refine r8 ?_);exact k.h):a:=h ⟨k⟩
set_option maxHeartbeats 16000000 in
theorem HM{a e f g:Nat}(ha:a<W^6)(he:e<W^6)(hf:f<W^6)(hg:g<W^6):Spec Tryz.prog 42 [LV .u64 (D 6 a++D 6 e),LV .u64 (D 6 f++D 6 g)] ai [] (IsV (GE (u5 (k2 a e) (k2 f g)).1 (u5 (k2 a e) (k2 f g)).2.1 (u5 (k2 a e) (k2 f g)).2.2)):=by
 refine ad Tryz.func42 rfl rfl rfl fun w _=>?_
 have hl0:=fun x=>ae 6 x
 have hle:=fun x:F2=>ak x
 have hp1:∀b,Spec Tryz.prog 81 [LV .u64 (D 6 a++D 6 e),slv b 4] (fun w=>eN w b (LV .u64 (Q1.map E2).flatten) 34) [] (IsV (LV .u64 (E2 (pol (k2 a e) Q1)))):=fun b=>i8 ha he b 4 Q1 rfl (by decide)
 have hp2:∀b,Spec Tryz.prog 81 [LV .u64 (D 6 a++D 6 e),slv b 3] (fun w=>eN w b (LV .u64 (Q2.map E2).flatten) 34) [] (IsV (LV .u64 (E2 (pol (k2 a e) Q2)))):=fun b=>i8 ha he b 3 Q2 rfl (by decide)
 have hp3:∀b,Spec Tryz.prog 81 [LV .u64 (D 6 a++D 6 e),slv b 4] (fun w=>eN w b (LV .u64 (Q3.map E2).flatten) 34) [] (IsV (LV .u64 (E2 (pol (k2 a e) Q3)))):=fun b=>i8 ha he b 4 Q3 rfl (by decide)
 have hp4:∀b,Spec Tryz.prog 81 [LV .u64 (D 6 a++D 6 e),slv b 4] (fun w=>eN w b (LV .u64 (Q4.map E2).flatten) 34) [] (IsV (LV .u64 (E2 (pol (k2 a e) Q4)))):=fun b=>i8 ha he b 4 Q4 rfl (by decide)
 have hmy:=fun x=>Vi hf hg x
 generalize k2 a e=x at hp1 hp2 hp3 hp4
 generalize k2 f g=y at hmy
 obtain⟨q1,h1⟩:∃q,q=pol x Q1:=⟨_,rfl⟩
 obtain⟨q2,h2⟩:∃q,q=pol x Q2:=⟨_,rfl⟩
 obtain⟨q3,h3⟩:∃q,q=pol x Q3:=⟨_,rfl⟩
 obtain⟨q4,h4⟩:∃q,q=pol x Q4:=⟨_,rfl⟩
 have hI1:=Ro (y:=y) h2 h4
 have hI0:=HK (y:=y) h1 h2 h3 h4
 rw[← h1]at hp1
 rw[← h2]at hp2
 rw[← h3]at hp3
 rw[← h4]at hp4
 clear h1 h2 h3 h4
 repeat (first|(refine bI ?_;intro _)|(refine co ?_;intro _)|refine C8 ?_|(refine cA (by rfl) (by rfl) (by rfl) (by rfl) (by simp;done) (by simp;done) (by rfl) ?_;first | rw[Qh] | rw[Qi] | rw[Qj] | rw[Qk] | rw[Ql] | rw[Qm] | rw[Qn] | rw[Qo] | rw[Qp] | rw[Qq] | rw[Qr] | rw[Qs] | rw[Qt] | rw[Qu])|refine av (m:=12) (kk:=.u64) (vss:=Q2.map E2) (by rfl) (by rfl) (by rfl) (by rfl) (by rfl) (by rfl) (by rfl) kl (by rfl) (by rfl) fun _=>?_|refine av (m:=12) (kk:=.u64) (vss:=Q4.map E2) (by rfl) (by rfl) (by rfl) (by rfl) (by rfl) (by rfl) (by rfl) kl (by rfl) (by rfl) fun _=>?_|refine me (hp2 _) ?_|refine me (hp4 _) ?_|refine pb ?_|refine Z81 fun _=>?_|refine Z82 fun _=>?_|refine Z85 fun _=>?_)
 by_cases z2:q2=Kf.K2.zero
 ·have hz2:(decide (D 6 q2.re.val=D 6 (Kf.K2.zero:F2).re.val)&&decide (D 6 q2.im.val=D 6 (Kf.K2.zero:F2).im.val))=true:=by rw[z2];exact fM _
  rw[hI1 (.inl z2)]
  repeat (first|refine nO ?_|refine dJ hz2 ?_|refine Pq ?_|refine Z81 fun _=>?_|refine Z82 fun _=>?_|refine Z85 fun _=>?_)
  refine aQ (m:=24) (by rfl) (by rfl) fd (by rfl) (by rfl) (by first|with_reducible assumption|simp) fun _ hw=>aa hw SubW.nil ⟨?_,rfl⟩
  rfl
 ·by_cases z4:q4=Kf.K2.zero
  ·have hz4:(decide (D 6 q4.re.val=D 6 (Kf.K2.zero:F2).re.val)&&decide (D 6 q4.im.val=D 6 (Kf.K2.zero:F2).im.val))=true:=by rw[z4];exact fM _
   rw[hI1 (.inr z4)]
   repeat (first|refine nO ?_|refine dJ (cN z2) ?_|refine dJ hz4 ?_|refine Pq ?_|refine Z81 fun _=>?_|refine Z82 fun _=>?_|refine Z85 fun _=>?_)
   refine aQ (m:=24) (by rfl) (by rfl) fd (by rfl) (by rfl) (by first|with_reducible assumption|simp) fun _ hw=>aa hw SubW.nil ⟨?_,rfl⟩
   rfl
  ·rw[hI0 z2 z4]
   have hi2:=kw q2
   have hm2:=aF q1 (Kf.K2.inv q2)
   have hi4:=kw q4
   have hm4:=aF q3 (Kf.K2.inv q4)
   have hmm:=hmy (Kf.K2.mul q3 (Kf.K2.inv q4))
   generalize Kf.K2.mul y (Kf.K2.mul q3 (Kf.K2.inv q4))=s1 at hmm ⊢
   generalize Kf.K2.mul q3 (Kf.K2.inv q4)=s2 at hm4 hmm
   generalize Kf.K2.inv q4=s3 at hi4 hm4
   generalize Kf.K2.mul q1 (Kf.K2.inv q2)=s4 at hm2 ⊢
   generalize Kf.K2.inv q2=s5 at hi2 hm2
   clear hI0 hI1
   repeat (first|(refine bI ?_;intro _)|refine C8 ?_|(refine cA (by rfl) (by rfl) (by rfl) (by rfl) (by simp;done) (by simp;done) (by rfl) ?_;first | rw[Qh] | rw[Qi] | rw[Qj] | rw[Qk] | rw[Ql] | rw[Qm] | rw[Qn] | rw[Qo] | rw[Qp] | rw[Qq] | rw[Qr] | rw[Qs] | rw[Qt] | rw[Qu])|refine nO ?_|refine dJ (cN z2) ?_|refine dJ (cN z4) ?_|refine av (m:=12) (kk:=.u64) (vss:=Q1.map E2) (by rfl) (by rfl) (by rfl) (by rfl) (by rfl) (by rfl) (by rfl) kl (by rfl) (by rfl) fun _=>?_|refine me (hp1 _) ?_|refine pb ?_|refine Z81 fun _=>?_|refine Z82 fun _=>?_|refine Z85 fun _=>?_)
   clear hp1
   repeat (first|(refine bI ?_;intro _)|refine C8 ?_|(refine cA (by rfl) (by rfl) (by rfl) (by rfl) (by simp;done) (by simp;done) (by rfl) ?_;first | rw[Qh] | rw[Qi] | rw[Qj] | rw[Qk] | rw[Ql] | rw[Qm] | rw[Qn] | rw[Qo] | rw[Qp] | rw[Qq] | rw[Qr] | rw[Qs] | rw[Qt] | rw[Qu])|refine av (m:=12) (kk:=.u64) (vss:=Q3.map E2) (by rfl) (by rfl) (by rfl) (by rfl) (by rfl) (by rfl) (by rfl) kl (by rfl) (by rfl) fun _=>?_|refine me (hp3 _) ?_|refine pb ?_|refine Z81 fun _=>?_|refine Z82 fun _=>?_|refine Z85 fun _=>?_)
   refine R.af [0,1,2,3,4,5,6,7,8,9,10,11] (by rfl) ?_
   repeat (first|(refine R.Zpf (by rfl) (by intro _ _ _;(first|refine yZ ?_|refine eP ?_|refine fo ?_|refine fI ?_|refine Z01 ?_|refine Z49 ?_|refine Z50 ?_|refine Z77 ?_|refine Z78 ?_|refine Z79 ?_);exact Zq) ?_)|refine aL ?_|refine cz ?_|refine ag hi2 ?_|refine ag hm2 ?_|refine ag hi4 ?_|refine ag hm4 ?_|refine ag hmm ?_|refine gb ?_|(refine sA ?_;intro _))
   refine R.Zp0 ?_
   repeat (first|refine pb ?_|refine Z81 fun _=>?_|refine Z82 fun _=>?_|refine Z85 fun _=>?_)
   refine aQ (m:=24) (by rfl) (by rfl) fd (by rfl) (by rfl) (by first|with_reducible assumption|simp) fun _ hw=>aa hw SubW.nil ⟨?_,rfl⟩
   rfl
end
section
attribute [local irreducible] Code.wp wpList Af bodyPost L.Go
open Num
theorem CG(x:F2):cm x=Kf.K2.add (Kf.K2.add (Kf.K2.mul (Kf.K2.mul x x) x) (Kf.K2.mul ac x)) bc:=by
 have h1:cm x=Kf.K2.add (Kf.K2.mul (Kf.K2.add (Kf.K2.mul (Kf.K2.add (Kf.K2.mul (Kf.K2.add (Kf.K2.mul Kf.K2.zero x) Kf.K2.one) x) Kf.K2.zero) x) ac) x) bc:=rfl
 rw[h1,Kf.K2.aG,Kf.K2.aM,Kf.K2.aR,Kf.K2.add_zero',Kf.K2.cQ]
def AH:List F2→List F2→List F2
 | [],q=>q
 | a::p,[]=>a::p
 | a::p,b::q=>Kf.K2.add a b::AH p q
def jV:List F2→List F2→List F2
 | [],_=>[]
 | a::p,q=>AH (q.map (Kf.K2.mul a)) (Kf.K2.zero::jV p q)
theorem gU(x c:F2)(r:List F2):pol x (c::r)=Kf.K2.add (Kf.K2.mul (pol x r) x) c:=rfl
theorem pP(x:F2):pol x []=Kf.K2.zero:=rfl
theorem rv(x:F2):∀p q:List F2,pol x (AH p q)=Kf.K2.add (pol x p) (pol x q)
 | [],q=>by rw[AH,pP,Kf.K2.aM]
 | a::p,[]=>by rw[AH,pP,Kf.K2.add_zero']
 | a::p,b::q=>by
  rw[AH,gU,gU,gU,rv x p q,Kf.K2.cQ]
  ac_rfl
theorem tJ(x a:F2):∀q:List F2,pol x (q.map (Kf.K2.mul a))=Kf.K2.mul a (pol x q)
 | []=>by rw[List.map_nil,pP,Kf.K2.aj]
 | b::q=>by
  rw[List.map_cons,gU,gU,tJ x a q,Kf.K2.mul_add',Kf.K2.mul_assoc']
theorem cS(x:F2):∀p q:List F2,pol x (jV p q)=Kf.K2.mul (pol x p) (pol x q)
 | [],q=>by rw[jV,pP,Kf.K2.aG]
 | a::p,q=>by
  rw[jV,rv,tJ,gU,gU,cS x p q,Kf.K2.add_zero',Kf.K2.cQ,Kf.K2.add_comm']
  congr 1
  ac_rfl
theorem NO:ac≠Kf.K2.zero:=by decide +kernel
theorem DI:zc≠Kf.K2.zero:=by decide +kernel
theorem UA:Kf.isq (kp 5)=false:=by
 have h:Kf.isq (-kp 5)=true:=(Kf.ca p_3).2 ⟨kp 3754115229487400743760384662840082984744650971178826659753975400945528899667118516813924993650507119217982417812692,by decide +kernel⟩
 have h2:=Kf.fP p_3 (a:=kp 5) (by decide +kernel)
 rw[h]at h2
 cases h3:Kf.isq (kp 5)
 ·rfl
 ·rw[h3]at h2;exact absurd h2 (by decide)
theorem PY:Kf.K2.gv zc=false:=by
 rw[Kf.K2.fC p_3,show Kf.K2.bW zc=kp 5 by decide +kernel]
 exact UA
theorem AC:Kf.K2.gv (Kf.K2.neg Kf.K2.one:F2)=true:=(Kf.K2.eY p_3).2 ⟨⟨0,1⟩,by decide +kernel⟩
theorem NK:Kf.K2.gv (Kf.K2.zero:F2)=true:=(Kf.K2.eY p_3).2 ⟨Kf.K2.zero,by decide +kernel⟩
theorem C6{u:F2}(h:wz u=Kf.K2.zero):u=Kf.K2.zero:=by
 rcases Kf.K2.aW p_3 h with h1 | h1
 ·exact absurd h1 DI
 ·rcases Kf.K2.aW p_3 h1 with h2 | h2 <;> exact h2
theorem Ns{u:F2}(h:tz (wz u)=Kf.K2.zero):u=Kf.K2.zero:=by
 have e:tz (wz u)=Kf.K2.mul (wz u) (Kf.K2.add (wz u) Kf.K2.one):=by rw[tz,Kf.K2.mul_add',Kf.K2.mul_one']
 rw[e]at h
 rcases Kf.K2.aW p_3 h with h1 | h1
 ·exact C6 h1
 ·exfalso
  have h2:wz u=Kf.K2.neg Kf.K2.one:=Kf.K2.aP h1
  have hu:u≠Kf.K2.zero:=by
   rintro rfl
   rw[wz,Kf.K2.aj,Kf.K2.aj]at h2
   exact absurd h2 (by decide +kernel)
  have h3:=Kf.K2.qY p_3 DI (Kf.K2.bQ p_3 hu hu)
  rw[show Kf.K2.mul zc (Kf.K2.mul u u)=wz u from rfl,h2,AC,PY,Kf.K2.B5 p_3]at h3
  exact absurd h3 (by decide)
def x00:F2:=k2 253485938497372268249793355629940596581935911929470499404363681954522004531086398081370216511504325389066637262119 3241951739729550588668409758846082366811075084150596387118967090260465636897578670198576979594502687870694360773430
def y00:F2:=k2 391013756818087021228608844186469378708965029305944648629640836944759185027123020480318340657013194950516187264795 3578796461873081174841411974298466426866052387096285028890861355461367155938811896227938614244375769879856986283402
theorem SY:iq (wz Kf.K2.zero)=x00:=by
 rw[iq,if_pos (by decide +kernel)]
 exact Kf.K2.dy p_3 (by decide +kernel) (by decide +kernel)
theorem SZ:Kf.K2.mul y00 y00=cm x00:=by decide +kernel
theorem Sp{u:F2}(h:¬u=Kf.K2.zero):cm (Kf.K2.mul (wz u) (iq (wz u)))=Kf.K2.mul (Kf.K2.mul (Kf.K2.mul (wz u) (wz u)) (wz u)) (cm (iq (wz u))):=by
 have ht:¬tz (wz u)=Kf.K2.zero:=fun e=>h (Ns e)
 rw[CG,CG]
 refine Kf.K2.Jn (s:=Kf.K2.inv (tz (wz u))) (Kf.K2.aI p_3 ht) ?_
 rw[iq,if_neg ht]
 exact Kf.K2.Sx (Kf.K2.aI p_3 NO)
theorem Ir{u:F2}(h:Kf.K2.gv (cm (iq (wz u)))=false):Kf.K2.gv (cm (Kf.K2.mul (wz u) (iq (wz u))))=true:=by
 by_cases hu:u=Kf.K2.zero
 ·subst hu
  rw[SY]at h
  have:=(Kf.K2.eY p_3).2 ⟨y00,SZ⟩
  rw[h]at this
  exact absurd this (by decide)
 ·rw[Sp hu]
  have hs:cm (iq (wz u))≠Kf.K2.zero:=by
   intro e
   rw[e,NK]at h
   exact absurd h (by decide)
  have e:Kf.K2.mul (Kf.K2.mul (Kf.K2.mul (wz u) (wz u)) (wz u)) (cm (iq (wz u)))=Kf.K2.mul (Kf.K2.mul zc (cm (iq (wz u)))) (Kf.K2.mul (Kf.K2.mul (wz u) u) (Kf.K2.mul (wz u) u)):=by
   have:Kf.K2.mul (Kf.K2.mul (wz u) (wz u)) (wz u)=Kf.K2.mul (Kf.K2.mul (wz u) (wz u)) (Kf.K2.mul zc (Kf.K2.mul u u)):=rfl
   rw[this]
   ac_rfl
  have hw:wz u≠Kf.K2.zero:=fun e=>hu (C6 e)
  have hm:=Kf.K2.bQ p_3 hw hu
  rw[e,Kf.K2.qY p_3 (Kf.K2.bQ p_3 DI hs) (Kf.K2.bQ p_3 hm hm),Kf.K2.qY p_3 DI hs,Kf.K2.B5 p_3,PY,h]
  rfl
theorem MQ{g:Nat}{r s:F2×Bool}{y:F2}(h2:Kf.K2.mul r.1 r.1=y)(h1:Kf.K2.sgn r.1=g→s=(r.1,r.2))(h0:¬Kf.K2.sgn r.1=g→s=(Kf.K2.neg r.1,r.2)):Kf.K2.mul s.1 s.1=y:=by
 by_cases hg:Kf.K2.sgn r.1=g
 ·rw[h1 hg];exact h2
 ·rw[h0 hg]
  show Kf.K2.mul (Kf.K2.neg r.1) (Kf.K2.neg r.1)=y
  rw[Kf.K2.oR];exact h2
theorem Jb{g:Nat}(hg2:g<2){r s:F2×Bool}(hr:r.1≠Kf.K2.zero)(h1:Kf.K2.sgn r.1=g→s=(r.1,r.2))(h0:¬Kf.K2.sgn r.1=g→s=(Kf.K2.neg r.1,r.2)):Kf.K2.sgn s.1=g:=by
 by_cases hg:Kf.K2.sgn r.1=g
 ·rw[h1 hg];exact hg
 ·rw[h0 hg]
  show Kf.K2.sgn (Kf.K2.neg r.1)=g
  have e1:=Kf.K2.ye p_3 hr
  have e2:=Kf.K2.AS r.1
  omega
theorem yb{g:Nat}{x:F2}(h:Kf.K2.gv (cm x)=true):Kf.K2.mul (cT g x).1 (cT g x).1=cm x:=by
 rcases Kf.K2.jF p_3 (cm x)with⟨_,h2,_⟩ | ⟨h1,_,_⟩
 ·exact MQ h2 (pT rfl rfl) (pS rfl rfl)
 ·rw[Kf.K2.qX,h1]at h
  exact absurd h (by decide)
theorem EQ{g:Nat}(hg:g<2){x:F2}(h:Kf.K2.gv (cm x)=true)(hs:cm x≠Kf.K2.zero):Kf.K2.sgn (cT g x).1=g:=by
 rcases Kf.K2.jF p_3 (cm x)with⟨_,h2,_⟩ | ⟨h1,_,_⟩
 ·refine Jb hg (fun e=>hs ?_) (pT rfl rfl) (pS rfl rfl)
  rw[← h2,e,Kf.K2.aj]
 ·rw[Kf.K2.qX,h1]at h
  exact absurd h (by decide)
theorem Jg{g:Nat}{r s:F2×Bool}{b:Bool}(hb:b=r.2)(h1:Kf.K2.sgn r.1=g→s=(r.1,r.2))(h0:¬Kf.K2.sgn r.1=g→s=(Kf.K2.neg r.1,r.2)):s.2=b:=by
 by_cases hg:Kf.K2.sgn r.1=g
 ·rw[h1 hg];exact hb.symm
 ·rw[h0 hg];exact hb.symm
theorem pU(g:Nat)(x:F2):(cT g x).2=Kf.K2.gv (cm x):=Jg (Kf.K2.qX _) (pT rfl rfl) (pS rfl rfl)
theorem Ek(u:F2):∃x,i6 u=(x,(cT (Kf.K2.sgn u) x).1)∧Kf.K2.gv (cm x)=true:=by
 cases h:(cT (Kf.K2.sgn u) (iq (wz u))).2
 ·have e:=vh (u:=u) rfl rfl rfl h rfl
  rw[pU]at h
  exact⟨_,e,Ir h⟩
 ·have e:=vj (u:=u) rfl rfl rfl h
  rw[pU]at h
  exact⟨_,e,h⟩
theorem Cc(u:F2):Kf.K2.mul (i6 u).2 (i6 u).2=cm (i6 u).1:=by
 obtain⟨x,e,h⟩:=Ek u
 rw[e]
 exact yb h
end
end Go.Proofs.YtndhfbecpghinaaGreat.L
