/- What the proof of the statement about TopApart stands on, part D. Conditions: as each statement says. -/
import Derived.Test.YtndhfbecpghinaaGreatTopApartC
import Derived.Test.YtndhfbecpghinaaGreatProg
namespace Go.Proofs.YtndhfbecpghinaaGreat.L.Kf
open Pr
instance crK (n:Nat) [NeZero n]:CR (K2 n) where
 zero:=K2.zero
 one:=K2.one
 add:=K2.add
 mul:=K2.mul
 neg:=K2.neg
 sub:=K2.sub
 add_comm':=K2.add_comm'
 add_assoc':=K2.add_assoc'
 add_zero':=K2.add_zero'
 add_neg':=K2.add_neg'
 mul_comm':=K2.mul_comm'
 mul_assoc':=K2.mul_assoc'
 mul_one':=K2.mul_one'
 mul_add':=K2.mul_add'
 sub_eq:=K2.sub_eq
def K2.xi{n:Nat}[NeZero n]:K2 n:=⟨1,1⟩
theorem K2.of0{n:Nat}[NeZero n]:(CR.ofZ 0:K2 n)=K2.zero:=rfl
theorem K2.of1{n:Nat}[NeZero n]:(CR.ofZ 1:K2 n)=K2.one:=CR.dL
structure T6 (n:Nat) where
 a:K2 n
 b:K2 n
 c:K2 n
deriving DecidableEq
namespace T6
variable {n:Nat} [NeZero n]
theorem ext'{n:Nat}{x y:T6 n}(h1:x.a=y.a)(h2:x.b=y.b)(h3:x.c=y.c):x=y:=by
 cases x;cases y;cases h1;cases h2;cases h3;rfl
def zero:T6 n:=⟨K2.zero,K2.zero,K2.zero⟩
def one:T6 n:=⟨K2.one,K2.zero,K2.zero⟩
def add(x y:T6 n):T6 n:=⟨K2.add x.a y.a,K2.add x.b y.b,K2.add x.c y.c⟩
def sub(x y:T6 n):T6 n:=⟨K2.sub x.a y.a,K2.sub x.b y.b,K2.sub x.c y.c⟩
def neg(x:T6 n):T6 n:=⟨K2.neg x.a,K2.neg x.b,K2.neg x.c⟩
def mul(x y:T6 n):T6 n:=⟨K2.add (K2.mul x.a y.a) (K2.mul K2.xi (K2.add (K2.mul x.b y.c) (K2.mul x.c y.b))),K2.add (K2.add (K2.mul x.a y.b) (K2.mul x.b y.a)) (K2.mul K2.xi (K2.mul x.c y.c)),K2.add (K2.add (K2.mul x.a y.c) (K2.mul x.b y.b)) (K2.mul x.c y.a)⟩
attribute [local irreducible] K2.add K2.mul K2.sub K2.neg K2.zero K2.one K2.inv K2.xi
theorem mul_comm'(x y:T6 n):mul x y=mul y x:=ext'
  (CR.aH (x:=(.a (.m (.v 0) (.v 3)) (.m (.v 6) (.a (.m (.v 1) (.v 5)) (.m (.v 2) (.v 4)))))) (y:=(.a (.m (.v 3) (.v 0)) (.m (.v 6) (.a (.m (.v 4) (.v 2)) (.m (.v 5) (.v 1)))))) (by decide +kernel) [x.a,x.b,x.c,y.a,y.b,y.c,K2.xi])
  (CR.aH (x:=(.a (.a (.m (.v 0) (.v 4)) (.m (.v 1) (.v 3))) (.m (.v 6) (.m (.v 2) (.v 5))))) (y:=(.a (.a (.m (.v 3) (.v 1)) (.m (.v 4) (.v 0))) (.m (.v 6) (.m (.v 5) (.v 2))))) (by decide +kernel) [x.a,x.b,x.c,y.a,y.b,y.c,K2.xi])
  (CR.aH (x:=(.a (.a (.m (.v 0) (.v 5)) (.m (.v 1) (.v 4))) (.m (.v 2) (.v 3)))) (y:=(.a (.a (.m (.v 3) (.v 2)) (.m (.v 4) (.v 1))) (.m (.v 5) (.v 0)))) (by decide +kernel) [x.a,x.b,x.c,y.a,y.b,y.c,K2.xi])
theorem mul_assoc'(x y z:T6 n):mul (mul x y) z=mul x (mul y z):=ext'
  (CR.aH (x:=(.a (.m (.a (.m (.v 0) (.v 3)) (.m (.v 9) (.a (.m (.v 1) (.v 5)) (.m (.v 2) (.v 4))))) (.v 6)) (.m (.v 9) (.a (.m (.a (.a (.m (.v 0) (.v 4)) (.m (.v 1) (.v 3))) (.m (.v 9) (.m (.v 2) (.v 5)))) (.v 8)) (.m (.a (.a (.m (.v 0) (.v 5)) (.m (.v 1) (.v 4))) (.m (.v 2) (.v 3))) (.v 7)))))) (y:=(.a (.m (.v 0) (.a (.m (.v 3) (.v 6)) (.m (.v 9) (.a (.m (.v 4) (.v 8)) (.m (.v 5) (.v 7)))))) (.m (.v 9) (.a (.m (.v 1) (.a (.a (.m (.v 3) (.v 8)) (.m (.v 4) (.v 7))) (.m (.v 5) (.v 6)))) (.m (.v 2) (.a (.a (.m (.v 3) (.v 7)) (.m (.v 4) (.v 6))) (.m (.v 9) (.m (.v 5) (.v 8))))))))) (by decide +kernel) [x.a,x.b,x.c,y.a,y.b,y.c,z.a,z.b,z.c,K2.xi])
  (CR.aH (x:=(.a (.a (.m (.a (.m (.v 0) (.v 3)) (.m (.v 9) (.a (.m (.v 1) (.v 5)) (.m (.v 2) (.v 4))))) (.v 7)) (.m (.a (.a (.m (.v 0) (.v 4)) (.m (.v 1) (.v 3))) (.m (.v 9) (.m (.v 2) (.v 5)))) (.v 6))) (.m (.v 9) (.m (.a (.a (.m (.v 0) (.v 5)) (.m (.v 1) (.v 4))) (.m (.v 2) (.v 3))) (.v 8))))) (y:=(.a (.a (.m (.v 0) (.a (.a (.m (.v 3) (.v 7)) (.m (.v 4) (.v 6))) (.m (.v 9) (.m (.v 5) (.v 8))))) (.m (.v 1) (.a (.m (.v 3) (.v 6)) (.m (.v 9) (.a (.m (.v 4) (.v 8)) (.m (.v 5) (.v 7))))))) (.m (.v 9) (.m (.v 2) (.a (.a (.m (.v 3) (.v 8)) (.m (.v 4) (.v 7))) (.m (.v 5) (.v 6))))))) (by decide +kernel) [x.a,x.b,x.c,y.a,y.b,y.c,z.a,z.b,z.c,K2.xi])
  (CR.aH (x:=(.a (.a (.m (.a (.m (.v 0) (.v 3)) (.m (.v 9) (.a (.m (.v 1) (.v 5)) (.m (.v 2) (.v 4))))) (.v 8)) (.m (.a (.a (.m (.v 0) (.v 4)) (.m (.v 1) (.v 3))) (.m (.v 9) (.m (.v 2) (.v 5)))) (.v 7))) (.m (.a (.a (.m (.v 0) (.v 5)) (.m (.v 1) (.v 4))) (.m (.v 2) (.v 3))) (.v 6)))) (y:=(.a (.a (.m (.v 0) (.a (.a (.m (.v 3) (.v 8)) (.m (.v 4) (.v 7))) (.m (.v 5) (.v 6)))) (.m (.v 1) (.a (.a (.m (.v 3) (.v 7)) (.m (.v 4) (.v 6))) (.m (.v 9) (.m (.v 5) (.v 8)))))) (.m (.v 2) (.a (.m (.v 3) (.v 6)) (.m (.v 9) (.a (.m (.v 4) (.v 8)) (.m (.v 5) (.v 7)))))))) (by decide +kernel) [x.a,x.b,x.c,y.a,y.b,y.c,z.a,z.b,z.c,K2.xi])
theorem mul_add'(x y z:T6 n):mul x (add y z)=add (mul x y) (mul x z):=ext'
  (CR.aH (x:=(.a (.m (.v 0) (.a (.v 3) (.v 6))) (.m (.v 9) (.a (.m (.v 1) (.a (.v 5) (.v 8))) (.m (.v 2) (.a (.v 4) (.v 7))))))) (y:=(.a (.a (.m (.v 0) (.v 3)) (.m (.v 9) (.a (.m (.v 1) (.v 5)) (.m (.v 2) (.v 4))))) (.a (.m (.v 0) (.v 6)) (.m (.v 9) (.a (.m (.v 1) (.v 8)) (.m (.v 2) (.v 7))))))) (by decide +kernel) [x.a,x.b,x.c,y.a,y.b,y.c,z.a,z.b,z.c,K2.xi])
  (CR.aH (x:=(.a (.a (.m (.v 0) (.a (.v 4) (.v 7))) (.m (.v 1) (.a (.v 3) (.v 6)))) (.m (.v 9) (.m (.v 2) (.a (.v 5) (.v 8)))))) (y:=(.a (.a (.a (.m (.v 0) (.v 4)) (.m (.v 1) (.v 3))) (.m (.v 9) (.m (.v 2) (.v 5)))) (.a (.a (.m (.v 0) (.v 7)) (.m (.v 1) (.v 6))) (.m (.v 9) (.m (.v 2) (.v 8)))))) (by decide +kernel) [x.a,x.b,x.c,y.a,y.b,y.c,z.a,z.b,z.c,K2.xi])
  (CR.aH (x:=(.a (.a (.m (.v 0) (.a (.v 5) (.v 8))) (.m (.v 1) (.a (.v 4) (.v 7)))) (.m (.v 2) (.a (.v 3) (.v 6))))) (y:=(.a (.a (.a (.m (.v 0) (.v 5)) (.m (.v 1) (.v 4))) (.m (.v 2) (.v 3))) (.a (.a (.m (.v 0) (.v 8)) (.m (.v 1) (.v 7))) (.m (.v 2) (.v 6))))) (by decide +kernel) [x.a,x.b,x.c,y.a,y.b,y.c,z.a,z.b,z.c,K2.xi])
theorem mul_one'(x:T6 n):mul x one=x:=by
 unfold mul one
 simp only[K2.aj,K2.mul_one',K2.add_zero',K2.aM]
instance:CR (T6 n) where
 zero:=zero
 one:=one
 add:=add
 mul:=mul
 neg:=neg
 sub:=sub
 add_comm' _ _:=ext' (K2.add_comm' _ _) (K2.add_comm' _ _) (K2.add_comm' _ _)
 add_assoc' _ _ _:=ext' (K2.add_assoc' _ _ _) (K2.add_assoc' _ _ _) (K2.add_assoc' _ _ _)
 add_zero' _:=ext' (K2.add_zero' _) (K2.add_zero' _) (K2.add_zero' _)
 add_neg' _:=ext' (K2.add_neg' _) (K2.add_neg' _) (K2.add_neg' _)
 mul_comm':=mul_comm'
 mul_assoc':=mul_assoc'
 mul_one':=mul_one'
 mul_add':=mul_add'
 sub_eq _ _:=ext' (K2.sub_eq _ _) (K2.sub_eq _ _) (K2.sub_eq _ _)
def em(x:K2 n):T6 n:=⟨x,K2.zero,K2.zero⟩
def vv:T6 n:=⟨K2.zero,K2.one,K2.zero⟩
def cof(x:T6 n):T6 n:=⟨K2.sub (K2.mul x.a x.a) (K2.mul K2.xi (K2.mul x.b x.c)),K2.sub (K2.mul K2.xi (K2.mul x.c x.c)) (K2.mul x.a x.b),K2.sub (K2.mul x.b x.b) (K2.mul x.a x.c)⟩
def nrm(x:T6 n):K2 n:=K2.add (K2.mul x.a (cof x).a) (K2.mul K2.xi (K2.add (K2.mul x.c (cof x).b) (K2.mul x.b (cof x).c)))
def inv(x:T6 n):T6 n:=mul (cof x) (em (K2.inv (nrm x)))
theorem bY(x y:K2 n):em (K2.mul x y)=mul (em x) (em y):=by
 unfold mul em
 simp only[K2.aj,K2.aG,K2.add_zero']
theorem m0(x y:T6 n):nrm (mul x y)=K2.mul (nrm x) (nrm y):=CR.aH (x:=(.a (.m (.a (.m (.v 0) (.v 3)) (.m (.v 6) (.a (.m (.v 1) (.v 5)) (.m (.v 2) (.v 4))))) (.s (.m (.a (.m (.v 0) (.v 3)) (.m (.v 6) (.a (.m (.v 1) (.v 5)) (.m (.v 2) (.v 4))))) (.a (.m (.v 0) (.v 3)) (.m (.v 6) (.a (.m (.v 1) (.v 5)) (.m (.v 2) (.v 4)))))) (.m (.v 6) (.m (.a (.a (.m (.v 0) (.v 4)) (.m (.v 1) (.v 3))) (.m (.v 6) (.m (.v 2) (.v 5)))) (.a (.a (.m (.v 0) (.v 5)) (.m (.v 1) (.v 4))) (.m (.v 2) (.v 3))))))) (.m (.v 6) (.a (.m (.a (.a (.m (.v 0) (.v 5)) (.m (.v 1) (.v 4))) (.m (.v 2) (.v 3))) (.s (.m (.v 6) (.m (.a (.a (.m (.v 0) (.v 5)) (.m (.v 1) (.v 4))) (.m (.v 2) (.v 3))) (.a (.a (.m (.v 0) (.v 5)) (.m (.v 1) (.v 4))) (.m (.v 2) (.v 3))))) (.m (.a (.m (.v 0) (.v 3)) (.m (.v 6) (.a (.m (.v 1) (.v 5)) (.m (.v 2) (.v 4))))) (.a (.a (.m (.v 0) (.v 4)) (.m (.v 1) (.v 3))) (.m (.v 6) (.m (.v 2) (.v 5))))))) (.m (.a (.a (.m (.v 0) (.v 4)) (.m (.v 1) (.v 3))) (.m (.v 6) (.m (.v 2) (.v 5)))) (.s (.m (.a (.a (.m (.v 0) (.v 4)) (.m (.v 1) (.v 3))) (.m (.v 6) (.m (.v 2) (.v 5)))) (.a (.a (.m (.v 0) (.v 4)) (.m (.v 1) (.v 3))) (.m (.v 6) (.m (.v 2) (.v 5))))) (.m (.a (.m (.v 0) (.v 3)) (.m (.v 6) (.a (.m (.v 1) (.v 5)) (.m (.v 2) (.v 4))))) (.a (.a (.m (.v 0) (.v 5)) (.m (.v 1) (.v 4))) (.m (.v 2) (.v 3)))))))))) (y:=(.m (.a (.m (.v 0) (.s (.m (.v 0) (.v 0)) (.m (.v 6) (.m (.v 1) (.v 2))))) (.m (.v 6) (.a (.m (.v 2) (.s (.m (.v 6) (.m (.v 2) (.v 2))) (.m (.v 0) (.v 1)))) (.m (.v 1) (.s (.m (.v 1) (.v 1)) (.m (.v 0) (.v 2))))))) (.a (.m (.v 3) (.s (.m (.v 3) (.v 3)) (.m (.v 6) (.m (.v 4) (.v 5))))) (.m (.v 6) (.a (.m (.v 5) (.s (.m (.v 6) (.m (.v 5) (.v 5))) (.m (.v 3) (.v 4)))) (.m (.v 4) (.s (.m (.v 4) (.v 4)) (.m (.v 3) (.v 5))))))))) (by decide +kernel) [x.a,x.b,x.c,y.a,y.b,y.c,K2.xi]
theorem Ml(x:T6 n):mul x (cof x)=em (nrm x):=
 ext' (CR.aH (x:=(.a (.m (.v 0) (.s (.m (.v 0) (.v 0)) (.m (.v 3) (.m (.v 1) (.v 2))))) (.m (.v 3) (.a (.m (.v 1) (.s (.m (.v 1) (.v 1)) (.m (.v 0) (.v 2)))) (.m (.v 2) (.s (.m (.v 3) (.m (.v 2) (.v 2))) (.m (.v 0) (.v 1)))))))) (y:=(.a (.m (.v 0) (.s (.m (.v 0) (.v 0)) (.m (.v 3) (.m (.v 1) (.v 2))))) (.m (.v 3) (.a (.m (.v 2) (.s (.m (.v 3) (.m (.v 2) (.v 2))) (.m (.v 0) (.v 1)))) (.m (.v 1) (.s (.m (.v 1) (.v 1)) (.m (.v 0) (.v 2)))))))) (by decide +kernel) [x.a,x.b,x.c,K2.xi])
  (Eq.trans (CR.aH (x:=(.a (.a (.m (.v 0) (.s (.m (.v 3) (.m (.v 2) (.v 2))) (.m (.v 0) (.v 1)))) (.m (.v 1) (.s (.m (.v 0) (.v 0)) (.m (.v 3) (.m (.v 1) (.v 2)))))) (.m (.v 3) (.m (.v 2) (.s (.m (.v 1) (.v 1)) (.m (.v 0) (.v 2))))))) (y:=(.c 0)) (by decide +kernel) [x.a,x.b,x.c,K2.xi]) K2.of0)
  (Eq.trans (CR.aH (x:=(.a (.a (.m (.v 0) (.s (.m (.v 1) (.v 1)) (.m (.v 0) (.v 2)))) (.m (.v 1) (.s (.m (.v 3) (.m (.v 2) (.v 2))) (.m (.v 0) (.v 1))))) (.m (.v 2) (.s (.m (.v 0) (.v 0)) (.m (.v 3) (.m (.v 1) (.v 2))))))) (y:=(.c 0)) (by decide +kernel) [x.a,x.b,x.c,K2.xi]) K2.of0)
theorem It(a b:K2 n):nrm ⟨a,b,CR.ofZ 0⟩=K2.add (K2.mul (K2.mul a a) a) (K2.mul K2.xi (K2.mul (K2.mul b b) b)):=
 CR.aH (x:=(.a (.m (.v 0) (.s (.m (.v 0) (.v 0)) (.m (.v 2) (.m (.v 1) (.c 0))))) (.m (.v 2) (.a (.m (.c 0) (.s (.m (.v 2) (.m (.c 0) (.c 0))) (.m (.v 0) (.v 1)))) (.m (.v 1) (.s (.m (.v 1) (.v 1)) (.m (.v 0) (.c 0)))))))) (y:=(.a (.m (.m (.v 0) (.v 0)) (.v 0)) (.m (.v 2) (.m (.m (.v 1) (.v 1)) (.v 1))))) (by decide +kernel) [a,b,K2.xi]
theorem R3:nrm (vv:T6 n)=K2.xi:=
 (It K2.zero K2.one).trans (by rw[K2.aj,K2.aM,K2.mul_one',K2.mul_one',K2.mul_one'])
structure Tw (n:Nat) [NeZero n]:Prop where
 p3:P3 n
 cu:∀t:K2 n,K2.mul (K2.mul t t) t≠K2.xi
 sq:∀t:K2 n,K2.mul t t≠K2.xi
 m6:n%6=1
variable (tw:Tw n)
include tw
theorem OH{a b:K2 n}(h:nrm ⟨a,b,CR.ofZ 0⟩=CR.ofZ 0):a=K2.zero∧b=K2.zero:=by
 rw[It]at h
 by_cases hb:b=K2.zero
 ·subst hb
  rw[K2.aj,K2.aj,K2.add_zero']at h
  exact⟨(K2.aW tw.p3 h).elim (fun h=>(K2.aW tw.p3 h).elim id id) id,rfl⟩
 ·have hi:K2.mul b (K2.inv b)=CR.ofZ 1:=(K2.aI tw.p3 hb).trans K2.of1.symm
  generalize K2.inv b=i at hi
  exact absurd (CR.lin (x:=(.m (.m (.n (.m (.v 0) (.v 2))) (.n (.m (.v 0) (.v 2)))) (.n (.m (.v 0) (.v 2))))) (y:=(.v 3)) [((.m (.m (.m (.c (-1)) (.v 2)) (.v 2)) (.v 2)),(.a (.m (.m (.v 0) (.v 0)) (.v 0)) (.m (.v 3) (.m (.m (.v 1) (.v 1)) (.v 1)))),(.c 0)),((.m (.a (.m (.a (.m (.m (.m (.c 1) (.v 1)) (.v 1)) (.v 2)) (.m (.c 1) (.v 1))) (.v 2)) (.c 1)) (.v 3)),(.m (.v 1) (.v 2)),(.c 1))] (by decide +kernel) [a,b,i,K2.xi] ⟨h,hi,trivial⟩) (tw.cu (K2.neg (K2.mul a i)))
theorem vC{x:T6 n}(h:nrm x=K2.zero):x=zero:=by
 obtain⟨a,b,c⟩:=x
 by_cases hc:c=K2.zero
 ·subst hc
  obtain⟨rfl,rfl⟩:=OH tw h
  rfl
 ·exfalso
  have h2:nrm (mul ⟨a,b,c⟩ ⟨K2.neg b,c,CR.ofZ 0⟩)=CR.ofZ 0:=by
   rw[m0,h,K2.aG];rfl
  have e:mul ⟨a,b,c⟩ ⟨K2.neg b,c,CR.ofZ 0⟩=⟨K2.sub (K2.mul K2.xi (K2.mul c c)) (K2.mul a b),K2.sub (K2.mul a c) (K2.mul b b),CR.ofZ 0⟩:=
   ext' (CR.aH (x:=(.a (.m (.v 0) (.n (.v 1))) (.m (.v 3) (.a (.m (.v 1) (.c 0)) (.m (.v 2) (.v 2)))))) (y:=(.s (.m (.v 3) (.m (.v 2) (.v 2))) (.m (.v 0) (.v 1)))) (by decide +kernel) [a,b,c,K2.xi]) (CR.aH (x:=(.a (.a (.m (.v 0) (.v 2)) (.m (.v 1) (.n (.v 1)))) (.m (.v 3) (.m (.v 2) (.c 0))))) (y:=(.s (.m (.v 0) (.v 2)) (.m (.v 1) (.v 1)))) (by decide +kernel) [a,b,c,K2.xi]) (CR.aH (x:=(.a (.a (.m (.v 0) (.c 0)) (.m (.v 1) (.v 2))) (.m (.v 2) (.n (.v 1))))) (y:=(.c 0)) (by decide +kernel) [a,b,c,K2.xi])
  rw[e]at h2
  obtain⟨e1,e2⟩:=OH tw h2
  have hi:K2.mul c (K2.inv c)=CR.ofZ 1:=(K2.aI tw.p3 hc).trans K2.of1.symm
  generalize K2.inv c=i at hi
  exact absurd (CR.lin (x:=(.m (.m (.m (.v 1) (.v 3)) (.m (.v 1) (.v 3))) (.m (.v 1) (.v 3)))) (y:=(.v 4)) [((.n (.m (.m (.m (.v 2) (.v 3)) (.v 3)) (.v 3))),(.s (.m (.v 4) (.m (.v 2) (.v 2))) (.m (.v 0) (.v 1))),(.c 0)),((.n (.m (.m (.m (.v 1) (.v 3)) (.v 3)) (.v 3))),(.s (.m (.v 0) (.v 2)) (.m (.v 1) (.v 1))),(.c 0)),((.m (.a (.m (.a (.m (.m (.m (.c 1) (.v 2)) (.v 2)) (.v 3)) (.m (.c 1) (.v 2))) (.v 3)) (.c 1)) (.v 4)),(.m (.v 2) (.v 3)),(.c 1))] (by decide +kernel) [a,b,c,i,K2.xi] ⟨e1,e2,hi,trivial⟩) (tw.cu (K2.mul b i))
theorem aI{x:T6 n}(h:x≠zero):mul x (inv x)=one:=by
 rw[inv,← mul_assoc',Ml,← bY,K2.aI tw.p3 fun e=>h (vC tw e)]
 rfl
theorem aW{x y:T6 n}(h:mul x y=zero):x=zero∨y=zero:=by
 have e:K2.mul (nrm x) (nrm y)=K2.zero:=by rw[← m0,h];exact(It _ _).trans (by simp only[K2.aj,K2.add_zero'])
 exact(K2.aW tw.p3 e).imp (vC tw) (vC tw)
theorem Mn{x y:T6 n}(h:mul x x=mul vv (mul y y)):y=zero:=by
 apply Classical.byContradiction
 intro hy
 have hn:nrm y≠K2.zero:=fun e=>hy (vC tw e)
 have e:K2.mul (nrm x) (nrm x)=K2.mul K2.xi (K2.mul (nrm y) (nrm y)):=by rw[← m0,h,m0,R3,m0]
 have hi:K2.mul (nrm y) (K2.inv (nrm y))=CR.ofZ 1:=(K2.aI tw.p3 hn).trans K2.of1.symm
 generalize K2.inv (nrm y)=i at hi
 generalize nrm y=b at e hi
 generalize nrm x=a at e
 exact absurd (CR.lin (x:=(.m (.m (.v 0) (.v 2)) (.m (.v 0) (.v 2)))) (y:=(.v 3)) [((.m (.m (.c 1) (.v 2)) (.v 2)),(.m (.v 0) (.v 0)),(.m (.v 3) (.m (.v 1) (.v 1)))),((.m (.a (.m (.m (.c 1) (.v 1)) (.v 2)) (.c 1)) (.v 3)),(.m (.v 1) (.v 2)),(.c 1))] (by decide +kernel) [a,b,i,K2.xi] ⟨e,hi,trivial⟩) (tw.sq (K2.mul a i))
end T6
end Go.Proofs.YtndhfbecpghinaaGreat.L.Kf
namespace Go.Proofs.YtndhfbecpghinaaGreat.L
open Go Go.Proofs
set_option maxRecDepth 100000
namespace CR
open Kf.K2 (ch uI sS pI z9)
variable {R:Type} [CR R]
theorem lc(a:R)(k:Nat):pw a (k+1)=mul (pw a k) a:=rfl
theorem Sn(a:R):pw a 0=one:=rfl
theorem AZ(a:R):pw a 1=a:=aR a
theorem rs:∀k,pw (one:R) k=one
 | 0=>rfl
 | k+1=>by rw[lc,rs k,mul_one']
theorem bN(a:R)(i:Nat):∀k,pw a (i*k)=pw (pw a i) k
 | 0=>rfl
 | k+1=>by rw[Nat.mul_succ,dO,bN a i k,lc]
theorem ef(a b:R):∀k,pw (mul a b) k=mul (pw a k) (pw b k)
 | 0=>(mul_one' _).symm
 | k+1=>by
  rw[lc,ef a b k,lc,lc]
  ac_rfl
theorem wx{k:Nat}(h:0<k):pw (zero:R) k=zero:=by
 obtain⟨j,rfl⟩:∃j,k=j+1:=⟨k-1,by omega⟩
 rw[lc,aj]
def nm(c:Nat)(a:R):R:=mul (ofN c) a
def sm(f:Nat→R):Nat→R
 | 0=>zero
 | k+1=>add (sm f k) (f k)
theorem jC{f:Nat→R}:∀{R},(∀k,k<R→f k=zero)→sm f R=zero
 | 0,_=>rfl
 | R+1,h=>by rw[sm,jC fun k hk=>h k (by omega),h R (by omega),add_zero']
theorem g9{f g:Nat→R}:∀{R},(∀k,k<R→f k=g k)→sm f R=sm g R
 | 0,_=>rfl
 | R+1,h=>by rw[sm,sm,g9 fun k hk=>h k (by omega),h R (by omega)]
theorem dD(f:Nat→R):∀R,sm f (R+1)=add (f 0) (sm (fun k=>f (k+1)) R)
 | 0=>by rw[sm,sm,sm,add_comm']
 | R+1=>by rw[sm,dD f R,sm,add_assoc']
theorem rM(f g:Nat→R):∀R,sm (fun k=>add (f k) (g k)) R=add (sm f R) (sm g R)
 | 0=>(add_zero' _).symm
 | R+1=>by
  rw[sm,rM f g R,sm,sm]
  ac_rfl
theorem rO(a:R)(f:Nat→R):∀R,mul a (sm f R)=sm (fun k=>mul a (f k)) R
 | 0=>aj a
 | R+1=>by rw[sm,mul_add',rO a f R,sm]
theorem AQ(a:R):nm 1 a=a:=by
 show mul (add zero one) a=a
 rw[aM,aR]
theorem qm(X:R):∀m R,m<R→pw (add X one) m=sm (fun k=>nm (ch m k) (pw X k)) R
 | 0,R,h=>by
  obtain⟨r,rfl⟩:∃r,R=r+1:=⟨R-1,by omega⟩
  rw[dD,jC (f:=fun k=>nm (ch 0 (k+1)) (pw X (k+1))) fun k _=>aG _,add_zero']
  show one=nm 1 one
  rw[AQ]
 | m+1,R,h=>by
  obtain⟨r,rfl⟩:∃r,R=r+1:=⟨R-1,by omega⟩
  have h1:=qm X m r (by omega)
  have h2:=qm X m (r+1) (by omega)
  rw[dD]at h2
  rw[lc,mul_add',mul_one',dD]
  have e1:mul (pw (add X one) m) X=sm (fun k=>nm (ch m k) (pw X (k+1))) r:=by
   rw[mul_comm',h1,rO]
   refine g9 fun k _=>?_
   rw[nm,nm,lc]
   ac_rfl
  have e2:sm (fun k=>nm (ch (m+1) (k+1)) (pw X (k+1))) r=add (sm (fun k=>nm (ch m k) (pw X (k+1))) r) (sm (fun k=>nm (ch m (k+1)) (pw X (k+1))) r):=by
   rw[← rM]
   exact g9 fun k _=>by rw[ch,nm,dX,cS];rfl
  rw[e1,e2,h2,uI,uI]
  ac_rfl
theorem Hn{n:Nat}(hp:Pr.aU n)(h0:(ofN n:R)=zero)(X:R):pw (add X one) n=add (pw X n) one:=by
 have h1:=hp.1
 obtain⟨m,hm⟩:∃m,n=m+1:=⟨n-1,by omega⟩
 have h:=qm X n (n+1) (by omega)
 rw[h,sm,pI,AQ,add_comm']
 congr 1
 have:∀N,N=m+1→sm (fun k=>nm (ch n k) (pw X k)) N=one:=by
  rintro N rfl
  rw[dD,jC (f:=fun k=>nm (ch n (k+1)) (pw X (k+1))),add_zero',uI,AQ]
  ·rfl
  ·intro k hk
   obtain⟨c,hc⟩:=z9 hp (k:=k+1) (by omega) (by omega)
   show mul (ofN (ch n (k+1))) _=zero
   rw[hc,fT,h0,aG,aG]
 exact this n hm
theorem qN{n:Nat}(hp:Pr.aU n)(h0:(ofN n:R)=zero)(X:R){Y i:R}(hY:mul Y i=one):pw (add X Y) n=add (pw X n) (pw Y n):=by
 have e2:mul (mul X i) Y=X:=by
  rw[mul_assoc',mul_comm' i,hY,mul_one']
 have e1:add X Y=mul (add (mul X i) one) Y:=by
  rw[cS,e2,aR]
 rw[e1,ef,Hn hp h0,cS,aR,← ef,e2]
end CR
end Go.Proofs.YtndhfbecpghinaaGreat.L
namespace Go.Proofs.YtndhfbecpghinaaGreat.L.Kf
open Pr
structure T12 (n:Nat) where
 a:T6 n
 b:T6 n
deriving DecidableEq
namespace T12
variable {n:Nat} [NeZero n]
theorem ext'{n:Nat}{x y:T12 n}(h1:x.a=y.a)(h2:x.b=y.b):x=y:=by
 cases x;cases y;cases h1;cases h2;rfl
def zero:T12 n:=⟨T6.zero,T6.zero⟩
def one:T12 n:=⟨T6.one,T6.zero⟩
def add(x y:T12 n):T12 n:=⟨T6.add x.a y.a,T6.add x.b y.b⟩
def sub(x y:T12 n):T12 n:=⟨T6.sub x.a y.a,T6.sub x.b y.b⟩
def neg(x:T12 n):T12 n:=⟨T6.neg x.a,T6.neg x.b⟩
def mul(x y:T12 n):T12 n:=⟨T6.add (T6.mul x.a y.a) (T6.mul T6.vv (T6.mul x.b y.b)),T6.add (T6.mul x.a y.b) (T6.mul x.b y.a)⟩
attribute [local irreducible] T6.add T6.mul T6.sub T6.neg T6.zero T6.one T6.inv T6.vv
theorem mul_comm'(x y:T12 n):mul x y=mul y x:=ext'
  (CR.aH (x:=(.a (.m (.v 0) (.v 2)) (.m (.v 4) (.m (.v 1) (.v 3))))) (y:=(.a (.m (.v 2) (.v 0)) (.m (.v 4) (.m (.v 3) (.v 1))))) (by decide +kernel) [x.a,x.b,y.a,y.b,T6.vv])
  (CR.aH (x:=(.a (.m (.v 0) (.v 3)) (.m (.v 1) (.v 2)))) (y:=(.a (.m (.v 2) (.v 1)) (.m (.v 3) (.v 0)))) (by decide +kernel) [x.a,x.b,y.a,y.b,T6.vv])
theorem mul_assoc'(x y z:T12 n):mul (mul x y) z=mul x (mul y z):=ext'
  (CR.aH (x:=(.a (.m (.a (.m (.v 0) (.v 2)) (.m (.v 6) (.m (.v 1) (.v 3)))) (.v 4)) (.m (.v 6) (.m (.a (.m (.v 0) (.v 3)) (.m (.v 1) (.v 2))) (.v 5))))) (y:=(.a (.m (.v 0) (.a (.m (.v 2) (.v 4)) (.m (.v 6) (.m (.v 3) (.v 5))))) (.m (.v 6) (.m (.v 1) (.a (.m (.v 2) (.v 5)) (.m (.v 3) (.v 4))))))) (by decide +kernel) [x.a,x.b,y.a,y.b,z.a,z.b,T6.vv])
  (CR.aH (x:=(.a (.m (.a (.m (.v 0) (.v 2)) (.m (.v 6) (.m (.v 1) (.v 3)))) (.v 5)) (.m (.a (.m (.v 0) (.v 3)) (.m (.v 1) (.v 2))) (.v 4)))) (y:=(.a (.m (.v 0) (.a (.m (.v 2) (.v 5)) (.m (.v 3) (.v 4)))) (.m (.v 1) (.a (.m (.v 2) (.v 4)) (.m (.v 6) (.m (.v 3) (.v 5))))))) (by decide +kernel) [x.a,x.b,y.a,y.b,z.a,z.b,T6.vv])
theorem mul_add'(x y z:T12 n):mul x (add y z)=add (mul x y) (mul x z):=ext'
  (CR.aH (x:=(.a (.m (.v 0) (.a (.v 2) (.v 4))) (.m (.v 6) (.m (.v 1) (.a (.v 3) (.v 5)))))) (y:=(.a (.a (.m (.v 0) (.v 2)) (.m (.v 6) (.m (.v 1) (.v 3)))) (.a (.m (.v 0) (.v 4)) (.m (.v 6) (.m (.v 1) (.v 5)))))) (by decide +kernel) [x.a,x.b,y.a,y.b,z.a,z.b,T6.vv])
  (CR.aH (x:=(.a (.m (.v 0) (.a (.v 3) (.v 5))) (.m (.v 1) (.a (.v 2) (.v 4))))) (y:=(.a (.a (.m (.v 0) (.v 3)) (.m (.v 1) (.v 2))) (.a (.m (.v 0) (.v 5)) (.m (.v 1) (.v 4))))) (by decide +kernel) [x.a,x.b,y.a,y.b,z.a,z.b,T6.vv])
theorem Xt:(CR.ofZ 0:T6 n)=T6.zero:=rfl
theorem VD:(CR.ofZ 1:T6 n)=T6.one:=CR.dL
theorem rl(x:T6 n):T6.mul x T6.zero=T6.zero:=CR.aj x
theorem Mj(x:T6 n):T6.mul T6.zero x=T6.zero:=CR.aG x
theorem Ik(x:T6 n):T6.mul x T6.one=x:=CR.mul_one' x
theorem zW(x:T6 n):T6.add x T6.zero=x:=CR.add_zero' x
theorem BF(x:T6 n):T6.add T6.zero x=x:=CR.aM x
theorem mul_one'(x:T12 n):mul x one=x:=by
 unfold mul one
 simp only[rl,Ik,zW,BF]
instance:CR (T12 n) where
 zero:=zero
 one:=one
 add:=add
 mul:=mul
 neg:=neg
 sub:=sub
 add_comm' _ _:=ext' (CR.add_comm' (R:=T6 n) _ _) (CR.add_comm' (R:=T6 n) _ _)
 add_assoc' _ _ _:=ext' (CR.add_assoc' (R:=T6 n) _ _ _) (CR.add_assoc' (R:=T6 n) _ _ _)
 add_zero' _:=ext' (CR.add_zero' (R:=T6 n) _) (CR.add_zero' (R:=T6 n) _)
 add_neg' _:=ext' (CR.add_neg' (R:=T6 n) _) (CR.add_neg' (R:=T6 n) _)
 mul_comm':=mul_comm'
 mul_assoc':=mul_assoc'
 mul_one':=mul_one'
 mul_add':=mul_add'
 sub_eq _ _:=ext' (CR.sub_eq (R:=T6 n) _ _) (CR.sub_eq (R:=T6 n) _ _)
def inv(x:T12 n):T12 n:=⟨T6.mul x.a (T6.inv (T6.sub (T6.mul x.a x.a) (T6.mul T6.vv (T6.mul x.b x.b)))),T6.neg (T6.mul x.b (T6.inv (T6.sub (T6.mul x.a x.a) (T6.mul T6.vv (T6.mul x.b x.b)))))⟩
def conj(x:T12 n):T12 n:=⟨x.a,T6.neg x.b⟩
def e6(x:T6 n):T12 n:=⟨x,T6.zero⟩
def e2(x:K2 n):T12 n:=e6 (T6.em x)
def w:T12 n:=⟨T6.zero,T6.one⟩
theorem aY(x y:T12 n):conj (mul x y)=mul (conj x) (conj y):=
 ext'
  (CR.aH (x:=(.a (.m (.v 0) (.v 2)) (.m (.v 4) (.m (.v 1) (.v 3))))) (y:=(.a (.m (.v 0) (.v 2)) (.m (.v 4) (.m (.n (.v 1)) (.n (.v 3)))))) (by decide +kernel) [x.a,x.b,y.a,y.b,T6.vv])
  (CR.aH (x:=(.n (.a (.m (.v 0) (.v 3)) (.m (.v 1) (.v 2))))) (y:=(.a (.m (.v 0) (.n (.v 3))) (.m (.n (.v 1)) (.v 2)))) (by decide +kernel) [x.a,x.b,y.a,y.b,T6.vv])
theorem eq(x:T12 n):conj (conj x)=x:=ext' rfl (CR.bv x.b)
theorem BM(x:T6 n):conj (e6 x)=e6 x:=ext' rfl (CR.bj (R:=T6 n))
theorem fZ:conj (one:T12 n)=one:=BM _
theorem Q7(x y:T6 n):e6 (T6.mul x y)=mul (e6 x) (e6 y):=by
 unfold mul e6
 simp only[rl,Mj,zW]
theorem gV(x y:K2 n):e2 (K2.mul x y)=mul (e2 x) (e2 y):=by rw[e2,T6.bY,Q7];rfl
theorem Ah:e2 (K2.one:K2 n)=one:=by unfold e2 one e6 T6.em T6.one;rfl
theorem uT:e2 (K2.zero:K2 n)=zero:=by unfold e2 zero e6 T6.em T6.zero;rfl
variable (tw:T6.Tw n)
include tw
theorem aI{x:T12 n}(h:x≠zero):mul x (inv x)=one:=by
 have hd:T6.sub (T6.mul x.a x.a) (T6.mul T6.vv (T6.mul x.b x.b))≠T6.zero:=by
  intro e
  have e1:T6.mul x.a x.a=T6.mul T6.vv (T6.mul x.b x.b):=CR.aE e
  have hb:=T6.Mn tw e1
  rw[hb,rl,rl]at e1
  have ha:=(T6.aW tw e1).elim id id
  exact h (ext' ha hb)
 have hi:=(T6.aI tw hd).trans VD.symm
 rw[inv]
 generalize T6.inv (n:=n) _=i at hi ⊢
 refine ext' (Eq.trans ?_ (VD (n:=n))) (Eq.trans ?_ (Xt (n:=n)))
 ·exact CR.lin (x:=(.a (.m (.v 0) (.m (.v 0) (.v 2))) (.m (.v 3) (.m (.v 1) (.n (.m (.v 1) (.v 2))))))) (y:=(.c 1)) [((.c 1),(.m (.s (.m (.v 0) (.v 0)) (.m (.v 3) (.m (.v 1) (.v 1)))) (.v 2)),(.c 1))] (by decide +kernel) [x.a,x.b,i,T6.vv] ⟨hi,trivial⟩
 ·exact CR.aH (x:=(.a (.m (.v 0) (.n (.m (.v 1) (.v 2)))) (.m (.v 1) (.m (.v 0) (.v 2))))) (y:=(.c 0)) (by decide +kernel) [x.a,x.b,i,T6.vv]
theorem aW{x y:T12 n}(h:mul x y=zero):x=zero∨y=zero:=by
 by_cases hx:x=zero
 ·exact .inl hx
 ·right
  have:=aI tw hx
  calc y=mul (mul x (inv x)) y:=by rw[this];exact(CR.aR y).symm
   _=mul (inv x) (mul x y):=by rw[mul_comm' x,mul_assoc']
   _=zero:=by rw[h];exact CR.aj _
theorem cK:(one:T12 n)≠zero:=fun e=>K2.jt tw.p3 (show(K2.one:K2 n)=K2.zero from by
 have h1:=congrArg (fun x:T12 n=>x.a.a) e
 unfold one zero T6.one T6.zero at h1
 exact h1)
omit tw
def frb(g:K2 n)(x:T12 n):T12 n:=
 ⟨⟨K2.conj x.a.a,K2.mul (K2.conj x.a.b) (K2.pw g 2),K2.mul (K2.conj x.a.c) (K2.pw g 4)⟩,⟨K2.mul (K2.conj x.b.a) g,K2.mul (K2.conj x.b.b) (K2.pw g 3),K2.mul (K2.conj x.b.c) (K2.pw g 5)⟩⟩
theorem CM(x:K2 n):∀k,CR.pw (e2 x) k=e2 (K2.pw x k)
 | 0=>Ah.symm
 | k+1=>by rw[CR.lc,CM x k];exact(gV _ _).symm
theorem Xa(x:T12 n):mul x w=⟨T6.mul T6.vv x.b,x.a⟩:=by
 unfold mul w
 simp only[rl,Ik,zW,BF]
attribute [local irreducible] K2.add K2.mul K2.sub K2.neg K2.zero K2.one K2.inv K2.xi
theorem U5(a b c:K2 n):T6.mul T6.vv ⟨a,b,c⟩=⟨K2.mul K2.xi c,a,b⟩:=by
 unfold T6.mul T6.vv
 simp only[K2.aj,K2.aG,K2.aR,K2.add_zero',K2.aM]
theorem tt(a b c d e f:K2 n):mul ⟨⟨a,b,c⟩,⟨d,e,f⟩⟩ w=⟨⟨K2.mul K2.xi f,d,e⟩,⟨a,b,c⟩⟩:=by rw[Xa,U5]
theorem iy(x:K2 n):e2 x=⟨⟨x,K2.zero,K2.zero⟩,⟨K2.zero,K2.zero,K2.zero⟩⟩:=by unfold e2 e6 T6.em T6.zero;rfl
def mo(c:K2 n)(k:Nat):T12 n:=mul (e2 c) (CR.pw w k)
theorem EF(c:K2 n)(k:Nat):mo c (k+1)=mul (mo c k) w:=(mul_assoc' _ _ _).symm
theorem H8(c:K2 n):mo c 0=⟨⟨c,K2.zero,K2.zero⟩,⟨K2.zero,K2.zero,K2.zero⟩⟩:=(mul_one' _).trans (iy c)
theorem Mg(c:K2 n):mo c 1=⟨⟨K2.zero,K2.zero,K2.zero⟩,⟨c,K2.zero,K2.zero⟩⟩:=by rw[EF,H8,tt,K2.aj]
theorem Mh(c:K2 n):mo c 2=⟨⟨K2.zero,c,K2.zero⟩,⟨K2.zero,K2.zero,K2.zero⟩⟩:=by rw[EF,Mg,tt,K2.aj]
theorem H9(c:K2 n):mo c 3=⟨⟨K2.zero,K2.zero,K2.zero⟩,⟨K2.zero,c,K2.zero⟩⟩:=by rw[EF,Mh,tt,K2.aj]
theorem RP(c:K2 n):mo c 4=⟨⟨K2.zero,K2.zero,c⟩,⟨K2.zero,K2.zero,K2.zero⟩⟩:=by rw[EF,H9,tt,K2.aj]
theorem RQ(c:K2 n):mo c 5=⟨⟨K2.zero,K2.zero,K2.zero⟩,⟨K2.zero,K2.zero,c⟩⟩:=by rw[EF,RP,tt,K2.aj]
theorem U4(c:K2 n):mo c 6=mo (K2.mul K2.xi c) 0:=by rw[EF,RQ,tt,H8]
omit [NeZero n] in
theorem gf(a b c d e f a' b' c' d' e' f':K2 n):add ⟨⟨a,b,c⟩,⟨d,e,f⟩⟩ ⟨⟨a',b',c'⟩,⟨d',e',f'⟩⟩=⟨⟨K2.add a a',K2.add b b',K2.add c c'⟩,⟨K2.add d d',K2.add e e',K2.add f f'⟩⟩:=by
 unfold add T6.add;rfl
theorem RS(x:T12 n):x=add (add (add (add (add (mo x.a.a 0) (mo x.b.a 1)) (mo x.a.b 2)) (mo x.b.b 3)) (mo x.a.c 4)) (mo x.b.c 5):=by
 rw[H8,Mg,Mh,H9,RP,RQ,gf,gf,gf,gf,gf]
 simp only[K2.add_zero',K2.aM]
theorem Vo:CR.pw (w:T12 n) 6=e2 K2.xi:=by
 have h:=U4 (K2.one:K2 n)
 rw[mo,Ah,K2.mul_one']at h
 exact(CR.aR _).symm.trans (h.trans (CR.mul_one' _))
theorem tJ(hp:P3 n){m:Nat}(hm:n=6*m+1)(c:K2 n)(k:Nat):CR.pw (mo c k) n=mo (K2.mul (K2.conj c) (K2.pw (K2.pw K2.xi m) k)) k:=by
 have hw:CR.pw (w:T12 n) n=mul (e2 (K2.pw K2.xi m)) w:=by
  have:∀N,N=6*m+1→CR.pw (w:T12 n) N=mul (e2 (K2.pw K2.xi m)) w:=by
   rintro N rfl
   rw[CR.lc,CR.bN,Vo,CM];rfl
  exact this n hm
 show CR.pw (CR.mul _ _) n=_
 rw[CR.ef,CM,K2.UI hp,← CR.bN,Nat.mul_comm,CR.bN,hw]
 show CR.mul _ (CR.pw (CR.mul _ _) k)=_
 rw[CR.ef,CM,← CR.mul_assoc',mo,gV];rfl
theorem R6(k:Nat):(CR.ofN k:T12 n)=e2 (CR.ofN k):=by
 induction k with
 | zero=>exact uT.symm
 | succ k ih=>
  rw[CR.lu,CR.lu,ih]
  show add (e2 (CR.ofN k)) one=e2 (K2.add (CR.ofN k) K2.one)
  rw[← Ah,iy,iy,iy,gf]
  simp only[K2.add_zero']
theorem R5(k:Nat):(CR.ofN k:K2 n)=⟨κ n k,0⟩:=by
 induction k with
 | zero=>unfold CR.ofN;show K2.zero=_;unfold K2.zero;rfl
 | succ k ih=>
  rw[CR.lu,ih]
  show K2.add _ K2.one=_
  unfold K2.add K2.one
  exact K2.ext' (by rw[fO,κ_1]) (show(0:Fin n)+0=0 by grind)
theorem U8:(CR.ofN n:T12 n)=zero:=by
 have h:(CR.ofN n:K2 n)=K2.zero:=by rw[R5,κ_n];unfold K2.zero;rfl
 rw[R6,h,uT]
include tw
theorem np(x y:T12 n):CR.pw (add x y) n=add (CR.pw x n) (CR.pw y n):=by
 by_cases hy:y=zero
 ·subst hy
  have h0:CR.pw (zero:T12 n) n=zero:=CR.wx tw.p3.1.pos
  have ha:∀x:T12 n,add x zero=x:=CR.add_zero'
  rw[h0,ha,ha]
 ·exact CR.qN tw.p3.1 U8 x (aI tw hy)
theorem rE{m:Nat}(hm:n=6*m+1)(x:T12 n):CR.pw x n=frb (K2.pw K2.xi m) x:=by
 conv=>lhs;rw[RS x]
 have hp:=tw.p3
 rw[np tw,np tw,np tw,np tw,np tw,tJ hp hm,tJ hp hm,tJ hp hm,tJ hp hm,tJ hp hm,tJ hp hm]
 generalize (K2.pw K2.xi m:K2 n)=g
 rw[H8,Mg,Mh,H9,RP,RQ,gf,gf,gf,gf,gf]
 simp only[K2.add_zero',K2.aM,K2.AZ]
 have h0:K2.pw g 0=K2.one:=rfl
 rw[h0,K2.mul_one']
 rfl
end T12
end Go.Proofs.YtndhfbecpghinaaGreat.L.Kf
namespace Go.Proofs.YtndhfbecpghinaaGreat.L.Kf
open Pr
namespace K2
variable {n:Nat} [NeZero n]
theorem aY(x y:K2 n):conj (mul x y)=mul (conj x) (conj y):=by
 unfold conj mul
 exact ext' (by grind) (by grind)
theorem eq(x:K2 n):conj (conj x)=x:=ext' rfl (show - -x.im=x.im by grind)
theorem BO(x:K2 n):∀k,conj (pw x k)=pw (conj x) k
 | 0=>by unfold conj pw one;exact ext' rfl (show-(0:Fin n)=0 by grind)
 | k+1=>by rw[pw,aY,BO x k];rfl
end K2
namespace T12
variable {n:Nat} [NeZero n]
attribute [local irreducible] K2.add K2.mul K2.sub K2.neg K2.zero K2.one K2.inv K2.xi add mul sub neg zero one inv conj e6 e2 w T6.add T6.mul T6.sub T6.neg T6.zero T6.one T6.inv T6.vv T6.em
theorem am(x:T12 n):mul x one=x:=CR.mul_one' x
theorem bh(x:T12 n):mul one x=x:=CR.aR x
theorem Ii(a b c d:T12 n):mul (mul a b) (mul c d)=mul (mul a c) (mul b d):=CR.aH (x:=(.m (.m (.v 0) (.v 1)) (.m (.v 2) (.v 3)))) (y:=(.m (.m (.v 0) (.v 2)) (.m (.v 1) (.v 3)))) (by decide +kernel) [a,b,c,d]
def qq(x:T12 n):T12 n:=mul (conj x) (inv x)
def fin(N:Nat)(x:T12 n):T12 n:=CR.pw (qq x) N
variable (tw:T6.Tw n)
include tw
theorem bQ{x y:T12 n}(hx:x≠zero)(hy:y≠zero):mul x y≠zero:=fun h=>(aW tw h).elim hx hy
theorem tu{x y:T12 n}(h:mul x y=one):x≠zero:=fun e=>cK tw (h.symm.trans (by rw[e];exact CR.aG y))
theorem At{x y:T12 n}(h:mul x y=one):inv x=y:=by
 have h2:=aI tw (tu tw h)
 rw[← am (inv x),← h,← mul_assoc',mul_comm' (inv x),h2,bh]
theorem LX{x y:T12 n}(hx:x≠zero)(hy:y≠zero):inv (mul x y)=mul (inv x) (inv y):=
 At tw (by rw[Ii,aI tw hx,aI tw hy,am])
theorem jk{x:T12 n}(hx:x≠zero):conj x≠zero:=by
 have h:=congrArg conj (aI tw hx)
 rw[aY,fZ]at h
 exact tu tw h
theorem I4{x y:T12 n}(hx:x≠zero)(hy:y≠zero):qq (mul x y)=mul (qq x) (qq y):=by
 rw[qq,aY,LX tw hx hy,Ii];rfl
theorem Vt{x:T6 n}(hx:e6 x≠zero):qq (e6 x)=one:=by rw[qq,BM,aI tw hx]
theorem CS{x:T12 n}(hx:x≠zero):mul (qq (conj x)) (qq x)=one:=by
 rw[qq,qq,eq,Ii,mul_comm' x,← Ii,aI tw (jk tw hx),aI tw hx,am]
theorem Lp{x:T12 n}(hx:x≠zero):conj (qq x)=qq (conj x):=by
 rw[qq,qq,aY]
 congr 1
 symm
 apply At tw
 rw[← aY,aI tw hx,fZ]
theorem dt{N:Nat}{x y:T12 n}(hx:x≠zero)(hy:y≠zero):fin N (mul x y)=mul (fin N x) (fin N y):=by
 rw[fin,I4 tw hx hy];exact CR.ef _ _ _
theorem n8{N:Nat}{x:T6 n}(hx:e6 x≠zero):fin N (e6 x)=one:=by
 rw[fin,Vt tw hx];exact CR.rs _
theorem j3{N:Nat}{x:T12 n}(hx:x≠zero):mul (fin N (conj x)) (fin N x)=one:=by
 show CR.mul (CR.pw _ _) (CR.pw _ _)=_
 rw[← CR.ef]
 show CR.pw (mul _ _) _=_
 rw[CS tw hx];exact CR.rs _
theorem OO{x:T12 n}(hx:x≠zero):∀k,CR.pw x k≠zero
 | 0=>cK tw
 | k+1=>bQ tw (OO hx k) hx
theorem OP{x:T12 n}(hx:x≠zero):∀k,qq (CR.pw x k)=CR.pw (qq x) k
 | 0=>by
  show qq one=one
  rw[qq,fZ,bh]
  exact At tw (am _)
 | k+1=>by
  rw[CR.lc,CR.lc,← OP hx k];exact I4 tw (OO tw hx k) hx
theorem Rh{N:Nat}{x:T12 n}(hx:x≠zero)(k:Nat):fin N (CR.pw x k)=CR.pw (fin N x) k:=by
 rw[fin,OP tw hx,← CR.bN,Nat.mul_comm,CR.bN];rfl
omit tw
def frc(h:K2 n)(x:T12 n):T12 n:=
 ⟨⟨K2.mul x.a.a (K2.pw h 0),K2.mul x.a.b (K2.pw h 2),K2.mul x.a.c (K2.pw h 4)⟩,⟨K2.mul x.b.a (K2.pw h 1),K2.mul x.b.b (K2.pw h 3),K2.mul x.b.c (K2.pw h 5)⟩⟩
theorem iX(g c:K2 n)(k:Nat):K2.mul (K2.conj (K2.mul (K2.conj c) (K2.pw g k))) (K2.pw g k)=K2.mul c (K2.pw (K2.mul (K2.conj g) g) k):=by
 rw[K2.aY,K2.eq,K2.BO,K2.mul_assoc',K2.ef]
theorem LF(g:K2 n)(x:T12 n):frb g (frb g x)=frc (K2.mul (K2.conj g) g) x:=by
 have h0:=iX g x.a.a 0
 have h1:=iX g x.b.a 1
 have e0:K2.pw g 0=K2.one:=rfl
 rw[e0,K2.mul_one',K2.mul_one',K2.eq]at h0
 rw[K2.AZ]at h1
 unfold frb frc
 rw[iX,iX,iX,iX,h1,← h0,K2.eq]
theorem B4(h k:K2 n)(x:T12 n):frc h (frc k x)=frc (K2.mul k h) x:=by
 unfold frc
 simp only[K2.ef,K2.mul_assoc']
theorem Hm(x:T12 n):frc (K2.neg K2.one) x=conj x:=by
 have h1:∀c:K2 n,K2.mul c (K2.neg K2.one)=K2.neg c:=fun c=>by rw[K2.eZ,K2.mul_one']
 have e0:K2.pw (K2.neg (K2.one:K2 n)) 0=K2.one:=rfl
 have e1:∀k,K2.pw (K2.neg (K2.one:K2 n)) (k+2)=K2.pw (K2.neg K2.one) k:=fun k=>by
  show K2.mul (K2.mul _ _) _=_
  rw[h1,h1,K2.bv]
 have e2:K2.pw (K2.neg (K2.one:K2 n)) 1=K2.neg K2.one:=K2.AZ _
 unfold frc conj T6.neg
 rw[e1 0,e1 2,e1 0,e1 1,e1 3,e1 1,e0,e2]
 simp only[h1,K2.mul_one']
include tw
theorem I2{m:Nat}(hm:n=6*m+1)(x:T12 n):CR.pw x (n*n)=frc (K2.mul (K2.conj (K2.pw K2.xi m)) (K2.pw K2.xi m)) x:=by
 rw[CR.bN,rE tw hm,rE tw hm,LF]
theorem ON{m:Nat}(hm:n=6*m+1)(h3:K2.pw (K2.mul (K2.conj (K2.pw K2.xi m)) (K2.pw K2.xi m)) 3=K2.neg (K2.one:K2 n))(x:T12 n):CR.pw x (n*n*(n*n)*(n*n))=conj x:=by
 rw[CR.bN x (n*n*(n*n)) (n*n),CR.bN x (n*n) (n*n),I2 tw hm,I2 tw hm,I2 tw hm,B4,B4,← Hm,← h3]
 show frc _ x=frc (K2.mul (K2.mul (K2.mul K2.one _) _) _) x
 rw[K2.aR]
 congr 1
 exact(K2.mul_assoc' _ _ _).symm
theorem Ha{m N r:Nat}(hm:n=6*m+1)(h3:K2.pw (K2.mul (K2.conj (K2.pw K2.xi m)) (K2.pw K2.xi m)) 3=K2.neg (K2.one:K2 n))(hr:n*n*(n*n)*(n*n)+1∣N*r){x:T12 n}(hx:x≠zero):CR.pw (fin N x) r=one:=by
 obtain⟨c,hc⟩:=hr
 rw[fin,← CR.bN,hc,CR.bN,CR.lc,ON tw hm h3,Lp tw hx]
 show CR.pw (mul _ _) c=_
 rw[CS tw hx];exact CR.rs _
end T12
end Go.Proofs.YtndhfbecpghinaaGreat.L.Kf
namespace Go.Proofs.YtndhfbecpghinaaGreat.L.Kf
open Pr
namespace K2
variable {n:Nat} [NeZero n]
attribute [local irreducible] add mul sub neg zero one inv xi
structure LD (l x1 y1 x2 y2 x3 y3:K2 n):Prop where
 a:add y1 y3=mul l (sub x1 x3)
 b:add y2 y3=mul l (sub x2 x3)
 s:add (add x1 x2) x3=mul l l
 p:add (mul x1 x2) (mul (add x1 x2) x3)=mul (add l l) (add y3 (mul l x3))
theorem Slp.ld{l x1 y1 x2 y2:K2 n}(h:Slp l x1 y1 x2 y2):LD l x1 y1 x2 y2 (cx l x1 x2) (cy l x1 y1 x2):=
  ⟨CR.aH (x:=(.a (.v 2) (.s (.m (.v 0) (.s (.v 1) (.s (.s (.m (.v 0) (.v 0)) (.v 1)) (.v 3)))) (.v 2)))) (y:=(.m (.v 0) (.s (.v 1) (.s (.s (.m (.v 0) (.v 0)) (.v 1)) (.v 3))))) (by decide +kernel) [l,x1,y1,x2],
   CR.lin (x:=(.a (.v 4) (.s (.m (.v 0) (.s (.v 1) (.s (.s (.m (.v 0) (.v 0)) (.v 1)) (.v 3)))) (.v 2)))) (y:=(.m (.v 0) (.s (.v 3) (.s (.s (.m (.v 0) (.v 0)) (.v 1)) (.v 3))))) [((.c (-1)),(.v 2),(.a (.v 4) (.m (.v 0) (.s (.v 1) (.v 3)))))] (by decide +kernel) [l,x1,y1,x2,y2] ⟨h.a,trivial⟩,
   CR.aH (x:=(.a (.a (.v 1) (.v 2)) (.s (.s (.m (.v 0) (.v 0)) (.v 1)) (.v 2)))) (y:=(.m (.v 0) (.v 0))) (by decide +kernel) [l,x1,x2],
   CR.lin (x:=(.a (.m (.v 1) (.v 3)) (.m (.a (.v 1) (.v 3)) (.s (.s (.m (.v 0) (.v 0)) (.v 1)) (.v 3))))) (y:=(.m (.a (.v 0) (.v 0)) (.a (.s (.m (.v 0) (.s (.v 1) (.s (.s (.m (.v 0) (.v 0)) (.v 1)) (.v 3)))) (.v 2)) (.m (.v 0) (.s (.s (.m (.v 0) (.v 0)) (.v 1)) (.v 3)))))) [((.v 0),(.v 2),(.a (.v 4) (.m (.v 0) (.s (.v 1) (.v 3))))),((.c 1),(.m (.v 0) (.a (.v 2) (.v 4))),(.a (.a (.m (.v 1) (.v 1)) (.m (.v 1) (.v 3))) (.m (.v 3) (.v 3))))] (by decide +kernel) [l,x1,y1,x2,y2] ⟨h.a,h.b,trivial⟩⟩
theorem LD.c{b l x1 y1 x2 y2 x3 y3:K2 n}(h:LD l x1 y1 x2 y2 x3 y3)(h3:mul y3 y3=add (mul (mul x3 x3) x3) b):mul (mul x1 x2) x3=sub (mul (add y3 (mul l x3)) (add y3 (mul l x3))) b:=
 CR.lin (x:=(.m (.m (.v 2) (.v 3)) (.v 4))) (y:=(.s (.m (.a (.v 5) (.m (.v 1) (.v 4))) (.a (.v 5) (.m (.v 1) (.v 4)))) (.v 0))) [((.m (.m (.c (-1)) (.v 4)) (.v 4)),(.a (.a (.v 2) (.v 3)) (.v 4)),(.m (.v 1) (.v 1))),((.m (.c 1) (.v 4)),(.a (.m (.v 2) (.v 3)) (.m (.a (.v 2) (.v 3)) (.v 4))),(.m (.a (.v 1) (.v 1)) (.a (.v 5) (.m (.v 1) (.v 4))))),((.c (-1)),(.m (.v 5) (.v 5)),(.a (.m (.m (.v 4) (.v 4)) (.v 4)) (.v 0)))] (by decide +kernel) [b,l,x1,x2,x3,y3] ⟨h.s,h.p,h3,trivial⟩
def nA(l1 l2 x:K2 n):K2 n:=add x (mul l1 l2)
def nB(l1 l2:K2 n):K2 n:=neg (add l1 l2)
def nC(l1 l2 x y:K2 n):K2 n:=sub (sub (mul x x) (mul (mul l1 l2) x)) (mul (sub l2 l1) y)
section
variable {b l1 l2 x1 y1 x2 y2 xs ys x3 y3 x4 y4:K2 n} (h:LD l1 x1 y1 x2 y2 xs ys) (k:LD l2 xs ys x3 y3 x4 y4) (hs:mul ys ys=add (mul (mul xs xs) xs) b)
include h k
theorem nr1:sub (add (nA l1 l2 xs) (nA l1 l2 xs)) (mul (nB l1 l2) (nB l1 l2))=neg (add (add (add x1 x2) x3) x4):=
 CR.lin (x:=(.s (.a (.a (.v 4) (.m (.v 0) (.v 1))) (.a (.v 4) (.m (.v 0) (.v 1)))) (.m (.n (.a (.v 0) (.v 1))) (.n (.a (.v 0) (.v 1)))))) (y:=(.n (.a (.a (.a (.v 2) (.v 3)) (.v 6)) (.v 7)))) [((.c 1),(.a (.a (.v 2) (.v 3)) (.v 4)),(.m (.v 0) (.v 0))),((.c 1),(.a (.a (.v 4) (.v 6)) (.v 7)),(.m (.v 1) (.v 1)))] (by decide +kernel) [l1,l2,x1,x2,xs,ys,x3,x4,y4] ⟨h.s,k.s,trivial⟩
theorem nr2:add (mul (nA l1 l2 xs) (nA l1 l2 xs)) (add (nC l1 l2 xs ys) (nC l1 l2 xs ys))=add (add (mul x1 x2) (mul x3 x4)) (mul (add x1 x2) (add x3 x4)):=
 CR.lin (x:=(.a (.m (.a (.v 4) (.m (.v 0) (.v 1))) (.a (.v 4) (.m (.v 0) (.v 1)))) (.a (.s (.s (.m (.v 4) (.v 4)) (.m (.m (.v 0) (.v 1)) (.v 4))) (.m (.s (.v 1) (.v 0)) (.v 5))) (.s (.s (.m (.v 4) (.v 4)) (.m (.m (.v 0) (.v 1)) (.v 4))) (.m (.s (.v 1) (.v 0)) (.v 5)))))) (y:=(.a (.a (.m (.v 2) (.v 3)) (.m (.v 6) (.v 7))) (.m (.a (.v 2) (.v 3)) (.a (.v 6) (.v 7))))) [((.a (.m (.c (-1)) (.v 7)) (.a (.m (.c (-1)) (.v 6)) (.m (.c 1) (.v 4)))),(.a (.a (.v 2) (.v 3)) (.v 4)),(.m (.v 0) (.v 0))),((.a (.m (.c 2) (.v 4)) (.m (.m (.c (-1)) (.v 0)) (.v 0))),(.a (.a (.v 4) (.v 6)) (.v 7)),(.m (.v 1) (.v 1))),((.c (-1)),(.a (.m (.v 2) (.v 3)) (.m (.a (.v 2) (.v 3)) (.v 4))),(.m (.a (.v 0) (.v 0)) (.a (.v 5) (.m (.v 0) (.v 4))))),((.m (.c (-2)) (.v 1)),(.a (.v 5) (.v 8)),(.m (.v 1) (.s (.v 4) (.v 7)))),((.c (-1)),(.a (.m (.v 4) (.v 6)) (.m (.a (.v 4) (.v 6)) (.v 7))),(.m (.a (.v 1) (.v 1)) (.a (.v 8) (.m (.v 1) (.v 7)))))] (by decide +kernel) [l1,l2,x1,x2,xs,ys,x3,x4,y4] ⟨h.s,k.s,h.p,k.a,k.p,trivial⟩
theorem nr3:mul (add (nA l1 l2 xs) (nA l1 l2 xs)) (nC l1 l2 xs ys)=neg (add (mul (mul x1 x2) (add x3 x4)) (mul (mul x3 x4) (add x1 x2))):=
 CR.lin (x:=(.m (.a (.a (.v 5) (.m (.v 1) (.v 2))) (.a (.v 5) (.m (.v 1) (.v 2)))) (.s (.s (.m (.v 5) (.v 5)) (.m (.m (.v 1) (.v 2)) (.v 5))) (.m (.s (.v 2) (.v 1)) (.v 6))))) (y:=(.n (.a (.m (.m (.v 3) (.v 4)) (.a (.v 7) (.v 8))) (.m (.m (.v 7) (.v 8)) (.a (.v 3) (.v 4)))))) [((.a (.m (.a (.m (.c 1) (.v 7)) (.m (.c 1) (.v 3))) (.v 8)) (.a (.m (.m (.c 1) (.v 3)) (.v 7)) (.a (.m (.a (.m (.c 1) (.v 5)) (.a (.m (.c 1) (.v 3)) (.m (.m (.c (-1)) (.v 2)) (.v 2)))) (.v 5)) (.m (.m (.m (.c (-1)) (.v 2)) (.v 2)) (.v 3))))),(.a (.a (.v 3) (.v 4)) (.v 5)),(.m (.v 1) (.v 1))),((.a (.m (.a (.m (.c 1) (.v 5)) (.a (.m (.c (-1)) (.v 3)) (.m (.m (.c (-1)) (.v 1)) (.v 1)))) (.v 5)) (.m (.a (.m (.c (-1)) (.v 3)) (.m (.m (.c 1) (.v 1)) (.v 1))) (.v 3))),(.a (.a (.v 5) (.v 7)) (.v 8)),(.m (.v 2) (.v 2))),((.a (.m (.c (-1)) (.v 5)) (.m (.m (.c 1) (.v 2)) (.v 2))),(.a (.m (.v 3) (.v 4)) (.m (.a (.v 3) (.v 4)) (.v 5))),(.m (.a (.v 1) (.v 1)) (.a (.v 6) (.m (.v 1) (.v 5))))),((.a (.m (.m (.c (-2)) (.v 2)) (.v 5)) (.m (.m (.m (.c 2) (.v 1)) (.v 1)) (.v 2))),(.a (.v 6) (.v 9)),(.m (.v 2) (.s (.v 5) (.v 8)))),((.a (.m (.c (-1)) (.v 5)) (.m (.m (.c 1) (.v 1)) (.v 1))),(.a (.m (.v 5) (.v 7)) (.m (.a (.v 5) (.v 7)) (.v 8))),(.m (.a (.v 2) (.v 2)) (.a (.v 9) (.m (.v 2) (.v 8)))))] (by decide +kernel) [l1,l1,l2,x1,x2,xs,ys,x3,x4,y4] ⟨h.s,k.s,h.p,k.a,k.p,trivial⟩
include hs
theorem nr4:sub (mul (nC l1 l2 xs ys) (nC l1 l2 xs ys)) (mul b (mul (nB l1 l2) (nB l1 l2)))=mul (mul x1 x2) (mul x3 x4):=
 CR.lin (x:=(.s (.m (.s (.s (.m (.v 5) (.v 5)) (.m (.m (.v 1) (.v 2)) (.v 5))) (.m (.s (.v 2) (.v 1)) (.v 6))) (.s (.s (.m (.v 5) (.v 5)) (.m (.m (.v 1) (.v 2)) (.v 5))) (.m (.s (.v 2) (.v 1)) (.v 6)))) (.m (.v 0) (.m (.n (.a (.v 1) (.v 2))) (.n (.a (.v 1) (.v 2))))))) (y:=(.m (.m (.v 3) (.v 4)) (.m (.v 7) (.v 8)))) [((.a (.m (.m (.m (.c (-1)) (.v 3)) (.v 7)) (.v 8)) (.m (.a (.m (.a (.m (.c (-1)) (.v 5)) (.m (.c (-1)) (.v 3))) (.v 7)) (.a (.m (.a (.m (.c (-1)) (.v 5)) (.a (.m (.c (-1)) (.v 3)) (.m (.m (.c 1) (.v 2)) (.v 2)))) (.v 5)) (.m (.m (.m (.c 1) (.v 2)) (.v 2)) (.v 3)))) (.v 7))),(.a (.a (.v 3) (.v 4)) (.v 5)),(.m (.v 1) (.v 1))),((.a (.m (.a (.m (.m (.c 2) (.v 1)) (.v 6)) (.a (.m (.a (.m (.c 1) (.v 5)) (.a (.m (.c 1) (.v 3)) (.m (.m (.c 1) (.v 1)) (.v 1)))) (.v 5)) (.m (.a (.m (.c 1) (.v 3)) (.m (.m (.c (-1)) (.v 1)) (.v 1))) (.v 3)))) (.v 7)) (.a (.m (.m (.m (.c 2) (.v 1)) (.v 5)) (.v 6)) (.m (.m (.a (.m (.c 1) (.v 5)) (.m (.m (.c 1) (.v 1)) (.v 1))) (.v 5)) (.v 5)))),(.a (.a (.v 5) (.v 7)) (.v 8)),(.m (.v 2) (.v 2))),((.m (.a (.m (.c 1) (.v 7)) (.a (.m (.c 1) (.v 5)) (.m (.m (.c (-1)) (.v 2)) (.v 2)))) (.v 7)),(.a (.m (.v 3) (.v 4)) (.m (.a (.v 3) (.v 4)) (.v 5))),(.m (.a (.v 1) (.v 1)) (.a (.v 6) (.m (.v 1) (.v 5))))),((.a (.m (.m (.m (.c (-4)) (.v 1)) (.v 2)) (.v 6)) (.m (.a (.m (.m (.c (-2)) (.v 2)) (.v 5)) (.m (.m (.m (.c (-2)) (.v 1)) (.v 1)) (.v 2))) (.v 5))),(.a (.v 6) (.v 9)),(.m (.v 2) (.s (.v 5) (.v 8)))),((.a (.m (.m (.c (-2)) (.v 1)) (.v 6)) (.m (.a (.m (.c (-1)) (.v 5)) (.m (.m (.c (-1)) (.v 1)) (.v 1))) (.v 5))),(.a (.m (.v 5) (.v 7)) (.m (.a (.v 5) (.v 7)) (.v 8))),(.m (.a (.v 2) (.v 2)) (.a (.v 9) (.m (.v 2) (.v 8))))),((.a (.m (.a (.m (.c 1) (.v 2)) (.m (.c 2) (.v 1))) (.v 2)) (.m (.m (.c 1) (.v 1)) (.v 1))),(.m (.v 6) (.v 6)),(.a (.m (.m (.v 5) (.v 5)) (.v 5)) (.v 0)))] (by decide +kernel) [b,l1,l2,x1,x2,xs,ys,x3,x4,y4] ⟨h.s,k.s,h.p,k.a,k.p,hs,trivial⟩
end
theorem nv1{l1 x1 y1 x2 y2 xs ys:K2 n}(h:LD l1 x1 y1 x2 y2 xs ys)(l2:K2 n):add (add (add (mul x1 x1) (mul (nA l1 l2 xs) x1)) (mul (nB l1 l2) y1)) (nC l1 l2 xs ys)=zero:=
 CR.lin (x:=(.a (.a (.a (.m (.v 2) (.v 2)) (.m (.a (.v 5) (.m (.v 0) (.v 1))) (.v 2))) (.m (.n (.a (.v 0) (.v 1))) (.v 3))) (.s (.s (.m (.v 5) (.v 5)) (.m (.m (.v 0) (.v 1)) (.v 5))) (.m (.s (.v 1) (.v 0)) (.v 6))))) (y:=(.c 0)) [((.a (.m (.c 1) (.v 5)) (.m (.c 1) (.v 2))),(.a (.a (.v 2) (.v 4)) (.v 5)),(.m (.v 0) (.v 0))),((.a (.m (.c (-1)) (.v 1)) (.m (.c (-1)) (.v 0))),(.a (.v 3) (.v 6)),(.m (.v 0) (.s (.v 2) (.v 5)))),((.c (-1)),(.a (.m (.v 2) (.v 4)) (.m (.a (.v 2) (.v 4)) (.v 5))),(.m (.a (.v 0) (.v 0)) (.a (.v 6) (.m (.v 0) (.v 5)))))] (by decide +kernel) [l1,l2,x1,y1,x2,xs,ys] ⟨h.s,h.a,h.p,trivial⟩
theorem nv2{l2 x3 y3 x4 y4 xs ys:K2 n}(k:LD l2 xs ys x3 y3 x4 y4)(l1:K2 n):add (add (add (mul x3 x3) (mul (nA l1 l2 xs) x3)) (mul (nB l1 l2) y3)) (nC l1 l2 xs ys)=zero:=
 CR.lin (x:=(.a (.a (.a (.m (.v 2) (.v 2)) (.m (.a (.v 6) (.m (.v 0) (.v 1))) (.v 2))) (.m (.n (.a (.v 0) (.v 1))) (.v 3))) (.s (.s (.m (.v 6) (.v 6)) (.m (.m (.v 0) (.v 1)) (.v 6))) (.m (.s (.v 1) (.v 0)) (.v 7))))) (y:=(.c 0)) [((.a (.m (.c 1) (.v 6)) (.m (.c 1) (.v 2))),(.a (.a (.v 6) (.v 2)) (.v 4)),(.m (.v 1) (.v 1))),((.a (.m (.c (-1)) (.v 1)) (.m (.c 1) (.v 0))),(.a (.v 7) (.v 5)),(.m (.v 1) (.s (.v 6) (.v 4)))),((.a (.m (.c (-1)) (.v 1)) (.m (.c (-1)) (.v 0))),(.a (.v 3) (.v 5)),(.m (.v 1) (.s (.v 2) (.v 4)))),((.c (-1)),(.a (.m (.v 6) (.v 2)) (.m (.a (.v 6) (.v 2)) (.v 4))),(.m (.a (.v 1) (.v 1)) (.a (.v 5) (.m (.v 1) (.v 4)))))] (by decide +kernel) [l1,l2,x3,y3,x4,y4,xs,ys] ⟨k.s,k.a,k.b,k.p,trivial⟩
theorem FJ(hp:P3 n){b a c d a' c' d':K2 n}(h2:No2 b)(h1:sub (add a a) (mul c c)=sub (add a' a') (mul c' c'))(h3:add (mul a a) (add d d)=add (mul a' a') (add d' d'))
  (h4:mul (add a a) d=mul (add a' a') d') (h5:sub (mul d d) (mul b (mul c c))=sub (mul d' d') (mul b (mul c' c'))):a=a'∧d=d'∧(c=c'∨c=neg c'):=by
 obtain⟨i,hi⟩:=Cc hp
 have hi:add i i=CR.ofZ 1:=hi
 have e1:a=a':=by
  have e:mul (sub a a') (add (mul (mul (mul (add a a') i) (mul (add a a') i)) (mul (add a a') i)) b)=zero:=
   CR.lin (x:=(.m (.s (.v 0) (.v 3)) (.a (.m (.m (.m (.a (.v 0) (.v 3)) (.v 7)) (.m (.a (.v 0) (.v 3)) (.v 7))) (.m (.a (.v 0) (.v 3)) (.v 7))) (.v 6)))) (y:=(.c 0)) [((.m (.v 6) (.v 7)),(.s (.a (.v 0) (.v 0)) (.m (.v 1) (.v 1))),(.s (.a (.v 3) (.v 3)) (.m (.v 4) (.v 4)))),((.a (.m (.m (.a (.v 0) (.v 3)) (.a (.v 0) (.v 3))) (.m (.m (.v 7) (.v 7)) (.v 7))) (.m (.a (.v 2) (.v 5)) (.m (.v 7) (.v 7)))),(.a (.m (.v 0) (.v 0)) (.a (.v 2) (.v 2))),(.a (.m (.v 3) (.v 3)) (.a (.v 5) (.v 5)))),((.n (.m (.a (.v 0) (.v 3)) (.m (.v 7) (.v 7)))),(.m (.a (.v 0) (.v 0)) (.v 2)),(.m (.a (.v 3) (.v 3)) (.v 5))),((.n (.v 7)),(.s (.m (.v 2) (.v 2)) (.m (.v 6) (.m (.v 1) (.v 1)))),(.s (.m (.v 5) (.v 5)) (.m (.v 6) (.m (.v 4) (.v 4))))),((.a (.m (.a (.m (.a (.m (.a (.m (.a (.m (.c 1) (.v 3)) (.m (.c 2) (.v 0))) (.v 3)) (.m (.m (.c 1) (.v 0)) (.v 0))) (.v 5)) (.a (.m (.a (.m (.m (.c (-1)) (.v 2)) (.v 3)) (.m (.m (.c (-2)) (.v 0)) (.v 2))) (.v 3)) (.m (.m (.m (.c (-1)) (.v 0)) (.v 0)) (.v 2)))) (.v 7)) (.a (.m (.m (.c 1) (.v 5)) (.v 5)) (.m (.m (.c (-1)) (.v 2)) (.v 2)))) (.v 7)) (.m (.a (.m (.c 1) (.v 3)) (.m (.c (-1)) (.v 0))) (.v 6))),(.a (.v 7) (.v 7)),(.c 1))] (by decide +kernel) [a,c,d,a',c',d',b,i] ⟨h1,h3,h4,h5,hi,trivial⟩
  exact aE ((aW hp e).resolve_right (h2 _))
 subst e1
 have e2:d=d':=CR.lin (x:=(.v 1)) (y:=(.v 2)) [((.v 3),(.a (.m (.v 0) (.v 0)) (.a (.v 1) (.v 1))),(.a (.m (.v 0) (.v 0)) (.a (.v 2) (.v 2)))),((.a (.m (.c 1) (.v 2)) (.m (.c (-1)) (.v 1))),(.a (.v 3) (.v 3)),(.c 1))] (by decide +kernel) [a,d,d',i] ⟨h3,hi,trivial⟩
 exact⟨rfl,e2,Jq hp (CR.lin (x:=(.m (.v 1) (.v 1))) (y:=(.m (.v 2) (.v 2))) [((.c (-1)),(.s (.a (.v 0) (.v 0)) (.m (.v 1) (.v 1))),(.s (.a (.v 0) (.v 0)) (.m (.v 2) (.v 2))))] (by decide +kernel) [a,c,c'] ⟨h1,trivial⟩)⟩
end K2
end Go.Proofs.YtndhfbecpghinaaGreat.L.Kf
namespace Go.Proofs.YtndhfbecpghinaaGreat.L.Kf
open Pr
namespace T12
variable {n:Nat} [NeZero n]
open K2 (Pt pa pn Onc No2 Slp LD cx cy gb d8 nA nB nC)
attribute [local irreducible] K2.add K2.mul K2.sub K2.neg K2.zero K2.one K2.inv K2.xi
def ln(l x y u v:K2 n):T12 n:=⟨⟨K2.sub (K2.mul l x) y,K2.neg (K2.mul l u),K2.zero⟩,⟨K2.zero,v,K2.zero⟩⟩
def vt(x u:K2 n):T6 n:=⟨x,K2.neg u,K2.zero⟩
def nv(a c d u v:K2 n):T12 n:=⟨⟨d,K2.mul a u,K2.mul u u⟩,⟨K2.zero,K2.mul c v,K2.zero⟩⟩
theorem vz(a0 a1 a2 a3 a4 a5 b0 b1 b2 b3 b4 b5:K2 n):mul ⟨⟨a0,a2,a4⟩,⟨a1,a3,a5⟩⟩ ⟨⟨b0,b2,b4⟩,⟨b1,b3,b5⟩⟩ =
    ⟨⟨K2.add (K2.mul a0 b0) (K2.mul K2.xi (K2.add (K2.add (K2.add (K2.mul a1 b5) (K2.mul a5 b1)) (K2.add (K2.mul a2 b4) (K2.mul a4 b2))) (K2.mul a3 b3))),K2.add (K2.add (K2.mul a0 b2) (K2.add (K2.mul a2 b0) (K2.mul a1 b1))) (K2.mul K2.xi (K2.add (K2.add (K2.mul a3 b5) (K2.mul a5 b3)) (K2.mul a4 b4))),K2.add (K2.add (K2.add (K2.mul a0 b4) (K2.mul a4 b0)) (K2.add (K2.add (K2.mul a1 b3) (K2.mul a3 b1)) (K2.mul a2 b2))) (K2.mul K2.xi (K2.mul a5 b5))⟩,
     ⟨K2.add (K2.add (K2.mul a0 b1) (K2.mul a1 b0)) (K2.mul K2.xi (K2.add (K2.add (K2.mul a2 b5) (K2.mul a5 b2)) (K2.add (K2.mul a3 b4) (K2.mul a4 b3)))),K2.add (K2.add (K2.add (K2.mul a0 b3) (K2.mul a3 b0)) (K2.add (K2.mul a1 b2) (K2.mul a2 b1))) (K2.mul K2.xi (K2.add (K2.mul a4 b5) (K2.mul a5 b4))),K2.add (K2.add (K2.add (K2.mul a0 b5) (K2.mul a5 b0)) (K2.add (K2.mul a1 b4) (K2.mul a4 b1))) (K2.add (K2.mul a2 b3) (K2.mul a3 b2))⟩⟩:=by
  unfold mul
  rw[U5]
  refine ext' (T6.ext' ?_ ?_ ?_) (T6.ext' ?_ ?_ ?_)
  · exact CR.aH (x:=(.a (.a (.m (.v 0) (.v 6)) (.m (.v 12) (.a (.m (.v 2) (.v 10)) (.m (.v 4) (.v 8))))) (.m (.v 12) (.a (.a (.m (.v 1) (.v 11)) (.m (.v 3) (.v 9))) (.m (.v 5) (.v 7)))))) (y:=(.a (.m (.v 0) (.v 6)) (.m (.v 12) (.a (.a (.a (.m (.v 1) (.v 11)) (.m (.v 5) (.v 7))) (.a (.m (.v 2) (.v 10)) (.m (.v 4) (.v 8)))) (.m (.v 3) (.v 9)))))) (by decide +kernel) [a0,a1,a2,a3,a4,a5,b0,b1,b2,b3,b4,b5,K2.xi]
  · exact CR.aH (x:=(.a (.a (.a (.m (.v 0) (.v 8)) (.m (.v 2) (.v 6))) (.m (.v 12) (.m (.v 4) (.v 10)))) (.a (.m (.v 1) (.v 7)) (.m (.v 12) (.a (.m (.v 3) (.v 11)) (.m (.v 5) (.v 9))))))) (y:=(.a (.a (.m (.v 0) (.v 8)) (.a (.m (.v 2) (.v 6)) (.m (.v 1) (.v 7)))) (.m (.v 12) (.a (.a (.m (.v 3) (.v 11)) (.m (.v 5) (.v 9))) (.m (.v 4) (.v 10)))))) (by decide +kernel) [a0,a1,a2,a3,a4,a5,b0,b1,b2,b3,b4,b5,K2.xi]
  · exact CR.aH (x:=(.a (.a (.a (.m (.v 0) (.v 10)) (.m (.v 2) (.v 8))) (.m (.v 4) (.v 6))) (.a (.a (.m (.v 1) (.v 9)) (.m (.v 3) (.v 7))) (.m (.v 12) (.m (.v 5) (.v 11)))))) (y:=(.a (.a (.a (.m (.v 0) (.v 10)) (.m (.v 4) (.v 6))) (.a (.a (.m (.v 1) (.v 9)) (.m (.v 3) (.v 7))) (.m (.v 2) (.v 8)))) (.m (.v 12) (.m (.v 5) (.v 11))))) (by decide +kernel) [a0,a1,a2,a3,a4,a5,b0,b1,b2,b3,b4,b5,K2.xi]
  · exact CR.aH (x:=(.a (.a (.m (.v 0) (.v 7)) (.m (.v 12) (.a (.m (.v 2) (.v 11)) (.m (.v 4) (.v 9))))) (.a (.m (.v 1) (.v 6)) (.m (.v 12) (.a (.m (.v 3) (.v 10)) (.m (.v 5) (.v 8))))))) (y:=(.a (.a (.m (.v 0) (.v 7)) (.m (.v 1) (.v 6))) (.m (.v 12) (.a (.a (.m (.v 2) (.v 11)) (.m (.v 5) (.v 8))) (.a (.m (.v 3) (.v 10)) (.m (.v 4) (.v 9))))))) (by decide +kernel) [a0,a1,a2,a3,a4,a5,b0,b1,b2,b3,b4,b5,K2.xi]
  · exact CR.aH (x:=(.a (.a (.a (.m (.v 0) (.v 9)) (.m (.v 2) (.v 7))) (.m (.v 12) (.m (.v 4) (.v 11)))) (.a (.a (.m (.v 1) (.v 8)) (.m (.v 3) (.v 6))) (.m (.v 12) (.m (.v 5) (.v 10)))))) (y:=(.a (.a (.a (.m (.v 0) (.v 9)) (.m (.v 3) (.v 6))) (.a (.m (.v 1) (.v 8)) (.m (.v 2) (.v 7)))) (.m (.v 12) (.a (.m (.v 4) (.v 11)) (.m (.v 5) (.v 10)))))) (by decide +kernel) [a0,a1,a2,a3,a4,a5,b0,b1,b2,b3,b4,b5,K2.xi]
  · exact CR.aH (x:=(.a (.a (.a (.m (.v 0) (.v 11)) (.m (.v 2) (.v 9))) (.m (.v 4) (.v 7))) (.a (.a (.m (.v 1) (.v 10)) (.m (.v 3) (.v 8))) (.m (.v 5) (.v 6))))) (y:=(.a (.a (.a (.m (.v 0) (.v 11)) (.m (.v 5) (.v 6))) (.a (.m (.v 1) (.v 10)) (.m (.v 4) (.v 7)))) (.a (.m (.v 2) (.v 9)) (.m (.v 3) (.v 8))))) (by decide +kernel) [a0,a1,a2,a3,a4,a5,b0,b1,b2,b3,b4,b5,K2.xi]
theorem Uw(a b c:K2 n):e6 ⟨a,b,c⟩=⟨⟨a,b,c⟩,⟨K2.zero,K2.zero,K2.zero⟩⟩:=rfl
theorem U1{b c l1 l2 x1 y1 x2 y2 xs ys u v:K2 n}(h:LD l1 x1 y1 x2 y2 xs ys)(hb:b=K2.mul K2.xi c)(hs:K2.mul ys ys=K2.add (K2.mul (K2.mul xs xs) xs) b)(hu:K2.mul v v=K2.add (K2.mul (K2.mul u u) u) c):
  mul (ln l1 x1 y1 u v) (ln l2 xs ys u v)=mul (e6 (vt xs u)) (neg (nv (nA l1 l2 xs) (nB l1 l2) (nC l1 l2 xs ys) u v)):=by
 have h0:K2.sub (K2.mul l1 x1) y1=K2.add (K2.mul l1 xs) ys:=CR.lin (x:=(.s (.m (.v 0) (.v 1)) (.v 2))) (y:=(.a (.m (.v 0) (.v 3)) (.v 4))) [((.c (-1)),(.a (.v 2) (.v 4)),(.m (.v 0) (.s (.v 1) (.v 3))))] (by decide +kernel) [l1,x1,y1,xs,ys] ⟨h.a,trivial⟩
 unfold ln vt nv
 rw[h0,Uw]
 unfold neg T6.neg
 rw[vz,vz]
 subst hb
 refine ext' (T6.ext' ?_ ?_ ?_) (T6.ext' ?_ ?_ ?_)
 ·exact CR.lin (x:=(.a (.m (.a (.m (.v 1) (.v 3)) (.v 4)) (.s (.m (.v 2) (.v 3)) (.v 4))) (.m (.v 7) (.a (.a (.a (.m (.c 0) (.c 0)) (.m (.c 0) (.c 0))) (.a (.m (.n (.m (.v 1) (.v 5))) (.c 0)) (.m (.c 0) (.n (.m (.v 2) (.v 5)))))) (.m (.v 6) (.v 6)))))) (y:=(.a (.m (.v 3) (.n (.s (.s (.m (.v 3) (.v 3)) (.m (.m (.v 1) (.v 2)) (.v 3))) (.m (.s (.v 2) (.v 1)) (.v 4))))) (.m (.v 7) (.a (.a (.a (.m (.c 0) (.n (.c 0))) (.m (.c 0) (.n (.c 0)))) (.a (.m (.n (.v 5)) (.n (.m (.v 5) (.v 5)))) (.m (.c 0) (.n (.m (.a (.v 3) (.m (.v 1) (.v 2))) (.v 5)))))) (.m (.c 0) (.n (.m (.n (.a (.v 1) (.v 2))) (.v 6)))))))) [((.c (-1)),(.m (.v 4) (.v 4)),(.a (.m (.m (.v 3) (.v 3)) (.v 3)) (.m (.v 7) (.v 0)))),((.v 7),(.m (.v 6) (.v 6)),(.a (.m (.m (.v 5) (.v 5)) (.v 5)) (.v 0)))] (by decide +kernel) [c,l1,l2,xs,ys,u,v,K2.xi] ⟨hs,hu,trivial⟩
 ·exact CR.aH (x:=(.a (.a (.m (.a (.m (.v 1) (.v 3)) (.v 4)) (.n (.m (.v 2) (.v 5)))) (.a (.m (.n (.m (.v 1) (.v 5))) (.s (.m (.v 2) (.v 3)) (.v 4))) (.m (.c 0) (.c 0)))) (.m (.v 7) (.a (.a (.m (.v 6) (.c 0)) (.m (.c 0) (.v 6))) (.m (.c 0) (.c 0)))))) (y:=(.a (.a (.m (.v 3) (.n (.m (.a (.v 3) (.m (.v 1) (.v 2))) (.v 5)))) (.a (.m (.n (.v 5)) (.n (.s (.s (.m (.v 3) (.v 3)) (.m (.m (.v 1) (.v 2)) (.v 3))) (.m (.s (.v 2) (.v 1)) (.v 4))))) (.m (.c 0) (.n (.c 0))))) (.m (.v 7) (.a (.a (.m (.c 0) (.n (.c 0))) (.m (.c 0) (.n (.m (.n (.a (.v 1) (.v 2))) (.v 6))))) (.m (.c 0) (.n (.m (.v 5) (.v 5)))))))) (by decide +kernel) [c,l1,l2,xs,ys,u,v,K2.xi]
 ·exact CR.aH (x:=(.a (.a (.a (.m (.a (.m (.v 1) (.v 3)) (.v 4)) (.c 0)) (.m (.c 0) (.s (.m (.v 2) (.v 3)) (.v 4)))) (.a (.a (.m (.c 0) (.v 6)) (.m (.v 6) (.c 0))) (.m (.n (.m (.v 1) (.v 5))) (.n (.m (.v 2) (.v 5)))))) (.m (.v 7) (.m (.c 0) (.c 0))))) (y:=(.a (.a (.a (.m (.v 3) (.n (.m (.v 5) (.v 5)))) (.m (.c 0) (.n (.s (.s (.m (.v 3) (.v 3)) (.m (.m (.v 1) (.v 2)) (.v 3))) (.m (.s (.v 2) (.v 1)) (.v 4)))))) (.a (.a (.m (.c 0) (.n (.m (.n (.a (.v 1) (.v 2))) (.v 6)))) (.m (.c 0) (.n (.c 0)))) (.m (.n (.v 5)) (.n (.m (.a (.v 3) (.m (.v 1) (.v 2))) (.v 5)))))) (.m (.v 7) (.m (.c 0) (.n (.c 0)))))) (by decide +kernel) [c,l1,l2,xs,ys,u,v,K2.xi]
 ·exact CR.aH (x:=(.a (.a (.m (.a (.m (.v 1) (.v 3)) (.v 4)) (.c 0)) (.m (.c 0) (.s (.m (.v 2) (.v 3)) (.v 4)))) (.m (.v 7) (.a (.a (.m (.n (.m (.v 1) (.v 5))) (.c 0)) (.m (.c 0) (.n (.m (.v 2) (.v 5))))) (.a (.m (.v 6) (.c 0)) (.m (.c 0) (.v 6))))))) (y:=(.a (.a (.m (.v 3) (.n (.c 0))) (.m (.c 0) (.n (.s (.s (.m (.v 3) (.v 3)) (.m (.m (.v 1) (.v 2)) (.v 3))) (.m (.s (.v 2) (.v 1)) (.v 4)))))) (.m (.v 7) (.a (.a (.m (.n (.v 5)) (.n (.c 0))) (.m (.c 0) (.n (.m (.a (.v 3) (.m (.v 1) (.v 2))) (.v 5))))) (.a (.m (.c 0) (.n (.m (.v 5) (.v 5)))) (.m (.c 0) (.n (.m (.n (.a (.v 1) (.v 2))) (.v 6))))))))) (by decide +kernel) [c,l1,l2,xs,ys,u,v,K2.xi]
 ·exact CR.aH (x:=(.a (.a (.a (.m (.a (.m (.v 1) (.v 3)) (.v 4)) (.v 6)) (.m (.v 6) (.s (.m (.v 2) (.v 3)) (.v 4)))) (.a (.m (.c 0) (.n (.m (.v 2) (.v 5)))) (.m (.n (.m (.v 1) (.v 5))) (.c 0)))) (.m (.v 7) (.a (.m (.c 0) (.c 0)) (.m (.c 0) (.c 0)))))) (y:=(.a (.a (.a (.m (.v 3) (.n (.m (.n (.a (.v 1) (.v 2))) (.v 6)))) (.m (.c 0) (.n (.s (.s (.m (.v 3) (.v 3)) (.m (.m (.v 1) (.v 2)) (.v 3))) (.m (.s (.v 2) (.v 1)) (.v 4)))))) (.a (.m (.c 0) (.n (.m (.a (.v 3) (.m (.v 1) (.v 2))) (.v 5)))) (.m (.n (.v 5)) (.n (.c 0))))) (.m (.v 7) (.a (.m (.c 0) (.n (.c 0))) (.m (.c 0) (.n (.m (.v 5) (.v 5)))))))) (by decide +kernel) [c,l1,l2,xs,ys,u,v,K2.xi]
 ·exact CR.aH (x:=(.a (.a (.a (.m (.a (.m (.v 1) (.v 3)) (.v 4)) (.c 0)) (.m (.c 0) (.s (.m (.v 2) (.v 3)) (.v 4)))) (.a (.m (.c 0) (.c 0)) (.m (.c 0) (.c 0)))) (.a (.m (.n (.m (.v 1) (.v 5))) (.v 6)) (.m (.v 6) (.n (.m (.v 2) (.v 5))))))) (y:=(.a (.a (.a (.m (.v 3) (.n (.c 0))) (.m (.c 0) (.n (.s (.s (.m (.v 3) (.v 3)) (.m (.m (.v 1) (.v 2)) (.v 3))) (.m (.s (.v 2) (.v 1)) (.v 4)))))) (.a (.m (.c 0) (.n (.m (.v 5) (.v 5)))) (.m (.c 0) (.n (.c 0))))) (.a (.m (.n (.v 5)) (.n (.m (.n (.a (.v 1) (.v 2))) (.v 6)))) (.m (.c 0) (.n (.m (.a (.v 3) (.m (.v 1) (.v 2))) (.v 5))))))) (by decide +kernel) [c,l1,l2,xs,ys,u,v,K2.xi]
end T12
end Go.Proofs.YtndhfbecpghinaaGreat.L.Kf
namespace Go.Proofs.YtndhfbecpghinaaGreat.L.Kf
open Pr
namespace T12
variable {n:Nat} [NeZero n]
open K2 (Pt pa pn Onc No2 Slp LD cx cy gb d8 nA nB nC)
attribute [local irreducible] K2.add K2.mul K2.sub K2.neg K2.zero K2.one K2.inv K2.xi
def lin(P A B:Pt n):T12 n:=
 match P,A,B with
 | some P,some A,some B=>
  if A.1=B.1 then if A.2=B.2∧A.2≠K2.zero then ln (gb A.1 A.2) A.1 A.2 P.1 P.2 else e6 (vt A.1 P.1)
  else ln (d8 A.1 A.2 B.1 B.2) A.1 A.2 P.1 P.2
 | _,_,_=>one
structure Pg (b c:K2 n):Prop where
 tw:T6.Tw n
 hb:b=K2.mul K2.xi c
 n2:No2 b
 n4:No2 c
 nb:∀y,K2.mul y y≠b
theorem gM(P B:Pt n):lin P none B=one:=by cases P <;> rfl
theorem tk(P A:Pt n):lin P A none=one:=by cases P <;> cases A <;> rfl
theorem dr(hp:P3 n){l x1 y1 x2 y2 u v:K2 n}(h:Slp l x1 y1 x2 y2)(hne:x1≠x2∨K2.add y1 y2≠K2.zero):lin (some (u,v)) (some (x1,y1)) (some (x2,y2))=ln l x1 y1 u v:=by
 by_cases hx:x1=x2
 ·subst hx
  have hy:y1=y2:=by
   have:=h.a
   rwa [K2.aZ,K2.aj,K2.add_zero']at this
  subst hy
  have h2:K2.add y1 y1≠K2.zero:=hne.resolve_left fun h=>h rfl
  have hy0:y1≠K2.zero:=fun e=>h2 (by rw[e,K2.add_zero'])
  have ht:gb x1 y1=l:=K2.dw hp h2 h.b
  show(if x1=x1 then if y1=y1∧y1≠K2.zero then _ else _ else _)=_
  rw[if_pos rfl,if_pos ⟨rfl,hy0⟩,ht]
 ·have hd:K2.sub x2 x1≠K2.zero:=fun e=>hx (K2.aE e).symm
  have hc:d8 x1 y1 x2 y2=l:=K2.dw hp hd (CR.lin (x:=(.m (.v 4) (.s (.v 2) (.v 0)))) (y:=(.s (.v 3) (.v 1))) [((.c 1),(.v 1),(.a (.v 3) (.m (.v 4) (.s (.v 0) (.v 2)))))] (by decide +kernel) [x1,y1,x2,y2,l] ⟨h.a,trivial⟩)
  show(if x1=x2 then _ else _)=_
  rw[if_neg hx,hc]
theorem Cp(hp:P3 n){x1 y1 x2 y2 u v:K2 n}(hx:x1=x2)(hy:K2.add y1 y2=K2.zero):lin (some (u,v)) (some (x1,y1)) (some (x2,y2))=e6 (vt x1 u):=by
 subst hx
 show(if x1=x1 then if y1=y2∧y1≠K2.zero then _ else _ else _)=_
 rw[if_pos rfl,if_neg]
 rintro⟨rfl,h⟩
 exact K2.gj hp h hy
theorem kc{l x y u v:K2 n}(h:v≠K2.zero):ln l x y u v≠zero:=fun e=>h (congrArg (fun z:T12 n=>z.b.b) e)
theorem zg{x u:K2 n}(h:x≠K2.zero):e6 (vt x u)≠zero:=fun e=>h (congrArg (fun z:T12 n=>z.a.a) e)
theorem Io(z:T12 n):neg z=mul (e6 (T6.neg T6.one)) z:=by
 have h:e6 (T6.neg T6.one)=(CR.neg CR.one:T12 n):=ext' rfl (CR.bj (R:=T6 n)).symm
 rw[h]
 exact(Eq.trans (CR.dd _ _) (congrArg _ (CR.aR z))).symm
theorem HZ{l x y x' y' u v:K2 n}(h:K2.sub (K2.mul (K2.neg l) x') y'=K2.neg (K2.sub (K2.mul l x) y)):ln (K2.neg l) x' y' u v=neg (conj (ln l x y u v)):=by
 unfold ln
 rw[h]
 refine ext' (T6.ext' rfl ?_ ?_) (T6.ext' ?_ ?_ ?_)
 ·exact CR.aH (x:=(.n (.m (.n (.v 0)) (.v 1)))) (y:=(.n (.n (.m (.v 0) (.v 1))))) (by decide +kernel) [l,u]
 ·exact K2.bj.symm
 ·exact(by show K2.zero=K2.neg (K2.neg K2.zero);rw[K2.bv])
 ·exact(K2.bv v).symm
 ·exact(by show K2.zero=K2.neg (K2.neg K2.zero);rw[K2.bv])
theorem Mc{l x y x' y' u v:K2 n}(h:K2.sub (K2.mul l x') y'=K2.sub (K2.mul l x) y):ln l x' y' u v=ln l x y u v:=by
 unfold ln
 rw[h]
theorem nd(hp:P3 n){x1 y1 x2 y2:K2 n}(h:pa (some (x1,y1)) (some (x2,y2))≠none):x1≠x2∨K2.add y1 y2≠K2.zero:=by
 by_cases hx:x1=x2
 ·exact .inr fun e=>h (K2.c9 hp hx e)
 ·exact .inl hx
section
variable (tw:T6.Tw n) {N:Nat}
include tw
omit tw in
theorem AN{z:T12 n}(h:z≠zero):neg z≠zero:=fun e=>h (by
 have e2:=CR.bv z
 rw[show CR.neg z=zero from e]at e2
 exact e2.symm.trans (CR.bj (R:=T12 n)))
theorem LB{z:T12 n}(h:z≠zero):fin N (neg z)=fin N z:=by
 have h1:e6 (T6.neg T6.one)≠(zero:T12 n):=fun e=>AN h (by rw[Io,e];exact CR.aG z)
 rw[Io,dt tw h1 h,n8 tw h1,bh]
theorem uZ{z:T12 n}(h:z≠zero):mul (fin N (neg (conj z))) (fin N z)=one:=by
 rw[LB tw (jk tw h),j3 tw h]
theorem eX:fin N (one:T12 n)=one:=n8 tw (cK tw)
end
theorem qY{x y z:T12 n}(h:mul x y=one)(k:mul x z=one):y=z:=by
 rw[← am y,← k,← mul_assoc',mul_comm' y,h,bh]
theorem Hh(hp:P3 n){b l1 l2 l3 l4 x1 y1 x2 y2 x3 y3 xs ys xt yt xw yw:K2 n}(h2:No2 b)(d1:LD l1 x1 y1 x2 y2 xs ys)(d2:LD l2 xs ys x3 y3 xw yw)(d3:LD l3 x2 y2 x3 y3 xt yt)(d4:LD l4 xt yt x1 y1 xw yw)
  (hs:Onc b (some (xs,ys))) (ht:Onc b (some (xt,yt))) (hy:y1≠K2.zero):nA l1 l2 xs=nA l3 l4 xt∧nB l1 l2=nB l3 l4∧nC l1 l2 xs ys=nC l3 l4 xt yt:=by
 have hs:=K2.bK hs
 have ht:=K2.bK ht
 have e1:=(K2.nr1 d1 d2).trans (Eq.trans (CR.aH (x:=(.n (.a (.a (.a (.v 0) (.v 1)) (.v 2)) (.v 3)))) (y:=(.n (.a (.a (.a (.v 1) (.v 2)) (.v 0)) (.v 3)))) (by decide +kernel) [x1,x2,x3,xw]) (K2.nr1 d3 d4).symm)
 have e2:=(K2.nr2 d1 d2).trans (Eq.trans (CR.aH (x:=(.a (.a (.m (.v 0) (.v 1)) (.m (.v 2) (.v 3))) (.m (.a (.v 0) (.v 1)) (.a (.v 2) (.v 3))))) (y:=(.a (.a (.m (.v 1) (.v 2)) (.m (.v 0) (.v 3))) (.m (.a (.v 1) (.v 2)) (.a (.v 0) (.v 3))))) (by decide +kernel) [x1,x2,x3,xw]) (K2.nr2 d3 d4).symm)
 have e3:=(K2.nr3 d1 d2).trans (Eq.trans (CR.aH (x:=(.n (.a (.m (.m (.v 0) (.v 1)) (.a (.v 2) (.v 3))) (.m (.m (.v 2) (.v 3)) (.a (.v 0) (.v 1)))))) (y:=(.n (.a (.m (.m (.v 1) (.v 2)) (.a (.v 0) (.v 3))) (.m (.m (.v 0) (.v 3)) (.a (.v 1) (.v 2)))))) (by decide +kernel) [x1,x2,x3,xw]) (K2.nr3 d3 d4).symm)
 have e4:=(K2.nr4 d1 d2 hs).trans (Eq.trans (CR.aH (x:=(.m (.m (.v 0) (.v 1)) (.m (.v 2) (.v 3)))) (y:=(.m (.m (.v 1) (.v 2)) (.m (.v 0) (.v 3)))) (by decide +kernel) [x1,x2,x3,xw]) (K2.nr4 d3 d4 ht).symm)
 obtain⟨f1,f2,f3⟩:=K2.FJ hp h2 e1 e2 e3 e4
 refine⟨f1,f3.elim id fun f=>?_,f2⟩
 have v1:=K2.nv1 d1 l2
 have v2:=K2.nv2 d4 l3
 rw[f1,f,f2]at v1
 generalize nA l3 l4 xt=a at v1 v2
 generalize nB l3 l4=c at *
 generalize nC l3 l4 xt yt=d at v1 v2
 have h0:K2.add (K2.mul c y1) (K2.mul c y1)=CR.ofZ 0:=CR.lin (x:=(.a (.m (.v 1) (.v 4)) (.m (.v 1) (.v 4)))) (y:=(.c 0)) [((.c (-1)),(.a (.a (.a (.m (.v 3) (.v 3)) (.m (.v 0) (.v 3))) (.m (.n (.v 1)) (.v 4))) (.v 2)),(.c 0)),((.c 1),(.a (.a (.a (.m (.v 3) (.v 3)) (.m (.v 0) (.v 3))) (.m (.v 1) (.v 4))) (.v 2)),(.c 0))] (by decide +kernel) [a,c,d,x1,y1] ⟨v1,v2,trivial⟩
 have hc:K2.mul c y1=K2.zero:=Classical.byContradiction fun h=>K2.gj hp h h0
 rw[f,(K2.aW hp hc).resolve_right hy,K2.bj]
section
variable {b c:K2 n} (H:Pg b c) {N:Nat}
include H
theorem Pg.x_ne{x y:K2 n}(h:Onc b (some (x,y))):x≠K2.zero:=by
 rintro rfl
 refine H.nb y (Eq.trans h ?_)
 rw[K2.aj,K2.aM]
theorem j9{P A B:Pt n}(hP:Onc c P)(hA:Onc b A)(hB:Onc b B):lin P A B≠zero:=by
 cases P with
 | none=>exact cK H.tw
 | some P=>cases A with
  | none=>exact cK H.tw
  | some A=>cases B with
   | none=>exact cK H.tw
   | some B=>
    obtain⟨u,v⟩:=P;obtain⟨x1,y1⟩:=A;obtain⟨x2,y2⟩:=B
    rcases K2.cq (x1:=x1) (y1:=y1) (x2:=x2) (y2:=y2) H.tw.p3 hA hB with⟨h1,h2⟩ | ⟨l,h,hn⟩
    ·rw[Cp H.tw.p3 h1 h2];exact zg (H.x_ne hA)
    ·rw[dr H.tw.p3 h hn];exact kc (K2.gH H.n4 hP)
theorem Pg.oa{A B:Pt n}(hA:Onc b A)(hB:Onc b B):Onc b (pa A B):=K2.dk H.tw.p3 hA hB
omit H in
def lam(N:Nat)(P A B:Pt n):T12 n:=fin N (lin P A B)
theorem ed(A B:Pt n):lam N none A B=one:=eX H.tw
theorem dq(P B:Pt n):lam N P none B=one:=by rw[lam,gM];exact eX H.tw
theorem dz(P A:Pt n):lam N P A none=one:=by rw[lam,tk];exact eX H.tw
theorem cF{x1 y1 x2 y2 u v:K2 n}(hA:Onc b (some (x1,y1)))(hx:x1=x2)(hy:K2.add y1 y2=K2.zero):lam N (some (u,v)) (some (x1,y1)) (some (x2,y2))=one:=by
 rw[lam,Cp H.tw.p3 hx hy]
 exact n8 H.tw (zg (H.x_ne hA))
theorem L6{P A:Pt n}(hA:Onc b A):lam N P A (pn A)=one:=by
 cases P with
 | none=>exact ed H _ _
 | some P=>cases A with
  | none=>exact dq H _ _
  | some A=>exact cF H hA rfl (K2.add_neg' _)
theorem iY{P A B:Pt n}(hA:Onc b A)(hB:Onc b B):lam N P A B=lam N P B A:=by
 cases P with
 | none=>rfl
 | some P=>cases A with
  | none=>rw[dq H,dz H]
  | some A=>cases B with
   | none=>rw[dq H,dz H]
   | some B=>
    obtain⟨u,v⟩:=P;obtain⟨x1,y1⟩:=A;obtain⟨x2,y2⟩:=B
    rcases K2.cq (x1:=x1) (y1:=y1) (x2:=x2) (y2:=y2) H.tw.p3 hA hB with⟨h1,h2⟩ | ⟨l,h,hn⟩
    ·rw[cF H hA h1 h2,cF H hB h1.symm (by rw[K2.add_comm'];exact h2)]
    ·rw[lam,lam,dr H.tw.p3 h hn,dr H.tw.p3 h.symm (hn.imp (fun e=>Ne.symm e) (fun e=>by rw[K2.add_comm'];exact e))]
     rw[Mc (l:=l) (x:=x2) (y:=y2) (x':=x1) (y':=y1) (CR.lin (x:=(.s (.m (.v 4) (.v 0)) (.v 1))) (y:=(.s (.m (.v 4) (.v 2)) (.v 3))) [((.c (-1)),(.v 1),(.a (.v 3) (.m (.v 4) (.s (.v 0) (.v 2)))))] (by decide +kernel) [x1,y1,x2,y2,l] ⟨h.a,trivial⟩)]
theorem Cn{P A B:Pt n}(hP:Onc c P)(hA:Onc b A)(hB:Onc b B):mul (lam N P (pn A) (pn B)) (lam N P A B)=one:=by
 cases P with
 | none=>rw[ed H,ed H,am]
 | some P=>cases A with
  | none=>show mul (lam N (some P) none _) _=_;rw[dq H,dq H,am]
  | some A=>cases B with
   | none=>show mul (lam N (some P) _ none) _=_;rw[dz H,dz H,am]
   | some B=>
    obtain⟨u,v⟩:=P;obtain⟨x1,y1⟩:=A;obtain⟨x2,y2⟩:=B
    show mul (lam N _ (some (x1,K2.neg y1)) (some (x2,K2.neg y2))) _=_
    rcases K2.cq (x1:=x1) (y1:=y1) (x2:=x2) (y2:=y2) H.tw.p3 hA hB with⟨h1,h2⟩ | ⟨l,h,hn⟩
    ·rw[cF H hA h1 h2,cF H (K2.cI hA) h1 (by rw[← K2.dB,h2,K2.bj]),am]
    ·rw[lam,lam,dr H.tw.p3 h hn,dr H.tw.p3 h.opp (hn.imp id fun e h=>e (K2.mZ.1 (by rw[K2.dB];exact h)))]
     rw[HZ (l:=l) (x:=x1) (y:=y1) (x':=x1) (y':=K2.neg y1) (CR.aH (x:=(.s (.m (.n (.v 0)) (.v 1)) (.n (.v 2)))) (y:=(.n (.s (.m (.v 0) (.v 1)) (.v 2)))) (by decide +kernel) [l,x1,y1])]
     exact uZ H.tw (kc (K2.gH H.n4 hP))
theorem q6{P A B:Pt n}(hP:Onc c P)(hA:Onc b A)(hB:Onc b B):mul (lam N P (pa A B) (pn B)) (lam N P A B)=one:=by
 cases P with
 | none=>rw[ed H,ed H,am]
 | some P=>cases A with
  | none=>show mul (lam N (some P) B (pn B)) _=_;rw[L6 H hB,dq H,am]
  | some A=>cases B with
   | none=>show mul (lam N (some P) _ none) _=_;rw[dz H,dz H,am]
   | some B=>
    obtain⟨u,v⟩:=P;obtain⟨x1,y1⟩:=A;obtain⟨x2,y2⟩:=B
    have hbk:=K2.ju H.tw.p3 H.n2 hA hB
    rcases K2.cq (x1:=x1) (y1:=y1) (x2:=x2) (y2:=y2) H.tw.p3 hA hB with⟨h1,h2⟩ | ⟨l,h,hn⟩
    ·rw[cF H hA h1 h2,K2.c9 H.tw.p3 h1 h2,dq H,am]
    ·rw[K2.cG H.tw.p3 h hn]at hbk ⊢
     rw[lam,lam,dr H.tw.p3 h hn]
     show mul (fin N (lin _ _ (some (x2,K2.neg y2)))) _=_
     rw[dr H.tw.p3 h.back (nd H.tw.p3 (by intro e;exact absurd (hbk.symm.trans e) (by simp)))]
     rw[HZ (l:=l) (x:=x1) (y:=y1) (x':=cx l x1 x2) (y':=cy l x1 y1 x2) (CR.aH (x:=(.s (.m (.n (.v 0)) (.s (.s (.m (.v 0) (.v 0)) (.v 1)) (.v 3))) (.s (.m (.v 0) (.s (.v 1) (.s (.s (.m (.v 0) (.v 0)) (.v 1)) (.v 3)))) (.v 2)))) (y:=(.n (.s (.m (.v 0) (.v 1)) (.v 2)))) (by decide +kernel) [l,x1,y1,x2])]
     exact uZ H.tw (kc (K2.gH H.n4 hP))
theorem UY{l1 l2 x1 y1 x2 y2 xs ys u v:K2 n}(hP:Onc c (some (u,v)))(hS:Onc b (some (xs,ys)))(d:LD l1 x1 y1 x2 y2 xs ys):
  mul (fin N (ln l1 x1 y1 u v)) (fin N (ln l2 xs ys u v))=fin N (neg (nv (nA l1 l2 xs) (nB l1 l2) (nC l1 l2 xs ys) u v)):=by
 have n1:=kc (l:=l1) (x:=x1) (y:=y1) (u:=u) (K2.gH H.n4 hP)
 have n2:=kc (l:=l2) (x:=xs) (y:=ys) (u:=u) (K2.gH H.n4 hP)
 have n3:=zg (u:=u) (H.x_ne hS)
 have e:=U1 (l2:=l2) d H.hb (K2.bK hS) (K2.bK hP)
 have n4:=bQ H.tw n1 n2
 rw[e]at n4
 have n5:neg (nv (nA l1 l2 xs) (nB l1 l2) (nC l1 l2 xs ys) u v)≠zero:=fun h=>n4 (by rw[h];exact CR.aj _)
 rw[← dt H.tw n1 n2,e,dt H.tw n3 n5,n8 H.tw n3,bh]
theorem vh{P A B C:Pt n}(hP:Onc c P)(hA:Onc b A)(hB:Onc b B)(hC:Onc b C):mul (lam N P A B) (lam N P (pa A B) C)=mul (lam N P B C) (lam N P A (pa B C)):=by
 have hp:=H.tw.p3
 cases P with
 | none=>rw[ed H,ed H,ed H,ed H]
 | some P=>cases A with
  | none=>rw[dq H,dq H,bh,am];rfl
  | some A=>cases B with
   | none=>rw[dq H,dz H,K2.bJ];rfl
   | some B=>cases C with
    | none=>rw[dz H,dz H,K2.bJ,am,bh]
    | some C=>
     have has:=K2.f8 hp H.n2 hA hB hC
     obtain⟨u,v⟩:=P;obtain⟨x1,y1⟩:=A;obtain⟨x2,y2⟩:=B;obtain⟨x3,y3⟩:=C
     rcases K2.cq (x1:=x1) (y1:=y1) (x2:=x2) (y2:=y2) hp hA hB with⟨h1,h2⟩ | ⟨l1,h,hn⟩
     ·have e:(some (x1,y1):Pt n)=pn (some (x2,y2)):=K2.bD h1 (K2.aP h2)
      have:=q6 H (N:=N) hP hC hB
      rw[cF H hA h1 h2,K2.c9 hp h1 h2,dq H,am,e,iY H hB hC,iY H (K2.cI hB) (H.oa hB hC),K2.dJ hp hB hC,mul_comm',this]
     ·rcases K2.cq (x1:=x2) (y1:=y2) (x2:=x3) (y2:=y3) hp hB hC with⟨g1,g2⟩ | ⟨l3,k,kn⟩
      ·have e:(some (x3,y3):Pt n)=pn (some (x2,y2)):=K2.bD g1.symm (K2.aP (by rw[K2.add_comm'];exact g2))
       have:=q6 H (N:=N) hP hA hB
       rw[cF H hB g1 g2,K2.c9 hp g1 g2,dz H,am,e,mul_comm',this]
      ·have eS:=K2.cG hp h hn
       have eT:=K2.cG hp k kn
       have hS:=H.oa hA hB
       have hT:=H.oa hB hC
       have lB:=q6 H (N:=N) hP hA hB
       have aB:lam N (some (u,v)) (some (x1,y1)) (some (x2,y2))=fin N (ln l1 x1 y1 u v):=by rw[lam,dr hp h hn]
       have aC:lam N (some (u,v)) (some (x2,y2)) (some (x3,y3))=fin N (ln l3 x2 y2 u v):=by rw[lam,dr hp k kn]
       have d1:=h.ld
       have d3:=k.ld
       rw[eS]at hS has lB ⊢
       rw[eT]at hT has ⊢
       generalize cx l1 x1 x2=xs at *
       generalize cy l1 x1 y1 x2=ys at *
       generalize cx l3 x2 x3=xt at *
       generalize cy l3 x2 y2 x3=yt at *
       rcases K2.cq (x1:=xs) (y1:=ys) (x2:=x3) (y2:=y3) hp hS hC with⟨g1,g2⟩ | ⟨l2,m,mn⟩
       ·have e:(some (x3,y3):Pt n)=pn (some (xs,ys)):=K2.bD g1.symm (K2.aP (by rw[K2.add_comm'];exact g2))
        have aT:lam N (some (u,v)) (some (x1,y1)) (some (xt,yt))=one:=by
         rcases K2.cq (x1:=x1) (y1:=y1) (x2:=xt) (y2:=yt) hp hA hT with⟨f1,f2⟩ | ⟨l4,q,qn⟩
         ·exact cF H hA f1 f2
         ·rw[K2.c9 hp g1 g2,K2.cG hp q qn]at has
          cases has
        rw[cF H hS g1 g2,aT,am,am]
        have n1:=Cn H (N:=N) hP hB (K2.cI hS)
        rw[K2.IJ,← e,iY H (K2.cI hB) hS]at n1
        exact qY lB n1
       ·have eW:=K2.cG hp m mn
        rcases K2.cq (x1:=x1) (y1:=y1) (x2:=xt) (y2:=yt) hp hA hT with⟨f1,f2⟩ | ⟨l4,q,qn⟩
        ·rw[eW,K2.c9 hp f1 f2]at has
         cases has
        ·have aS:lam N (some (u,v)) (some (xs,ys)) (some (x3,y3))=fin N (ln l2 xs ys u v):=by rw[lam,dr hp m mn]
         have aT:lam N (some (u,v)) (some (x1,y1)) (some (xt,yt))=fin N (ln l4 xt yt u v):=by
          rw[iY H hA hT,lam,dr hp q.symm (qn.imp (fun e=>Ne.symm e) (fun e=>by rw[K2.add_comm'];exact e))]
         rw[eW,K2.cG hp q qn]at has
         have d2:=m.ld
         have d4:=q.symm.ld
         rw[K2.jn l4 xt x1,← K2.mE q,← (Prod.mk.inj (Option.some.inj has)).1,← (Prod.mk.inj (Option.some.inj has)).2]at d4
         obtain⟨e1,e2,e3⟩:=Hh hp H.n2 d1 d2 d3 d4 hS hT (K2.gH H.n2 hA)
         rw[aB,aS,aC,aT,UY H hP hS d1,UY H hP hT d3,e1,e2,e3]
end
end T12
end Go.Proofs.YtndhfbecpghinaaGreat.L.Kf
namespace Go.Proofs.YtndhfbecpghinaaGreat.L.Kf
open Pr
namespace T12
variable {n:Nat} [NeZero n]
open K2 (Pt pa pn Onc No2 Slp LD cx cy gb d8)
attribute [local irreducible] K2.add K2.mul K2.sub K2.neg K2.zero K2.one K2.inv K2.xi
def gg(m u v x y:K2 n):T12 n:=⟨⟨y,K2.zero,K2.zero⟩,⟨K2.neg (K2.mul m x),K2.sub (K2.mul m u) v,K2.zero⟩⟩
def gin(P Q A:Pt n):T12 n:=
 match P,Q,A with
 | some P,some Q,some A=>
  if P.1=Q.1 then if P.2=Q.2∧P.2≠K2.zero then gg (gb P.1 P.2) P.1 P.2 A.1 A.2 else e6 (vt A.1 P.1)
  else gg (d8 P.1 P.2 Q.1 Q.2) P.1 P.2 A.1 A.2
 | _,_,_=>one
theorem j5(hp:P3 n){l x1 y1 x2 y2 u v:K2 n}(h:Slp l x1 y1 x2 y2)(hne:x1≠x2∨K2.add y1 y2≠K2.zero):gin (some (x1,y1)) (some (x2,y2)) (some (u,v))=gg l x1 y1 u v:=by
 by_cases hx:x1=x2
 ·subst hx
  have hy:y1=y2:=by
   have:=h.a
   rwa [K2.aZ,K2.aj,K2.add_zero']at this
  subst hy
  have h2:K2.add y1 y1≠K2.zero:=hne.resolve_left fun h=>h rfl
  have hy0:y1≠K2.zero:=fun e=>h2 (by rw[e,K2.add_zero'])
  have ht:gb x1 y1=l:=K2.dw hp h2 h.b
  show(if x1=x1 then if y1=y1∧y1≠K2.zero then _ else _ else _)=_
  rw[if_pos rfl,if_pos ⟨rfl,hy0⟩,ht]
 ·have hd:K2.sub x2 x1≠K2.zero:=fun e=>hx (K2.aE e).symm
  have hc:d8 x1 y1 x2 y2=l:=K2.dw hp hd (CR.lin (x:=(.m (.v 4) (.s (.v 2) (.v 0)))) (y:=(.s (.v 3) (.v 1))) [((.c 1),(.v 1),(.a (.v 3) (.m (.v 4) (.s (.v 0) (.v 2)))))] (by decide +kernel) [x1,y1,x2,y2,l] ⟨h.a,trivial⟩)
  show(if x1=x2 then _ else _)=_
  rw[if_neg hx,hc]
theorem B8(hp:P3 n){x1 y1 x2 y2 u v:K2 n}(hx:x1=x2)(hy:K2.add y1 y2=K2.zero):gin (some (x1,y1)) (some (x2,y2)) (some (u,v))=e6 (vt u x1):=by
 subst hx
 show(if x1=x1 then if y1=y2∧y1≠K2.zero then _ else _ else _)=_
 rw[if_pos rfl,if_neg]
 rintro⟨rfl,h⟩
 exact K2.gj hp h hy
theorem Rw(P Q:Pt n):gin P Q none=one:=by cases P <;> cases Q <;> rfl
theorem HA(P A:Pt n):gin P none A=one:=by cases P <;> rfl
theorem qR{m u v x y:K2 n}(h:y≠K2.zero):gg m u v x y≠zero:=fun e=>h (congrArg (fun z:T12 n=>z.a.a) e)
theorem Hz(m u v x y:K2 n):gg m u v x (K2.neg y)=neg (conj (gg m u v x y)):=by
 unfold gg
 refine ext' (T6.ext' rfl ?_ ?_) (T6.ext' ?_ ?_ ?_)
 ·exact K2.bj.symm
 ·exact K2.bj.symm
 ·exact(K2.bv _).symm
 ·exact(K2.bv _).symm
 ·exact(K2.bv _).symm
theorem Cq(l x y u v:K2 n):ln l x y u (K2.neg v)=conj (ln l x y u v):=by
 unfold ln
 exact ext' rfl (T6.ext' K2.bj.symm rfl K2.bj.symm)
omit [NeZero n] in
theorem jb(a b c d e f a' b' c' d' e' f':K2 n):sub ⟨⟨a,b,c⟩,⟨d,e,f⟩⟩ ⟨⟨a',b',c'⟩,⟨d',e',f'⟩⟩=⟨⟨K2.sub a a',K2.sub b b',K2.sub c c'⟩,⟨K2.sub d d',K2.sub e e',K2.sub f f'⟩⟩:=rfl
theorem ly(x:K2 n):K2.sub x K2.zero=x:=by rw[K2.sub_eq,K2.bj,K2.add_zero']
theorem JK(x:K2 n):K2.sub K2.zero x=K2.neg x:=by rw[K2.sub_eq,K2.aM]
theorem nV(x y:K2 n):e2 (K2.add x y)=add (e2 x) (e2 y):=by
 rw[iy,iy,iy,gf,K2.add_zero']
theorem uS(x y:K2 n):e2 (K2.sub x y)=sub (e2 x) (e2 y):=by
 rw[iy,iy,iy,jb,ly]
theorem rh(c d:K2 n)(k:Nat):mo (K2.add c d) k=add (mo c k) (mo d k):=by
 unfold mo
 rw[nV];exact CR.cS _ _ _
theorem Ib(c d:K2 n)(k:Nat):mo (K2.sub c d) k=sub (mo c k) (mo d k):=by
 unfold mo
 rw[uS]
 exact CR.aH (x:=(.m (.s (.v 0) (.v 1)) (.v 2))) (y:=(.s (.m (.v 0) (.v 2)) (.m (.v 1) (.v 2)))) (by decide +kernel) [e2 c,e2 d,CR.pw w k]
theorem iL(c d:K2 n)(i j:Nat):mul (mo c i) (mo d j)=mo (K2.mul c d) (i+j):=by
 unfold mo
 rw[Ii,gV,CR.dO];rfl
theorem Ia(c:K2 n):mo c 0=e2 c:=(H8 c).trans (iy c).symm
theorem U2(l x y u v:K2 n):ln l x y u v=sub (sub (mo v 3) (mul (e2 l) (mo u 2))) (e2 (K2.sub y (K2.mul l x))):=by
 rw[← Ia l,iL,Nat.zero_add,Mh,H9,iy,jb,jb]
 unfold ln
 refine ext' (T6.ext' ?_ ?_ ?_) (T6.ext' ?_ ?_ ?_)
 ·exact CR.aH (x:=(.s (.m (.v 0) (.v 1)) (.v 2))) (y:=(.s (.s (.c 0) (.c 0)) (.s (.v 2) (.m (.v 0) (.v 1))))) (by decide +kernel) [l,x,y]
 ·exact CR.aH (x:=(.n (.m (.v 0) (.v 1)))) (y:=(.s (.s (.c 0) (.m (.v 0) (.v 1))) (.c 0))) (by decide +kernel) [l,u]
 ·simp only[ly]
 ·simp only[ly]
 ·simp only[ly]
 ·simp only[ly]
theorem UM(m u v x y:K2 n):gg m u v x y=sub (sub (e2 y) (mul (mo m 1) (e2 x))) (mo (K2.sub v (K2.mul m u)) 3):=by
 rw[← Ia x,iL,Nat.add_zero,Mg,H9,iy,jb,jb]
 unfold gg
 refine ext' (T6.ext' ?_ ?_ ?_) (T6.ext' ?_ ?_ ?_)
 ·simp only[ly]
 ·simp only[ly]
 ·simp only[ly]
 ·simp only[ly,JK]
 ·exact CR.aH (x:=(.s (.m (.v 0) (.v 1)) (.v 2))) (y:=(.s (.s (.c 0) (.c 0)) (.s (.v 2) (.m (.v 0) (.v 1))))) (by decide +kernel) [m,u,v]
 ·simp only[ly]
theorem Sy{R:Type}[CR R]{l v m k x1 x2 x3 a1 a2 a3 b:R}(h1:CR.add (CR.add x1 x2) x3=CR.mul m m)(h2:CR.add (CR.mul x1 x2) (CR.mul (CR.add x1 x2) x3)=CR.mul (CR.add m m) k)(h3:CR.mul (CR.mul x1 x2) x3=CR.sub (CR.mul k k) b)
  (g1:CR.add (CR.add a1 a2) a3=CR.mul l l) (g2:CR.add (CR.mul a1 a2) (CR.mul (CR.add a1 a2) a3)=CR.mul (CR.add l l) v) (g3:CR.mul (CR.mul a1 a2) a3=CR.sub (CR.mul v v) b):
  CR.mul (CR.mul (CR.add (CR.sub (CR.sub (CR.mul m x1) k) (CR.mul l x1)) v) (CR.add (CR.sub (CR.sub (CR.mul m x2) k) (CR.mul l x2)) v)) (CR.add (CR.sub (CR.sub (CR.mul m x3) k) (CR.mul l x3)) v) =
  CR.neg (CR.mul (CR.mul (CR.add (CR.sub (CR.sub (CR.mul l a1) v) (CR.mul m a1)) k) (CR.add (CR.sub (CR.sub (CR.mul l a2) v) (CR.mul m a2)) k)) (CR.add (CR.sub (CR.sub (CR.mul l a3) v) (CR.mul m a3)) k)):=
 CR.lin (x:=(.m (.m (.a (.s (.s (.m (.v 2) (.v 4)) (.v 3)) (.m (.v 0) (.v 4))) (.v 1)) (.a (.s (.s (.m (.v 2) (.v 5)) (.v 3)) (.m (.v 0) (.v 5))) (.v 1))) (.a (.s (.s (.m (.v 2) (.v 6)) (.v 3)) (.m (.v 0) (.v 6))) (.v 1)))) (y:=(.n (.m (.m (.a (.s (.s (.m (.v 0) (.v 7)) (.v 1)) (.m (.v 2) (.v 7))) (.v 3)) (.a (.s (.s (.m (.v 0) (.v 8)) (.v 1)) (.m (.v 2) (.v 8))) (.v 3))) (.a (.s (.s (.m (.v 0) (.v 9)) (.v 1)) (.m (.v 2) (.v 9))) (.v 3))))) [((.m (.s (.v 2) (.v 0)) (.m (.s (.v 1) (.v 3)) (.s (.v 1) (.v 3)))),(.a (.a (.v 4) (.v 5)) (.v 6)),(.m (.v 2) (.v 2))),((.m (.m (.s (.v 2) (.v 0)) (.s (.v 2) (.v 0))) (.s (.v 1) (.v 3))),(.a (.m (.v 4) (.v 5)) (.m (.a (.v 4) (.v 5)) (.v 6))),(.m (.a (.v 2) (.v 2)) (.v 3))),((.m (.m (.s (.v 2) (.v 0)) (.s (.v 2) (.v 0))) (.s (.v 2) (.v 0))),(.m (.m (.v 4) (.v 5)) (.v 6)),(.s (.m (.v 3) (.v 3)) (.v 10))),((.n (.m (.s (.v 2) (.v 0)) (.m (.s (.v 1) (.v 3)) (.s (.v 1) (.v 3))))),(.a (.a (.v 7) (.v 8)) (.v 9)),(.m (.v 0) (.v 0))),((.n (.m (.m (.s (.v 2) (.v 0)) (.s (.v 2) (.v 0))) (.s (.v 1) (.v 3)))),(.a (.m (.v 7) (.v 8)) (.m (.a (.v 7) (.v 8)) (.v 9))),(.m (.a (.v 0) (.v 0)) (.v 1))),((.n (.m (.m (.s (.v 2) (.v 0)) (.s (.v 2) (.v 0))) (.s (.v 2) (.v 0)))),(.m (.m (.v 7) (.v 8)) (.v 9)),(.s (.m (.v 1) (.v 1)) (.v 10)))] (by decide +kernel) [l,v,m,k,x1,x2,x3,a1,a2,a3,b] ⟨h1,h2,h3,g1,g2,g3,trivial⟩
theorem GF(x:K2 n):e2 (K2.neg x)=neg (e2 x):=by
 rw[← JK,uS,uT]
 exact(CR.sub_eq (R:=T12 n) _ _).trans (CR.aM _)
theorem RR(x:K2 n)(k:Nat):mo (K2.neg x) k=neg (mo x k):=by
 unfold mo
 rw[GF];exact CR.dd _ _
theorem Db(x y:T12 n):sub x (neg y)=add x y:=by
 have h:=CR.sub_eq (R:=T12 n) x (neg y)
 rw[show CR.neg (neg y)=y from CR.bv (R:=T12 n) y]at h
 exact h
theorem RL{l x y u v m k z:K2 n}(hv:v=K2.sub (K2.mul m u) k)(hy:K2.sub y (K2.mul l x)=K2.neg z):ln l x y u v=add (sub (sub (mul (mo m 1) (mo u 2)) (mo k 3)) (mul (e2 l) (mo u 2))) (e2 z):=by
 rw[U2,hy,hv,GF,Db,Ib,iL]
theorem Rv{l x y u v m k z:K2 n}(hy:y=K2.sub (K2.mul l x) z)(hv:K2.sub v (K2.mul m u)=K2.neg k):gg m u v x y=add (sub (sub (mul (e2 l) (e2 x)) (e2 z)) (mul (mo m 1) (e2 x))) (mo k 3):=by
 rw[UM,hv,hy,RR,Db,uS,gV]
theorem E5{b c l m x1 y1 x2 y2 xs ys u1 v1 u2 v2 u3 v3:K2 n}(hb:b=K2.mul K2.xi c)(d:LD m u1 v1 u2 v2 u3 v3)(hR:Onc c (some (u3,v3)))(f:LD l x1 y1 x2 y2 xs ys)(hS:Onc b (some (xs,ys))):
  mul (mul (ln l x1 y1 u1 v1) (ln l x1 y1 u2 v2)) (conj (ln l x1 y1 u3 v3))=mul (mul (gg m u1 v1 x1 y1) (gg m u1 v1 x2 y2)) (conj (gg m u1 v1 xs ys)):=by
 have h1:add (add (mo u1 2) (mo u2 2)) (mo u3 2)=mul (mo m 1) (mo m 1):=by rw[← rh,← rh,iL,d.s]
 have h2:add (mul (mo u1 2) (mo u2 2)) (mul (add (mo u1 2) (mo u2 2)) (mo u3 2))=mul (add (mo m 1) (mo m 1)) (mo (K2.add v3 (K2.mul m u3)) 3):=by rw[iL,← rh,iL,← rh,← rh,iL,d.p]
 have h3:mul (mul (mo u1 2) (mo u2 2)) (mo u3 2)=sub (mul (mo (K2.add v3 (K2.mul m u3)) 3) (mo (K2.add v3 (K2.mul m u3)) 3)) (e2 b):=by
  rw[iL,iL,iL,d.c (K2.bK hR),Ib,U4 c,Ia,hb]
 have g1:add (add (e2 x1) (e2 x2)) (e2 xs)=mul (e2 l) (e2 l):=by rw[← nV,← nV,← gV,f.s]
 have g2:add (mul (e2 x1) (e2 x2)) (mul (add (e2 x1) (e2 x2)) (e2 xs))=mul (add (e2 l) (e2 l)) (e2 (K2.add ys (K2.mul l xs))):=by rw[← gV,← nV,← gV,← nV,← nV,← gV,f.p]
 have g3:mul (mul (e2 x1) (e2 x2)) (e2 xs)=sub (mul (e2 (K2.add ys (K2.mul l xs))) (e2 (K2.add ys (K2.mul l xs)))) (e2 b):=by
  rw[← gV,← gV,← gV,← uS,f.c (K2.bK hS)]
 have q:=Sy (R:=T12 n) h1 h2 h3 g1 g2 g3
 have yl:K2.sub y1 (K2.mul l x1)=K2.neg (K2.add ys (K2.mul l xs)):=CR.lin (x:=(.s (.v 0) (.m (.v 1) (.v 2)))) (y:=(.n (.a (.v 4) (.m (.v 1) (.v 3))))) [((.c 1),(.a (.v 0) (.v 4)),(.m (.v 1) (.s (.v 2) (.v 3))))] (by decide +kernel) [y1,l,x1,xs,ys] ⟨f.a,trivial⟩
 have vm:K2.sub v1 (K2.mul m u1)=K2.neg (K2.add v3 (K2.mul m u3)):=CR.lin (x:=(.s (.v 0) (.m (.v 1) (.v 2)))) (y:=(.n (.a (.v 4) (.m (.v 1) (.v 3))))) [((.c 1),(.a (.v 0) (.v 4)),(.m (.v 1) (.s (.v 2) (.v 3))))] (by decide +kernel) [v1,m,u1,u3,v3] ⟨d.a,trivial⟩
 have p1:=RL (l:=l) (x:=x1) (y:=y1) (u:=u1) (v:=v1) (m:=m) (k:=K2.add v3 (K2.mul m u3)) (CR.lin (x:=(.v 0)) (y:=(.s (.m (.v 1) (.v 2)) (.a (.v 4) (.m (.v 1) (.v 3))))) [((.c 1),(.a (.v 0) (.v 4)),(.m (.v 1) (.s (.v 2) (.v 3))))] (by decide +kernel) [v1,m,u1,u3,v3] ⟨d.a,trivial⟩) yl
 have p2:=RL (l:=l) (x:=x1) (y:=y1) (u:=u2) (v:=v2) (m:=m) (k:=K2.add v3 (K2.mul m u3)) (CR.lin (x:=(.v 0)) (y:=(.s (.m (.v 1) (.v 2)) (.a (.v 4) (.m (.v 1) (.v 3))))) [((.c 1),(.a (.v 0) (.v 4)),(.m (.v 1) (.s (.v 2) (.v 3))))] (by decide +kernel) [v2,m,u2,u3,v3] ⟨d.b,trivial⟩) yl
 have p3:=RL (l:=l) (x:=x1) (y:=y1) (u:=u3) (v:=K2.neg v3) (m:=m) (k:=K2.add v3 (K2.mul m u3)) (CR.aH (x:=(.n (.v 2))) (y:=(.s (.m (.v 0) (.v 1)) (.a (.v 2) (.m (.v 0) (.v 1))))) (by decide +kernel) [m,u3,v3]) yl
 have r1:=Rv (m:=m) (u:=u1) (v:=v1) (x:=x1) (y:=y1) (l:=l) (z:=K2.add ys (K2.mul l xs)) (CR.lin (x:=(.v 0)) (y:=(.s (.m (.v 1) (.v 2)) (.a (.v 4) (.m (.v 1) (.v 3))))) [((.c 1),(.a (.v 0) (.v 4)),(.m (.v 1) (.s (.v 2) (.v 3))))] (by decide +kernel) [y1,l,x1,xs,ys] ⟨f.a,trivial⟩) vm
 have r2:=Rv (m:=m) (u:=u1) (v:=v1) (x:=x2) (y:=y2) (l:=l) (z:=K2.add ys (K2.mul l xs)) (CR.lin (x:=(.v 0)) (y:=(.s (.m (.v 1) (.v 2)) (.a (.v 4) (.m (.v 1) (.v 3))))) [((.c 1),(.a (.v 0) (.v 4)),(.m (.v 1) (.s (.v 2) (.v 3))))] (by decide +kernel) [y2,l,x2,xs,ys] ⟨f.b,trivial⟩) vm
 have r3:=Rv (m:=m) (u:=u1) (v:=v1) (x:=xs) (y:=K2.neg ys) (l:=l) (z:=K2.add ys (K2.mul l xs)) (CR.aH (x:=(.n (.v 2))) (y:=(.s (.m (.v 0) (.v 1)) (.a (.v 2) (.m (.v 0) (.v 1))))) (by decide +kernel) [l,xs,ys]) vm
 have hc:∀z:T12 n,conj z=neg (neg (conj z)):=fun z=>(CR.bv (R:=T12 n) _).symm
 rw[← Cq,hc (gg m u1 v1 xs ys),← Hz,p1,p2,p3,r1,r2,r3]
 exact q.trans (CR.eZ _ _).symm
section
variable {b c:K2 n} (H:Pg b c) {N:Nat}
include H
omit H in
def mu(N:Nat)(P Q A:Pt n):T12 n:=fin N (gin P Q A)
theorem ri(Q A:Pt n):mu N none Q A=one:=eX H.tw
theorem rj(P A:Pt n):mu N P none A=one:=by rw[mu,HA];exact eX H.tw
theorem tr(P Q:Pt n):mu N P Q none=one:=by rw[mu,Rw];exact eX H.tw
theorem lP{x1 y1 x2 y2:K2 n}{A:Pt n}(hA:Onc b A)(hx:x1=x2)(hy:K2.add y1 y2=K2.zero):mu N (some (x1,y1)) (some (x2,y2)) A=one:=by
 cases A with
 | none=>exact tr H _ _
 | some A=>
  rw[mu,B8 H.tw.p3 hx hy]
  exact n8 H.tw (zg (H.x_ne hA))
theorem L7{P A B:Pt n}(hP:Onc c P)(hA:Onc b A)(hB:Onc b B):mul (lam N (pn P) A B) (lam N P A B)=one:=by
 cases P with
 | none=>show mul (lam N none _ _) _=_;rw[ed H,am]
 | some P=>cases A with
  | none=>rw[dq H,dq H,am]
  | some A=>cases B with
   | none=>rw[dz H,dz H,am]
   | some B=>
    obtain⟨u,v⟩:=P;obtain⟨x1,y1⟩:=A;obtain⟨x2,y2⟩:=B
    show mul (lam N (some (u,K2.neg v)) _ _) _=_
    rcases K2.cq (x1:=x1) (y1:=y1) (x2:=x2) (y2:=y2) H.tw.p3 hA hB with⟨h1,h2⟩ | ⟨l,h,hn⟩
    ·rw[cF H hA h1 h2,cF H hA h1 h2,am]
    ·rw[lam,lam,dr H.tw.p3 h hn,dr H.tw.p3 h hn,Cq]
     exact j3 H.tw (kc (K2.gH H.n4 hP))
theorem Ig{P Q A:Pt n}(hP:Onc c P)(hQ:Onc c Q)(hA:Onc b A):mul (mu N P Q (pn A)) (mu N P Q A)=one:=by
 cases P with
 | none=>rw[ri H,ri H,am]
 | some P=>cases Q with
  | none=>rw[rj H,rj H,am]
  | some Q=>
   obtain⟨x1,y1⟩:=P;obtain⟨x2,y2⟩:=Q
   rcases K2.cq (x1:=x1) (y1:=y1) (x2:=x2) (y2:=y2) H.tw.p3 hP hQ with⟨h1,h2⟩ | ⟨l,h,hn⟩
   ·rw[lP H (K2.cI hA) h1 h2,lP H hA h1 h2,am]
   ·cases A with
    | none=>show mul (mu N _ _ none) _=_;rw[tr H,am]
    | some A=>
     obtain⟨x,y⟩:=A
     show mul (mu N _ _ (some (x,K2.neg y))) _=_
     rw[mu,mu,j5 H.tw.p3 h hn,j5 H.tw.p3 h hn,Hz]
     exact uZ H.tw (qR (K2.gH H.n2 hA))
theorem Co{P Q A B:Pt n}(hP:Onc c P)(hQ:Onc c Q)(hA:Onc b A)(hB:Onc b B):mul (mul (lam N P A B) (lam N Q A B)) (mu N P Q (pa A B))=mul (lam N (pa P Q) A B) (mul (mu N P Q A) (mu N P Q B)):=by
 have hp:=H.tw.p3
 cases P with
 | none=>rw[ed H,ri H,ri H,ri H,am,am,am,bh];rfl
 | some P=>cases Q with
  | none=>rw[ed H,rj H,rj H,rj H,am,am,am,am];rfl
  | some Q=>cases A with
   | none=>rw[dq H,dq H,dq H,tr H,bh,bh,bh,bh];rfl
   | some A=>cases B with
    | none=>rw[dz H,dz H,dz H,tr H,K2.bJ,am,am,bh]
    | some B=>
     obtain⟨u1,v1⟩:=P;obtain⟨u2,v2⟩:=Q;obtain⟨x1,y1⟩:=A;obtain⟨x2,y2⟩:=B
     rcases K2.cq (x1:=u1) (y1:=v1) (x2:=u2) (y2:=v2) hp hP hQ with⟨h1,h2⟩ | ⟨m,k,kn⟩
     ·have e:(some (u1,v1):Pt n)=pn (some (u2,v2)):=K2.bD h1 (K2.aP h2)
      rw[lP H (H.oa hA hB) h1 h2,lP H hA h1 h2,lP H hB h1 h2,K2.c9 hp h1 h2,ed H,am,am,am,e]
      exact L7 H hQ hA hB
     ·rcases K2.cq (x1:=x1) (y1:=y1) (x2:=x2) (y2:=y2) hp hA hB with⟨g1,g2⟩ | ⟨l,h,hn⟩
      ·have e:(some (x2,y2):Pt n)=pn (some (x1,y1)):=K2.bD g1.symm (K2.aP (by rw[K2.add_comm'];exact g2))
       have hm:=Ig H (N:=N) hP hQ hA
       rw[K2.cG hp k kn,cF H hA g1 g2,cF H hA g1 g2,cF H hA g1 g2,K2.c9 hp g1 g2,tr H,am,am,bh,e,mul_comm',hm]
      ·have hR:Onc c (pa (some (u1,v1)) (some (u2,v2))):=K2.dk hp hP hQ
       have hS:=H.oa hA hB
       have q:=E5 H.hb k.ld (by rw[← K2.cG hp k kn];exact hR) h.ld (by rw[← K2.cG hp h hn];exact hS)
       rw[K2.cG hp k kn]at hR ⊢
       rw[K2.cG hp h hn]at hS ⊢
       rw[lam,lam,lam,dr hp h hn,dr hp h hn,dr hp h hn,mu,mu,mu,j5 hp k kn,j5 hp k kn,j5 hp k kn]
       have n1:=kc (l:=l) (x:=x1) (y:=y1) (u:=u1) (K2.gH H.n4 hP)
       have n2:=kc (l:=l) (x:=x1) (y:=y1) (u:=u2) (K2.gH H.n4 hQ)
       have n3:=kc (l:=l) (x:=x1) (y:=y1) (u:=cx m u1 u2) (K2.gH H.n4 hR)
       have m1:=qR (m:=m) (u:=u1) (v:=v1) (x:=x1) (K2.gH H.n2 hA)
       have m2:=qR (m:=m) (u:=u1) (v:=v1) (x:=x2) (K2.gH H.n2 hB)
       have m3:=qR (m:=m) (u:=u1) (v:=v1) (x:=cx l x1 x2) (K2.gH H.n2 hS)
       have q2:=congrArg (fin N) q
       rw[dt H.tw (bQ H.tw n1 n2) (jk H.tw n3),dt H.tw n1 n2,dt H.tw (bQ H.tw m1 m2) (jk H.tw m3),dt H.tw m1 m2]at q2
       have c1:=j3 (N:=N) H.tw n3
       have c2:=j3 (N:=N) H.tw m3
       generalize fin N (ln l x1 y1 u1 v1)=a1 at *
       generalize fin N (ln l x1 y1 u2 v2)=a2 at *
       generalize fin N (ln l x1 y1 (cx m u1 u2) (cy m u1 v1 u2))=a3 at *
       generalize fin N (conj (ln l x1 y1 (cx m u1 u2) (cy m u1 v1 u2)))=a4 at *
       generalize fin N (gg m u1 v1 x1 y1)=b1 at *
       generalize fin N (gg m u1 v1 x2 y2)=b2 at *
       generalize fin N (gg m u1 v1 (cx l x1 x2) (cy l x1 y1 x2))=b3 at *
       generalize fin N (conj (gg m u1 v1 (cx l x1 x2) (cy l x1 y1 x2)))=b4 at *
       replace c1:mul a4 a3=CR.ofZ 1:=c1.trans (CR.dL (R:=T12 n)).symm
       replace c2:mul b4 b3=CR.ofZ 1:=c2.trans (CR.dL (R:=T12 n)).symm
       exact CR.lin (x:=(.m (.m (.v 0) (.v 1)) (.v 6))) (y:=(.m (.v 2) (.m (.v 4) (.v 5)))) [((.m (.v 2) (.v 6)),(.m (.m (.v 0) (.v 1)) (.v 3)),(.m (.m (.v 4) (.v 5)) (.v 7))),((.n (.m (.m (.v 0) (.v 1)) (.v 6))),(.m (.v 3) (.v 2)),(.c 1)),((.m (.v 2) (.m (.v 4) (.v 5))),(.m (.v 7) (.v 6)),(.c 1))] (by decide +kernel) [a1,a2,a3,a4,b1,b2,b3,b4] ⟨q2,c1,c2,trivial⟩
end
end T12
end Go.Proofs.YtndhfbecpghinaaGreat.L.Kf
namespace Go.Proofs.YtndhfbecpghinaaGreat.L.Kf
open Pr
namespace K2
variable {n:Nat} [NeZero n]
theorem fY(x y:K2 n):conj (add x y)=add (conj x) (conj y):=by
 unfold conj add
 exact ext' rfl (by grind)
theorem cm(x y:K2 n):conj (sub x y)=sub (conj x) (conj y):=by
 unfold conj sub
 exact ext' rfl (by grind)
omit [NeZero n] in
theorem qt(x:K2 n):conj (neg x)=neg (conj x):=rfl
theorem iT:conj (zero:K2 n)=zero:=by unfold conj zero;exact ext' rfl (show-(0:Fin n)=0 by grind)
theorem wY{x y:K2 n}(h:conj x=conj y):x=y:=by rw[← eq x,h,eq]
attribute [local irreducible] add mul sub neg zero one inv xi conj
def Rl:Pt n→Prop
 | none=>True
 | some P=>conj P.1=P.1∧conj P.2=P.2
theorem Slp.conj{l x1 y1 x2 y2:K2 n}(h:Slp l x1 y1 x2 y2):Slp (K2.conj l) (K2.conj x1) (K2.conj y1) (K2.conj x2) (K2.conj y2):=
 ⟨by rw[← cm,← aY,← fY,← h.a],by rw[← fY,← aY,h.b,q3,q3,fY,fY,aY,aY,aY]⟩
theorem TX(hp:P3 n){c:K2 n}{P Q:Pt n}(hP:Onc c P)(hQ:Onc c Q)(h1:Rl P)(h2:Rl Q):Rl (pa P Q):=by
 cases P with
 | none=>exact h2
 | some P=>cases Q with
  | none=>exact h1
  | some Q=>
   obtain⟨x1,y1⟩:=P;obtain⟨x2,y2⟩:=Q
   rcases cq (x1:=x1) (y1:=y1) (x2:=x2) (y2:=y2) hp hP hQ with⟨g1,g2⟩ | ⟨l,h,hn⟩
   ·rw[c9 hp g1 g2];trivial
   ·have k:=h.conj
    have a1:K2.conj x1=x1:=h1.1
    have a2:K2.conj y1=y1:=h1.2
    have a3:K2.conj x2=x2:=h2.1
    have a4:K2.conj y2=y2:=h2.2
    rw[a1,a2,a3,a4]at k
    have e:=cG hp h hn
    have e2:=cG hp k hn
    rw[e]at e2 ⊢
    obtain⟨q1,q2⟩:=Prod.mk.inj (Option.some.inj e2)
    refine⟨?_,?_⟩
    ·show K2.conj (cx l x1 x2)=cx l x1 x2
     conv=>rhs;rw[q1]
     rw[cx,cx,cm,cm,aY,a1,a3]
    ·show K2.conj (cy l x1 y1 x2)=cy l x1 y1 x2
     conv=>rhs;rw[q2]
     rw[cy,cy,cm,aY,cm,cx,cx,cm,cm,aY,a1,a2,a3]
omit [NeZero n] in
theorem F7{P:Pt n}(h:Rl P):Rl (pn P):=by
 cases P with
 | none=>trivial
 | some P=>exact⟨h.1,by show K2.conj (neg P.2)=neg P.2;rw[qt,h.2]⟩
def psi(i:K2 n):Pt n→Pt n
 | none=>none
 | some A=>some (mul (mul i i) (K2.conj A.1),mul (mul (mul i i) i) (K2.conj A.2))
theorem Slp.psi{l x1 y1 x2 y2:K2 n}(h:Slp l x1 y1 x2 y2)(i:K2 n):Slp (mul i (K2.conj l)) (mul (mul i i) (K2.conj x1)) (mul (mul (mul i i) i) (K2.conj y1)) (mul (mul i i) (K2.conj x2)) (mul (mul (mul i i) i) (K2.conj y2)):=by
 have k:=h.conj
 generalize K2.conj x1=a1 at *
 generalize K2.conj y1=b1 at *
 generalize K2.conj x2=a2 at *
 generalize K2.conj y2=b2 at *
 generalize K2.conj l=m at *
 exact⟨CR.lin (x:=(.m (.m (.m (.v 0) (.v 0)) (.v 0)) (.v 3))) (y:=(.a (.m (.m (.m (.v 0) (.v 0)) (.v 0)) (.v 5)) (.m (.m (.v 0) (.v 1)) (.s (.m (.m (.v 0) (.v 0)) (.v 2)) (.m (.m (.v 0) (.v 0)) (.v 4)))))) [((.m (.m (.v 0) (.v 0)) (.v 0)),(.v 3),(.a (.v 5) (.m (.v 1) (.s (.v 2) (.v 4)))))] (by decide +kernel) [i,m,a1,b1,a2,b2] ⟨k.a,trivial⟩,CR.lin (x:=(.m (.m (.v 0) (.v 1)) (.a (.m (.m (.m (.v 0) (.v 0)) (.v 0)) (.v 3)) (.m (.m (.m (.v 0) (.v 0)) (.v 0)) (.v 5))))) (y:=(.a (.a (.m (.m (.m (.v 0) (.v 0)) (.v 2)) (.m (.m (.v 0) (.v 0)) (.v 2))) (.m (.m (.m (.v 0) (.v 0)) (.v 2)) (.m (.m (.v 0) (.v 0)) (.v 4)))) (.m (.m (.m (.v 0) (.v 0)) (.v 4)) (.m (.m (.v 0) (.v 0)) (.v 4))))) [((.m (.m (.m (.v 0) (.v 0)) (.v 0)) (.v 0)),(.m (.v 1) (.a (.v 3) (.v 5))),(.a (.a (.m (.v 2) (.v 2)) (.m (.v 2) (.v 4))) (.m (.v 4) (.v 4))))] (by decide +kernel) [i,m,a1,b1,a2,b2] ⟨k.b,trivial⟩⟩
theorem IX(hp:P3 n){i x1 y1 x2 y2:K2 n}(hi:i≠zero)(h:x1≠x2∨add y1 y2≠zero):mul (mul i i) (K2.conj x1)≠mul (mul i i) (K2.conj x2)∨add (mul (mul (mul i i) i) (K2.conj y1)) (mul (mul (mul i i) i) (K2.conj y2))≠zero:=by
 have h2:=bQ hp hi hi
 have h3:=bQ hp h2 hi
 refine h.imp (fun h e=>h ?_) (fun h e=>h ?_)
 ·rw[mul_comm',mul_comm' (mul i i)]at e
  exact wY (BJ hp h2 e)
 ·rw[← mul_add',← fY]at e
  have:=(aW hp e).resolve_left h3
  exact wY (this.trans iT.symm)
theorem Sb(hp:P3 n){b i:K2 n}(hi:i≠zero){A B:Pt n}(hA:Onc b A)(hB:Onc b B):pa (psi i A) (psi i B)=psi i (pa A B):=by
 cases A with
 | none=>rfl
 | some A=>cases B with
  | none=>rfl
  | some B=>
   obtain⟨x1,y1⟩:=A;obtain⟨x2,y2⟩:=B
   show pa (some (_,_)) (some (_,_))=_
   rcases cq (x1:=x1) (y1:=y1) (x2:=x2) (y2:=y2) hp hA hB with⟨g1,g2⟩ | ⟨l,h,hn⟩
   ·rw[c9 hp g1 g2,c9 hp (by rw[g1]) (by rw[← mul_add',← fY,g2,iT,aj])];rfl
   ·rw[cG hp h hn,cG hp (h.psi i) (IX hp hi hn)]
    show _=some (_,_)
    refine bD ?_ ?_
    ·rw[cx,cx,cm,cm,aY]
     exact CR.aH (x:=(.s (.s (.m (.m (.v 0) (.v 1)) (.m (.v 0) (.v 1))) (.m (.m (.v 0) (.v 0)) (.v 2))) (.m (.m (.v 0) (.v 0)) (.v 3)))) (y:=(.m (.m (.v 0) (.v 0)) (.s (.s (.m (.v 1) (.v 1)) (.v 2)) (.v 3)))) (by decide +kernel) [i,K2.conj l,K2.conj x1,K2.conj x2]
    ·rw[cy,cy,cx,cx,cm,aY,cm,cm,cm,aY]
     exact CR.aH (x:=(.s (.m (.m (.v 0) (.v 1)) (.s (.m (.m (.v 0) (.v 0)) (.v 2)) (.s (.s (.m (.m (.v 0) (.v 1)) (.m (.v 0) (.v 1))) (.m (.m (.v 0) (.v 0)) (.v 2))) (.m (.m (.v 0) (.v 0)) (.v 4))))) (.m (.m (.m (.v 0) (.v 0)) (.v 0)) (.v 3)))) (y:=(.m (.m (.m (.v 0) (.v 0)) (.v 0)) (.s (.m (.v 1) (.s (.v 2) (.s (.s (.m (.v 1) (.v 1)) (.v 2)) (.v 4)))) (.v 3)))) (by decide +kernel) [i,K2.conj l,K2.conj x1,K2.conj y1,K2.conj x2]
end K2
end Go.Proofs.YtndhfbecpghinaaGreat.L.Kf
namespace Go.Proofs.YtndhfbecpghinaaGreat.L
open Go Go.Proofs
set_option maxRecDepth 100000
section
attribute [local irreducible] Code.wp wpList Af bodyPost L.Go
open Num
attribute [local simp] ae aD
def r:Nat:=52435875175126190479447740508185965837690552500527637822603658699938581184513
theorem CT:0<r:=by decide +kernel
theorem I6:r<W^4:=by decide +kernel
theorem Vw:([18446744069414584321,6034159408538082302,3691218898639771653,8353516859464449352]:List Nat)=D 4 r:=by decide +kernel
attribute [irreducible] r
theorem Ic(a:Nat):a%r<W^4:=Nat.lt_trans (Nat.mod_lt _ CT) I6
theorem sO{a b:Prop}(k:b)(h:Rm b→a:=by intro k;refine ar (v:=LV .u64 (List.replicate 4 0)) (by rfl) (by rfl) ?_;exact k.h):a:=h ⟨k⟩
theorem LA:Spec Tryz.prog 121 [] ai [] (IsV (LV .u64 (D 4 r))):=by
 refine ad Tryz.func121 rfl rfl rfl fun w _=>?_
 repeat (first|(refine sO ?_;intro _)|refine bk (kk:=.u64) (vs:=[18446744069414584321,6034159408538082302,3691218898639771653,8353516859464449352]) (by rfl) (by rfl) (by rfl) (by rfl) (by rfl) (by rfl) (by rfl) (by rfl) ?_|refine Z03 ?_|refine Z04 ?_|refine Z05 ?_|refine Z06 ?_|refine Z07 ?_|refine Z08 ?_|refine Z09 ?_|refine Z10 ?_|refine Z11 ?_|refine Z12 ?_|refine Z13 ?_|refine Z14 ?_|refine Z29 ?_|refine Z30 ?_|refine Z31 ?_|refine Z32 ?_|refine Z82 fun _=>?_)
 refine Zec fun _ hw=>aa hw SubW.nil ⟨?_,rfl⟩
 rw[← Vw];rfl
theorem qO(s:Value)(xs:List Nat)(hx:Lt 18446744073709551616 xs)(hl:xs.length<1000000):
  Spec Tryz.prog 72 [s] (fun w=>Rd w s (xs.map (N .u64))) [] (IsV (LV .u64 (D 4 (V xs%r)))):=by
 refine ad Tryz.func72 rfl rfl rfl fun w hr=>?_
 have hr:=RdC.mk0 hr
 have hrl:=ae 4 r
 have hv:=eU I6
 have hml:=ae 4 (V xs%r)
 have htk:(D 4 (V xs%r)).take 4=D 4 (V xs%r):=List.take_of_length_le (by omega)
 repeat (first|(refine sO ?_;intro _)|refine af (by rfl) (by rfl) (by rfl) (LA) (fun _ _=>trivial) (by rfl) ?_|(refine ax (by rfl) (by rfl) (by rfl) (xW s _ xs (D 4 r) hx (dv _ _) hl (by omega)) .nil (fun w hw=>⟨RdW.old hr w hw,RdW.arrAll (m:=4) fd hrl w hw⟩) (by rfl) ?_;rintro _ _ (⟨hz,_,_⟩ | ⟨_,u,rfl,rfl⟩);exact absurd hz (by rw[hv];exact Nat.ne_of_gt CT);rw[hv,hrl])|rw[htk]|refine Wp ?_|refine Z82 fun _=>?_)
 refine Zec fun _ hw=>aa hw SubW.nil ⟨?_,rfl⟩
 rfl
theorem mK{a:Nat}(ha:a<W^4):Spec Tryz.prog 73 [LV .u64 (D 4 a)] ai [] (IsV (LV .u64 (D 4 (a%r)))):=by
 refine ad Tryz.func73 rfl rfl rfl fun w _=>?_
 have hl:=ae 4 a
 have hv:=eU ha
 have hml:=ae 4 (a%r)
 repeat (first|(refine sO ?_;intro _)|(refine af (by rfl) (by rfl) (by rfl) (qO _ (D 4 a) (dv _ _) (by omega)) (RdW.arrAll (m:=4) fd hl) (by rfl) ?_;rw[hv])|refine Z03 ?_|refine Z04 ?_|refine Z05 ?_|refine Z06 ?_|refine Z07 ?_|refine Z08 ?_|refine Z09 ?_|refine Z10 ?_|refine Z11 ?_|refine Z12 ?_|refine Z13 ?_|refine Z14 ?_|refine Z29 ?_|refine Z30 ?_|refine Z31 ?_|refine Z32 ?_|refine Z62 ?_|refine Z63 ?_|refine Z81 fun _=>?_|refine Z82 fun _=>?_)
 refine Zec fun _ hw=>aa hw SubW.nil ⟨?_,rfl⟩
 rfl
theorem u4(s:Value)(bs:List Nat)(hb:Lt 256 bs)(hl:bs.length<1000000):
  Spec Tryz.prog 34 [s] (fun w=>Rd w s (bs.map (N .u8))) [] (IsV (LV .u64 (D 4 (bA bs%r)))):=by
 refine ad Tryz.func34 rfl rfl rfl fun w hr=>?_
 have hr:=RdC.mk0 hr
 have hv:=eU (kX hb)
 have hml:=ae 4 (bA bs%r)
 have hdl:=ae ((bs.length+7)/8) (bA bs)
 repeat (first|(refine sO ?_;intro _)|(refine ax (by rfl) (by rfl) (by rfl) (ik s bs hb (by omega)) .nil (RdW.old hr) (by rfl) ?_;rintro u _ rfl)|(refine af (by rfl) (by rfl) (by rfl) (qO _ (D ((bs.length+7)/8) (bA bs)) (dv _ _) (by omega)) (RdW.own fd) (by rfl) ?_;rw[hv])|refine Wg ?_|refine Z82 fun _=>?_)
 refine Zec fun _ hw=>aa hw SubW.nil ⟨?_,rfl⟩
 rfl
theorem Ww{a b:Prop}(k:b)(h:Rm b→a:=by intro k;(first|refine Z03 ?_|refine Z04 ?_|refine Z05 ?_|refine Z06 ?_|refine Z07 ?_|refine Z08 ?_|refine Z09 ?_|refine Z10 ?_|refine Z11 ?_|refine Z12 ?_|refine Z13 ?_|refine Z14 ?_|refine Z24 ?_|refine Z26 ?_|refine Z27 ?_|refine Z29 ?_|refine Z30 ?_|refine Z31 ?_|refine Z32 ?_|refine Z62 ?_|refine Z63 ?_|refine Z66 ?_|refine Z67 ?_);exact k.h):a:=h ⟨k⟩
theorem xc{a:Nat}(ha:a<W^4):Spec Tryz.prog 35 [LV .u64 (D 4 a)] ai [] (IsV (LV .u8 (bq (a%r) 32))):=by
 refine ad Tryz.func35 rfl rfl rfl fun w _=>?_
 have hla:=ae 4 a
 have hl1:=ae 4 (a%r)
 have hol:=aD (a%r) 32
 have hv:=eU (Ic a)
 have htk:(bq (a%r) 32).take 32=bq (a%r) 32:=List.take_of_length_le (by omega)
 repeat (first|(refine Bu ?_;intro _)|refine y_4 (mK ha) ?_|((refine ax (by rfl) (by rfl) (by rfl) (oY _ (D 4 (a%r)) 32 (dv _ _) (by omega) (by decide)) .nil (RdW.arrAll (m:=4) fd hl1) (by rfl) ?_;rintro u _ rfl);rw[hv])|rw[htk]|refine Ww ?_|refine Z81 fun _=>?_|refine Z82 fun _=>?_)
 refine Zec fun _ hw=>aa hw SubW.nil ⟨?_,rfl⟩
 rfl
theorem G5{a b:Nat}(ha:a<W^4)(hb:b<W^4):(D 4 a=D 4 b)=(a=b):=by
 refine propext ⟨fun h=>?_,fun h=>by rw[h]⟩
 have:=BC h
 rwa [Nat.mod_eq_of_lt ha,Nat.mod_eq_of_lt hb]at this
theorem NR{a b:Prop}(k:b)(h:Rm b→a:=by intro k;(first|refine Z01 ?_|refine Z02 ?_|refine Z03 ?_|refine Z04 ?_|refine Z05 ?_|refine Z06 ?_|refine Z07 ?_|refine Z08 ?_|refine Z09 ?_|refine Z10 ?_|refine Z11 ?_|refine Z12 ?_|refine Z13 ?_|refine Z14 ?_|refine Z17 ?_|refine Z18 ?_|refine Z20 ?_|refine Z21 ?_|refine Z24 ?_|refine Z26 ?_|refine Z27 ?_|refine Z29 ?_|refine Z30 ?_|refine Z31 ?_|refine Z32 ?_|refine Z66 ?_|refine Z67 ?_|refine Z77 ?_|refine Z78 ?_|refine Z79 ?_);exact k.h):a:=h ⟨k⟩
theorem Wy{a b:Prop}(k:b)(h:Rm b→a:=by intro k;(first|refine Z01 ?_|refine Z02 ?_|refine Z17 ?_|refine Z18 ?_|refine Z20 ?_|refine Z21 ?_|refine Z66 ?_|refine Z77 ?_|refine Z78 ?_|refine Z79 ?_);exact k.h):a:=h ⟨k⟩
theorem Wz{a b:Prop}(k:b)(h:Rm b→a:=by intro k;refine R.Zpp (by rfl) (by intro _ _ _;(first|refine Z24 ?_|refine Z26 ?_|refine Z27 ?_|refine Z67 ?_|refine Z20 ?_|refine Z21 ?_|refine Z66 ?_);exact Zq) ?_;exact k.h):a:=h ⟨k⟩
theorem ah{S1 a b:Prop}(s1:S1)(k:b)(h:S1→Rm b→a:=by intro s1 k;refine R.Zpp (by rfl) (by intro _ _ _;refine af (by rfl) (by rfl) (by rfl) s1 (fun _ _=>trivial) (by rfl) ?_;exact Zq) ?_;exact k.h):a:=h s1 ⟨k⟩
theorem Bw{a b:Prop}(k:b)(h:Rm b→a:=by intro k;refine R.Zpn (by rfl) (by intro _ _ _;(first|refine Z82 fun _=>?_);exact R.Zpx) ?_;exact k.h):a:=h ⟨k⟩
theorem aA{a b:Prop}(k:b)(h:Rm b→a:=by intro k;refine R.Zps (by rfl) (by intro _ _ _;(first|refine nO ?_);exact Zqq) ?_;exact k.h):a:=h ⟨k⟩
theorem u6(s:Value)(bs:List Nat)(hb:Lt 256 bs)(h:bs.length=32):
  Spec Tryz.prog 71 [s] (fun w=>Rd w s (bs.map (N .u8))) [] (IsV (if bA bs<r then .tuple #[LV .u64 (D 4 (bA bs)),N .i64 0]else .tuple #[LV .u64 (D 4 0),N .i64 61])):=by
 refine ad Tryz.func71 rfl rfl rfl fun w hr=>?_
 have hr:=RdC.mk0 hr
 have hdl:=ae 4 (bA bs)
 have hfit:=kX hb
 rw[h,show(32+7)/8=4 from rfl]at hfit
 have hdm:=ae 4 (bA bs%r)
 have htk:(D 4 (bA bs)).take 4=D 4 (bA bs):=List.take_of_length_le (by omega)
 repeat (first|(refine sO ?_;intro _)|refine y_5 ?_|((refine ax (by rfl) (by rfl) (by rfl) (ik s bs hb (by omega)) .nil (RdW.old hr) (by rfl) ?_;rintro u _ rfl);rw[h,show(32+7)/8=4 from rfl])|rw[htk]|refine NR ?_|refine Z82 fun _=>?_)
 refine R.ag [0,1,2,3] (by rfl) ?_
 repeat (first|(refine R.Zpf (by rfl) (by intro _ _ _;(first|refine Wy ?_);exact Zq) ?_)|refine Wz ?_|refine ah (mK hfit) ?_|refine aA ?_|(refine Bw ?_;intro _))
 refine R.Zp0 ?_
 by_cases hlt:bA bs<r
 ·rw[if_pos hlt]
  have he:(!decide (D 4 (bA bs%r)=D 4 (bA bs)))=false:=by rw[Nat.mod_eq_of_lt hlt];simp
  repeat (first|rw[he]|refine NR ?_|refine Z82 fun _=>?_)
  refine aJ (by rfl) (by rfl) (by rfl) fd (by rfl) (by rfl) (by first | with_reducible assumption | (simp[*];done)) fun _ hw=>aa hw SubW.nil ⟨?_,rfl⟩
  rfl
 ·rw[if_neg hlt]
  have he:(!decide (D 4 (bA bs%r)=D 4 (bA bs)))=true:=by
   have:=Nat.mod_lt (bA bs) CT
   rw[decide_eq_false (by rw[G5 (Ic _) hfit];omega)];rfl
  repeat (first|rw[he]|refine bk (kk:=.u64) (vs:=[]) (by rfl) (by rfl) (by rfl) (by rfl) (by rfl) (by rfl) (by rfl) (by rfl) ?_|refine Z01 ?_|refine Z02 ?_|refine Z03 ?_|refine Z04 ?_|refine Z05 ?_|refine Z06 ?_|refine Z07 ?_|refine Z08 ?_|refine Z09 ?_|refine Z10 ?_|refine Z11 ?_|refine Z12 ?_|refine Z13 ?_|refine Z14 ?_|refine Z17 ?_|refine Z18 ?_|refine Z20 ?_|refine Z21 ?_|refine Z24 ?_|refine Z26 ?_|refine Z27 ?_|refine Z29 ?_|refine Z30 ?_|refine Z31 ?_|refine Z32 ?_|refine Z66 ?_|refine Z67 ?_|refine Z77 ?_|refine Z78 ?_|refine Z79 ?_|refine Z82 fun _=>?_)
  refine aJ (by rfl) (by rfl) (by rfl) fd (by rfl) (by rfl) (by first | with_reducible assumption | (simp[*];done)) fun _ hw=>aa hw SubW.nil ⟨?_,rfl⟩
  rw[nS];rfl
end
section
attribute [local irreducible] Code.wp wpList Af bodyPost L.Go
open Num
attribute [local simp] ae
theorem AI{T x M A VP V' Pk w c c' mk:Nat}(h1:V'+A*Pk=VP+A*w)(h2:w+18446744073709551616*c'=Pk+x*mk+c)(h3:VP+A*c=T+x*(M%A)):
  V'+A*18446744073709551616*c'=T+x*(M%A+A*mk):=by
 have h4:A*(w+18446744073709551616*c')=A*(Pk+x*mk+c):=by rw[h2]
 rw[Nat.mul_add,Nat.mul_add,Nat.mul_add,Nat.mul_left_comm A x mk]at h4
 rw[Nat.mul_assoc,Nat.mul_add x]
 omega
theorem If{P:List Nat}{c Z:Nat}(hl:P.length=8)(hP:Lt 18446744073709551616 P)(hV:V P+W^6*c=Z)(hZ:Z<W^8):
  (P.set 6 ((P.getD 6 0+c)%18446744073709551616)).set 7 ((P.getD 7 0+(P.getD 6 0+c)/18446744073709551616)%18446744073709551616)=D 8 Z:=by
 match P,hl with
 | [a0,a1,a2,a3,a4,a5,a6,a7],_=>
  have h6:=hP.getD (by decide) 6
  have h7:=hP.getD (by decide) 7
  simp only[List.getD_cons_succ,List.getD_cons_zero,List.set_cons_succ,List.set_cons_zero]at h6 h7 ⊢
  have e:V [a0,a1,a2,a3,a4,a5,a6,a7]=V [a0,a1,a2,a3,a4,a5]+W^6*(a6+W*a7):=by
   have:=mr [a0,a1,a2,a3,a4,a5] [a6,a7]
   simp only[List.cons_append,List.nil_append,List.length_cons,List.length_nil]at this
   rw[this,show V [a6,a7]=a6+W*a7 by rw[fu,de,← fu,F8]]
  have hlo:Lt 18446744073709551616 [a0,a1,a2,a3,a4,a5]:=fun y hy=>hP y (by simp at hy;rcases hy with h | h | h | h | h | h <;> simp[h])
  have hW:W=18446744073709551616:=rfl
  have hs:a6+c+W*a7<W*W:=by
   have h8:W^8=W^6*(W*W):=by rw[show 8=6+2 from rfl,Nat.pow_add,Nat.pow_two]
   have h9:W^6*(a6+c+W*a7)<W^6*(W*W):=by
    rw[← h8]
    have:W^6*(a6+c+W*a7)=W^6*(a6+W*a7)+W^6*c:=by rw[← Nat.mul_add];congr 1;omega
    omega
   exact Nat.lt_of_mul_lt_mul_left h9
  have h7':a7+(a6+c)/18446744073709551616<18446744073709551616:=by
   rw[hW]at hs;omega
  rw[Nat.mod_eq_of_lt h7']
  refine uA (fun y hy=>?_) rfl ?_
  ·simp at hy
   rcases hy with rfl | rfl | rfl | rfl | rfl | rfl | rfl | rfl
   ·exact hP _ (by simp)
   ·exact hP _ (by simp)
   ·exact hP _ (by simp)
   ·exact hP _ (by simp)
   ·exact hP _ (by simp)
   ·exact hP _ (by simp)
   ·exact Nat.mod_lt _ (by decide)
   ·exact h7'
  ·have e2:V [a0,a1,a2,a3,a4,a5,(a6+c)%18446744073709551616,a7+(a6+c)/18446744073709551616]=V [a0,a1,a2,a3,a4,a5]+W^6*((a6+c)%18446744073709551616+W*(a7+(a6+c)/18446744073709551616)):=by
    have:=mr [a0,a1,a2,a3,a4,a5] [(a6+c)%18446744073709551616,a7+(a6+c)/18446744073709551616]
    simp only[List.cons_append,List.nil_append,List.length_cons,List.length_nil]at this
    rw[this,show V [(a6+c)%18446744073709551616,a7+(a6+c)/18446744073709551616]=(a6+c)%18446744073709551616+W*(a7+(a6+c)/18446744073709551616) by rw[fu,de,← fu,F8]]
   rw[e2,← hV,e,Nat.add_assoc,← Nat.mul_add]
   congr 2
   rw[hW];omega
theorem F1(X:Nat)(h:X<W^8):(D 8 X).drop 1++[0]=D 8 (X/W):=by
 refine uA (fun y hy=>?_) (by simp) ?_
 ·rcases List.mem_append.1 hy with hy | hy
  ·exact dv _ _ y (List.mem_of_mem_drop hy)
  ·simp at hy;subst hy;decide
 ·rw[mr,Qo (dv _ _),F8,Nat.mul_zero,Nat.add_zero,eU h,Nat.pow_one]
theorem NS{a b:Prop}(k:b)(h:Rm b→a:=by intro k;(first|refine Z01 ?_|refine Z02 ?_|refine Z03 ?_|refine Z04 ?_|refine Z05 ?_|refine Z06 ?_|refine Z07 ?_|refine Z08 ?_|refine Z09 ?_|refine Z10 ?_|refine Z11 ?_|refine Z12 ?_|refine Z13 ?_|refine Z14 ?_|refine Z15 ?_|refine Z16 ?_|refine Z17 ?_|refine Z18 ?_|refine Z19 ?_|refine Z22 ?_|refine Z23 ?_|refine Z24 ?_|refine Z26 ?_|refine Z27 ?_|refine Z29 ?_|refine Z30 ?_|refine Z31 ?_|refine Z32 ?_|refine Z33 ?_|refine Z46 ?_|refine Z62 ?_|refine Z63 ?_|refine Z67 ?_|refine Z71 ?_|refine Z75 ?_|refine Z76 ?_);exact k.h):a:=h ⟨k⟩
theorem XJ{a b:Prop}(k:b)(h:Rm b→a:=by intro k;(first|refine Z01 ?_|refine Z02 ?_|refine Z15 ?_|refine Z16 ?_|refine Z17 ?_|refine Z18 ?_|refine Z19 ?_|refine Z22 ?_|refine Z23 ?_|refine Z33 ?_|refine Z46 ?_|refine Z62 ?_|refine Z63 ?_|refine Z71 ?_);exact k.h):a:=h ⟨k⟩
theorem V4{a b:Prop}(k:b)(h:Rm b→a:=by intro k;refine Zqf (by intro _ _ _;(first|refine XJ ?_);exact Zq) ?_;exact k.h):a:=h ⟨k⟩
theorem KV{a b:Prop}(k:b)(h:Rm b→a:=by intro k;(first|refine V4 ?_|refine KC ?_|refine fq ?_|refine KD ?_|refine Zqn ?_);exact k.h):a:=h ⟨k⟩
set_option maxHeartbeats 4000000 in
theorem rC(x T M sh bt bm:Nat)(hx:x<18446744073709551616)(hM:M<W^6)(hT:T+x*M<W^8)(hs:sh≤1):
  Spec Tryz.prog 130 [N .u64 x,pt bm 0,N .i64 sh,pt bt 0] ai [.blk bt (LV .u64 (D 8 T)) 167,.blk bm (LV .u64 (D 6 M)) 32]
   (fun v Wr=>v = .tuple #[]∧Wr=[.blk bt (LV .u64 (D 8 ((T+x*M)/W^sh))) 167,.blk bm (LV .u64 (D 6 M)) 32]):=by
 refine ad Tryz.func130 rfl rfl rfl fun w _=>?_
 have hlm:=ae 6 M
 have hTW:T<W^8:=by omega
 repeat (first|refine NS ?_)
 refine az (ι:=Nat×List Nat×Nat) (fun q=>q.1≤6∧q.2.1.length=8∧Lt 18446744073709551616 q.2.1∧q.2.2<18446744073709551616∧V q.2.1+W^q.1*q.2.2=T+x*(M%W^q.1))
  (fun q=>[(0,N .u64 x),(2,N .i64 sh),(3,pt bt 0),(7,N .u64 q.2.2),(14,pt bm 0),(15,N .i64 q.1)])
  (fun q=>[.blk bt (LV .u64 q.2.1) 167,.blk bm (LV .u64 (D 6 M)) 32]) (fun q=>6-q.1) (0,D 8 T,0) ⟨by simp,ae _ _,dv _ _,by simp,by simp only[Nat.pow_zero,Nat.mod_one,Nat.mul_zero,Nat.add_zero];exact eU hTW⟩ sbq sw ?_
 rintro⟨k,P,c⟩ ⟨hk,hPl,hPb,hc,hP⟩
 simp only at hk hPl hPb hc hP ⊢
 by_cases hk':k<6
 ·have hyk:=(dv 6 M).getD (by decide) k
  have hyv:=mi hM k
  have hpb:=hPb.getD (by decide) k
  obtain⟨hw1,hw2⟩:=Il hpb hc (oo hx hyk)
  repeat (first|refine y_8 ?_|refine Z01 ?_|refine Z02 ?_|refine Z03 ?_|refine Z04 ?_|refine Z05 ?_|refine Z06 ?_|refine Z07 ?_|refine Z08 ?_|refine Z09 ?_|refine Z10 ?_|refine Z11 ?_|refine Z12 ?_|refine Z13 ?_|refine Z14 ?_|refine Z15 ?_|refine Z16 ?_|refine Z17 ?_|refine Z18 ?_|refine Z19 ?_|refine Z22 ?_|refine Z23 ?_|refine Z24 ?_|refine Z26 ?_|refine Z27 ?_|refine Z29 ?_|refine Z30 ?_|refine Z31 ?_|refine Z32 ?_|refine Z33 ?_|refine Z46 ?_|refine Z62 ?_|refine Z63 ?_|refine Z67 ?_|refine Z71 ?_|refine Z75 ?_|refine Z76 ?_)
  refine au (by rfl) ?_
  repeat (first|refine KV ?_)
  refine Zq0 ?_ (by kernel_rfl)
  repeat (first|refine y_4 (rk x ((D 6 M).getD k 0) hx hyk) ?_|refine Tz ?_|refine Z01 ?_|refine Z02 ?_|refine Z03 ?_|refine Z04 ?_|refine Z05 ?_|refine Z06 ?_|refine Z07 ?_|refine Z08 ?_|refine Z09 ?_|refine Z10 ?_|refine Z11 ?_|refine Z12 ?_|refine Z13 ?_|refine Z14 ?_|refine Z15 ?_|refine Z16 ?_|refine Z17 ?_|refine Z18 ?_|refine Z19 ?_|refine Z22 ?_|refine Z23 ?_|refine Z24 ?_|refine Z26 ?_|refine Z27 ?_|refine Z29 ?_|refine Z30 ?_|refine Z31 ?_|refine Z32 ?_|refine Z33 ?_|refine Z46 ?_|refine Z62 ?_|refine Z63 ?_|refine Z67 ?_|refine Z71 ?_|refine Z75 ?_|refine Z76 ?_)
  refine ao (k+1,P.set k _,_) ⟨by simp only;omega,by simp only[List.length_set];exact hPl,hPb.set (Nat.mod_lt _ (by decide)) _,hw2,?_⟩ (by simp only;omega) sbq sw
  simp only
  have hvs:=N0 hPb k ((P.getD k 0+(x*(D 6 M).getD k 0%18446744073709551616+c)%18446744073709551616)%18446744073709551616) (by omega)
  rw[cZ,← hyv,Nat.pow_succ]
  exact AI hvs hw1 hP
 ·have hke:k=6:=by omega
  subst hke
  rw[Nat.mod_eq_of_lt hM]at hP
  have htop:=If hPl hPb hP hT
  have hg7:(P.set 6 ((P.getD 6 0+c)%18446744073709551616)).getD 7 0=P.getD 7 0:=by
   rw[List.getD_eq_getElem?_getD,List.getElem?_set_ne (by decide),← List.getD_eq_getElem?_getD]
  have hl8:=ae 8 (T+x*M)
  repeat (first|refine y_5 ?_|refine Tz ?_|rw[hg7]|rw[htop]|refine NS ?_)
  obtain⟨Z,hZ⟩:∃Z,Z=T+x*M:=⟨_,rfl⟩
  rw[← hZ]at hl8 hT ⊢
  have h01:sh=0∨sh=1:=by omega
  rcases h01 with rfl | rfl
  ·have e1:List.take 0 (D 8 Z)++List.take (8-0) (List.drop 0 (List.take 8 (D 8 Z)))++List.drop (0+min (List.drop 0 (List.take 8 (D 8 Z))).length (8-0)) (D 8 Z)=D 8 Z:=by
    simp[hl8,List.take_of_length_le]
   have e2:List.take 8 (D 8 Z)++List.replicate (8-8) 0++List.drop 8 (D 8 Z)=D 8 Z:=by
    simp[hl8,List.take_of_length_le]
   refine au (by rfl) ?_
   repeat (first|refine KV ?_)
   refine Zq0 ?_ (by kernel_rfl)
   rw[e1]
   repeat (first|refine yH (by rfl) fd (by rfl) (by rfl) hl8 (by omega) (by omega) ?_|rw[e2]|refine NS ?_)
   refine gE (by rfl) fun _ hw=>aa hw (Wout:=[.blk bt (LV .u64 (D 8 Z)) 167,.blk bm (LV .u64 (D 6 M)) 32]) (by exact sw) ⟨rfl,by rw[Nat.pow_zero,Nat.div_one]⟩
  ·have hsh:=F1 Z hT
   have a1:(D 8 Z).take 8=D 8 Z:=List.take_of_length_le (by omega)
   have a2:((D 8 Z).drop 1).length=7:=by rw[List.length_drop,hl8]
   have e1:List.take 0 (D 8 Z)++List.take (8-0) (List.drop 1 (List.take 8 (D 8 Z)))++List.drop (0+min (List.drop 1 (List.take 8 (D 8 Z))).length (8-0)) (D 8 Z)=(D 8 Z).drop 1++(D 8 Z).drop 7:=by
    rw[a1,List.take_of_length_le (l:=(D 8 Z).drop 1) (by omega),a2];rfl
   have hl9:((D 8 Z).drop 1++(D 8 Z).drop 7).length=8:=by rw[List.length_append,a2,List.length_drop,hl8]
   have e2:List.take 7 ((D 8 Z).drop 1++(D 8 Z).drop 7)++List.replicate (8-7) 0++List.drop 8 ((D 8 Z).drop 1++(D 8 Z).drop 7)=D 8 (Z/W):=by
    rw[List.take_left' a2,List.drop_eq_nil_of_le (Nat.le_of_eq hl9),List.append_nil,← hsh];rfl
   refine au (by rfl) ?_
   repeat (first|refine KV ?_)
   refine Zq0 ?_ (by kernel_rfl)
   rw[e1]
   repeat (first|refine yH (by rfl) fd (by rfl) (by rfl) hl9 (by omega) (by omega) ?_|rw[e2]|refine NS ?_)
   refine gE (by rfl) fun _ hw=>aa hw (Wout:=[.blk bt (LV .u64 (D 8 (Z/W))) 167,.blk bm (LV .u64 (D 6 M)) 32]) (by exact sw) ⟨rfl,by rw[Nat.pow_one]⟩
def Ri:Nat:=3231460744492646417066832100176244795738767926513225105051837195607029917124509527734802654356338138714468589979680
theorem Ld:W^6*Ri%p=1:=by decide +kernel
theorem Mf:9940570264628428797*p%18446744073709551616=18446744073709551615:=by decide +kernel
theorem SP:([17644856173732828998,754043588434789617,10224657059481499349,7488229067341005760,11130996698012816685,1267921511277847466]:List Nat)=D 6 (W^12%p):=by decide +kernel
attribute [irreducible] Ri
def ga(a b:Nat):Nat:=a*b*Ri%p
theorem MU(a b:Nat):ga a b<p:=Nat.mod_lt _ bZ
theorem MV{T a b:Nat}(h:T*W^6%p=a*b%p):T%p=ga a b:=by
 unfold ga
 rw[Nat.mul_mod,← h,← Nat.mul_mod,Nat.mul_assoc,Nat.mul_mod,Ld,Nat.mul_one,Nat.mod_mod]
theorem Gf(u:Nat):(u+u*18446744073709551615%18446744073709551616)%18446744073709551616=0:=by
 have e3:u+u*18446744073709551615=u*18446744073709551616:=by omega
 have e4:=Nat.add_mod_mod u (u*18446744073709551615) 18446744073709551616
 rw[e3]at e4
 exact e4.trans (Nat.mul_mod_left _ _)
theorem Fa(T:Nat):(T+T%18446744073709551616*9940570264628428797%18446744073709551616*p)%18446744073709551616=0:=by
 have h:=Mf
 have e:T%18446744073709551616*9940570264628428797%18446744073709551616*p%18446744073709551616=T%18446744073709551616*18446744073709551615%18446744073709551616:=by
  rw[Nat.mod_mul_mod,Nat.mul_assoc,Nat.mul_mod,h,Nat.mod_mod]
 rw[Nat.add_mod,e]
 exact Gf _
theorem Jc{T x b a i:Nat}(hT:T<2*p)(hx:x<18446744073709551616)(hb:b<p)(h:T*W^i%p=a%W^i*b%p)(hxa:x=a/W^i%W)(m:Nat)(hm:m=(T+x*b)%18446744073709551616*9940570264628428797%18446744073709551616):
  (T+x*b+m*p)/W<2*p∧(T+x*b+m*p)/W*W^(i+1)%p=a%W^(i+1)*b%p:=by
 have hm1:m<18446744073709551616:=by rw[hm];exact Nat.mod_lt _ (by decide)
 have hd:W∣T+x*b+m*p:=by rw[hm];exact Nat.dvd_of_mod_eq_zero (Fa _)
 have h1:x*b≤18446744073709551615*p:=Nat.mul_le_mul (by omega) (Nat.le_of_lt hb)
 have h2:m*p≤18446744073709551615*p:=Nat.mul_le_mul (by omega) (Nat.le_refl _)
 constructor
 ·refine Nat.div_lt_of_lt_mul ?_
  rw[show W=18446744073709551616 from rfl]
  omega
 ·have e:(T+x*b+m*p)/W*W^(i+1)=(T+x*b+m*p)*W^i:=by
   rw[Nat.pow_succ,Nat.mul_comm (W^i) W,← Nat.mul_assoc,Nat.div_mul_cancel hd]
  rw[e,Nat.add_mul,Nat.mul_right_comm m p,Nat.add_mul_mod_self_right,Nat.add_mul,Nat.add_mod,h,← Nat.add_mod,cZ,← hxa,Nat.add_mul]
  congr 2
  rw[Nat.mul_right_comm,Nat.mul_comm x]
theorem ye:Spec Tryz.prog 102 [] ai [] (IsV (LV .u64 (D 6 (W^12%p)))):=by
 refine ad Tryz.func102 rfl rfl rfl fun w _=>?_
 repeat (first|(refine cM ?_;intro _)|refine bk (kk:=.u64) (vs:=[17644856173732828998,754043588434789617,10224657059481499349,7488229067341005760,11130996698012816685,1267921511277847466]) (by rfl) (by rfl) (by rfl) (by rfl) (by rfl) (by rfl) (by rfl) (by rfl) ?_|refine Z03 ?_|refine Z04 ?_|refine Z05 ?_|refine Z06 ?_|refine Z07 ?_|refine Z08 ?_|refine Z09 ?_|refine Z10 ?_|refine Z11 ?_|refine Z12 ?_|refine Z13 ?_|refine Z14 ?_|refine Z29 ?_|refine Z30 ?_|refine Z31 ?_|refine Z32 ?_|refine Z82 fun _=>?_)
 refine Zec fun _ hw=>aa hw SubW.nil ⟨?_,rfl⟩
 rw[← SP];rfl
theorem WA{a b:Prop}(k:b)(h:Rm b→a:=by intro k;(first|refine Z01 ?_|refine Z02 ?_|refine Z03 ?_|refine Z04 ?_|refine Z05 ?_|refine Z06 ?_|refine Z07 ?_|refine Z08 ?_|refine Z09 ?_|refine Z10 ?_|refine Z11 ?_|refine Z12 ?_|refine Z13 ?_|refine Z14 ?_|refine Z15 ?_|refine Z17 ?_|refine Z18 ?_|refine Z22 ?_|refine Z23 ?_|refine Z24 ?_|refine Z26 ?_|refine Z27 ?_|refine Z29 ?_|refine Z30 ?_|refine Z31 ?_|refine Z32 ?_|refine Z35 ?_|refine Z48 ?_|refine Z57 ?_|refine Z62 ?_|refine Z63 ?_|refine Z66 ?_|refine Z67 ?_);exact k.h):a:=h ⟨k⟩
set_option maxHeartbeats 4000000 in
theorem ej{a b:Nat}(ha:a<W^6)(hb:b<p):Spec Tryz.prog 101 [LV .u64 (D 6 a),LV .u64 (D 6 b)] ai [] (IsV (LV .u64 (D 6 (ga a b)))):=by
 refine ad Tryz.func101 rfl rfl rfl fun w _=>?_
 have hla:=ae 6 a
 have hlb:=ae 6 b
 have hlp:=ae 6 p
 have hpl:=lS
 have hp2:=OI
 repeat (first|(refine cM ?_;intro _)|refine ar (v:=LV .u64 (List.replicate 8 0)) (by rfl) (by rfl) fun _=>?_|refine KZ ?_|refine Z01 ?_|refine Z02 ?_|refine Z03 ?_|refine Z04 ?_|refine Z05 ?_|refine Z06 ?_|refine Z07 ?_|refine Z08 ?_|refine Z09 ?_|refine Z10 ?_|refine Z11 ?_|refine Z12 ?_|refine Z13 ?_|refine Z14 ?_|refine Z15 ?_|refine Z17 ?_|refine Z18 ?_|refine Z22 ?_|refine Z23 ?_|refine Z24 ?_|refine Z26 ?_|refine Z27 ?_|refine Z29 ?_|refine Z30 ?_|refine Z31 ?_|refine Z32 ?_|refine Z35 ?_|refine Z48 ?_|refine Z57 ?_|refine Z62 ?_|refine Z63 ?_|refine Z66 ?_|refine Z67 ?_|refine Z81 fun _=>?_|refine Z82 fun _=>?_)
 rename_i b2 b3 b4 b5 b6
 rw[show List.replicate 8 0=D 8 0 from(nS 8).symm]
 refine az (ι:=Nat×Nat) (fun q=>q.1≤6∧q.2<2*p∧q.2*W^q.1%p=a%W^q.1*b%p)
  (fun q=>[(3,pt b3 0),(4,pt b4 0),(5,pt b5 0),(6,pt b6 0),(7,.func (.func 130) #[] #[pt b6 0]),(12,LV .u64 (D 6 a)),(13,N .i64 q.1)])
  (fun q=>[.blk b6 (LV .u64 (D 8 q.2)) 167,.blk b5 (LV .u64 (D 6 p)) 32,.blk b3 (LV .u64 (D 6 b)) 32,.blk b4 (LV .u64 (List.replicate 6 0)) 32]) (fun q=>6-q.1) (0,0) ⟨by simp,by have:=bZ;simp only;omega,by simp[Nat.mod_one]⟩ sbq sw ?_
 rintro⟨i,T⟩ ⟨hi,hT,hq⟩
 simp only at hi hT hq ⊢
 have hT8:T<W^8:=Nat.lt_trans (Nat.lt_of_lt_of_le hT (by omega)) (Nat.lt_of_lt_of_le hp2 (Lf (by decide)))
 by_cases h:i<6
 ·have hxi:=(dv 6 a).getD (by decide) i
  have hxv:=mi ha i
  generalize hx:(D 6 a).getD i 0=x at hxi hxv
  obtain⟨r1,r2⟩:=Jc hT hxi hb hq hxv _ rfl
  have hW8:W^8=18446744073709551616*18446744073709551616*W^6:=by decide
  have h1:x*b≤18446744073709551615*p:=Nat.mul_le_mul (by omega) (Nat.le_of_lt hb)
  have t1:T+x*b<W^8:=by omega
  have hm1:(T+x*b)%18446744073709551616*9940570264628428797%18446744073709551616<18446744073709551616:=Nat.mod_lt _ (by decide)
  generalize hm:(T+x*b)%18446744073709551616*9940570264628428797%18446744073709551616=m at r1 r2 hm1
  have h2:m*p≤18446744073709551615*p:=Nat.mul_le_mul (by omega) (Nat.le_refl _)
  have t2:T+x*b+m*p<W^8:=by omega
  have hg:(D 8 (T+x*b)).getD 0 0=(T+x*b)%18446744073709551616:=by rw[mi t1,Nat.pow_zero,Nat.div_one];rfl
  have hl8:=ae 8 (T+x*b)
  repeat (first|refine y_8 ?_|rw[hx]|(refine ax (by rfl) (by rfl) (by rfl) (rC x T b 0 b6 b3 hxi (Nat.lt_trans hb hpl) t1 (by decide)) (.cons fd (.cons fd .nil)) (fun _ _=>trivial) (by rfl) ?_;rintro _ _ ⟨rfl,rfl⟩;rw[Nat.pow_zero,Nat.div_one])|rw[hg]|rw[hm]|(refine ax (by rfl) (by rfl) (by rfl) (rC m (T+x*b) p 1 b6 b5 hm1 hpl t2 (by decide)) (.cons fd (.cons fd .nil)) (fun _ _=>trivial) (by rfl) ?_;rintro _ _ ⟨rfl,rfl⟩;rw[Nat.pow_one])|refine WA ?_|refine Z81 fun _=>?_|refine Z82 fun _=>?_)
  exact ao (i+1,(T+x*b+m*p)/W) ⟨by simp only;omega,r1,r2⟩ (by simp only;omega) sbq sw
 ·have hie:i=6:=by omega
  subst hie
  rw[Nat.mod_eq_of_lt ha]at hq
  have hv:=MV hq
  have hT6:T<W^6:=by omega
  have hl8:=ae 8 T
  have hg6:(D 8 T).getD 6 0=0:=by rw[mi hT8,Nat.div_eq_of_lt hT6,Nat.zero_mod]
  have htk:List.take 6 (List.drop 0 (List.take 6 (D 8 T)))=D 6 T:=by
   rw[List.drop_zero,List.take_take,Nat.min_self,show(8:Nat)=6+2 from rfl,TP,List.take_left' (ae 6 T)]
  have hlv:iZ 6 p T 0=ga a b:=by
   rw[← hv];unfold iZ
   rw[Nat.zero_mul,Nat.add_zero]
   by_cases hlt:T<p
   ·rw[if_pos hlt,Nat.mod_eq_of_lt hlt]
   ·rw[if_neg hlt,Nat.mod_eq_sub_mod (by omega),Nat.mod_eq_of_lt (by omega)]
  have hlr:=ae 6 (ga a b)
  repeat (first|refine y_5 ?_|refine Z01 ?_|refine Z02 ?_|refine Z03 ?_|refine Z04 ?_|refine Z05 ?_|refine Z06 ?_|refine Z07 ?_|refine Z08 ?_|refine Z09 ?_|refine Z10 ?_|refine Z11 ?_|refine Z12 ?_|refine Z13 ?_|refine Z14 ?_|refine Z15 ?_|refine Z17 ?_|refine Z18 ?_|refine Z22 ?_|refine Z23 ?_|refine Z24 ?_|refine Z26 ?_|refine Z27 ?_|refine Z29 ?_|refine Z30 ?_|refine Z31 ?_|refine Z32 ?_|refine Z35 ?_|refine Z48 ?_|refine Z57 ?_|refine Z62 ?_|refine Z63 ?_|refine Z66 ?_|refine Z67 ?_|refine Z81 fun _=>?_|refine Z82 fun _=>?_)
  refine au (by rfl) ?_
  repeat (first|(refine Zqf (by intro _ _ _;(first|refine Z01 ?_|refine Z02 ?_|refine Z15 ?_|refine Z17 ?_|refine Z18 ?_|refine Z22 ?_|refine Z23 ?_|refine Z35 ?_|refine Z48 ?_|refine Z57 ?_|refine Z62 ?_|refine Z63 ?_|refine Z66 ?_);exact Zq) ?_)|(refine Zqp (by intro _ _ _;(refine lx (ys:=List.drop 0 (List.take 6 (D 8 T))) (by rfl) (by rfl) (by rfl) (RdW.arrN fd (by omega) (by omega) hl8) (by rw[List.drop_zero,List.length_take];omega) (by decide) (by rfl) ?_;rw[htk]);exact Zq) ?_)|(refine Zqp (by intro _ _ _;(refine t6 (by rfl) fd (by omega) (by rfl) (by rfl) ?_;rw[hg6]);exact Zq) ?_)|(refine Zqp (by intro _ _ _;(refine af (by rfl) (by rfl) (by rfl) (gY hT6 (Nat.zero_le 1)) (fun _ _=>trivial) (by rfl) ?_;rw[hlv]);exact Zq) ?_)|(refine Zqp (by intro _ _ _;(first|refine Z24 ?_|refine Z26 ?_|refine Z27 ?_|refine Z67 ?_|refine Z23 ?_|refine Z62 ?_|refine Z66 ?_);exact Zq) ?_)|refine fq ?_|refine Zqn ?_)
  refine Zq0 ?_ (by kernel_rfl)
  repeat (first|refine WA ?_|refine Z81 fun _=>?_|refine Z82 fun _=>?_)
  refine Zec fun _ hw=>aa hw SubW.nil ⟨?_,rfl⟩
  rfl
theorem WH:Ri*(W^12%p)*Ri%p=1:=by decide +kernel
theorem WI:(W^12%p)*Ri%p=W^6%p:=by decide +kernel
theorem rG(a b:Nat):ga (a%p) (b%p)=ga a b:=by
 unfold ga
 rw[Nat.mul_mod (a%p*(b%p)),← Nat.mul_mod a b,← Nat.mul_mod]
theorem A2(a b:Nat):ga (a%p) b=ga a b:=by
 unfold ga
 rw[Nat.mul_assoc,Nat.mod_mul_mod,← Nat.mul_assoc]
theorem Jb(a b:Nat):ga (ga a b) (W^12%p)=a*b%p:=by
 show ga (a*b*Ri%p) (W^12%p)=_
 rw[A2]
 unfold ga
 have e:a*b*Ri*(W^12%p)*Ri=a*b*(Ri*(W^12%p)*Ri):=by
  generalize W^12%p=s
  simp only[Nat.mul_assoc]
 rw[e,Nat.mul_mod,WH,Nat.mul_one,Nat.mod_mod]
theorem MW(a b:Nat):ga a b<W^6:=Nat.lt_trans (MU a b) lS
theorem Jr:W^12%p<p:=Nat.mod_lt _ bZ
theorem bW{a b:Prop}(k:b)(h:Rm b→a:=by intro k;(first|refine Z03 ?_|refine Z04 ?_|refine Z05 ?_|refine Z06 ?_|refine Z07 ?_|refine Z08 ?_|refine Z09 ?_|refine Z10 ?_|refine Z11 ?_|refine Z12 ?_|refine Z13 ?_|refine Z14 ?_|refine Z24 ?_|refine Z26 ?_|refine Z27 ?_|refine Z29 ?_|refine Z30 ?_|refine Z31 ?_|refine Z32 ?_|refine Z67 ?_);exact k.h):a:=h ⟨k⟩
theorem fw{a b:Prop}(k:b)(h:Rm b→a:=by intro k;(first|refine sy ?_|refine fq ?_|refine Zqn ?_);exact k.h):a:=h ⟨k⟩
theorem EQ{a b:Nat}(ha:a<W^6)(hb:b<W^6):Spec Tryz.prog 50 [LV .u64 (D 6 a),LV .u64 (D 6 b)] ai [] (IsV (LV .u64 (D 6 (a*b%p)))):=by
 refine ad Tryz.func50 rfl rfl rfl fun w _=>?_
 have hl0:=fun x=>ae 6 x
 have e1:=rG a b
 have e2:=Jb a b
 repeat (first|(refine cM ?_;intro _)|refine bW ?_|refine Z81 fun _=>?_|refine Z82 fun _=>?_)
 refine au (by rfl) ?_
 repeat (first|(refine Zqf (by intro _ _ _;(first|contradiction);exact Zq) ?_)|refine bT (bS ha) ?_|refine bT (bS hb) ?_|(refine Zqp (by intro _ _ _;(refine af (by rfl) (by rfl) (by rfl) (ej (oW a) (Nat.mod_lt b bZ)) (fun _ _=>trivial) (by rfl) ?_;rw[e1]);exact Zq) ?_)|(refine Zqp (by intro _ _ _;refine af (by rfl) (by rfl) (by rfl) (ye) (fun _ _=>trivial) (by rfl) ?_;exact Zq) ?_)|(refine Zqp (by intro _ _ _;(refine af (by rfl) (by rfl) (by rfl) (ej (MW a b) Jr) (fun _ _=>trivial) (by rfl) ?_;rw[e2]);exact Zq) ?_)|refine fw ?_)
 refine Zq0 ?_ (by kernel_rfl)
 repeat (first|refine bW ?_|refine Z81 fun _=>?_|refine Z82 fun _=>?_)
 refine Zec fun _ hw=>aa hw SubW.nil ⟨?_,rfl⟩
 rfl
set_option maxHeartbeats 2000000 in
theorem tH{a:Nat}(ha:a<W^6):Spec Tryz.prog 52 [LV .u64 (D 6 a)] ai [] (IsV (LV .u64 (D 6 ((p-a%p)%p)))):=by
 refine ad Tryz.func52 rfl rfl rfl fun w _=>?_
 have hl0:=fun x=>ae 6 x
 have hA:=Nat.mod_lt a bZ
 have hlp:=hl0 p
 repeat (first|(refine cM ?_;intro _)|refine y_4 (bS ha) ?_|refine PG ?_|refine Z81 fun _=>?_|refine Z82 fun _=>?_)
 generalize a%p=A at *
 have hpl:=lS
 have hAl:A<W^6:=by omega
 have hla:=hl0 A
 rename_i b1 b2 b3
 refine az (ι:=Nat) (fun i=>i≤6) (fun i=>[(1,pt b1 0),(2,pt b2 0),(3,pt b3 0),(4,N .u64 (cp gp (D 6 p) (D 6 A) i).2),(9,N .i64 i)])
  (fun i=>[.blk b3 (LV .u64 ((cp gp (D 6 p) (D 6 A) i).1++(D 6 p).drop i)) 32,.blk b1 (LV .u64 (D 6 A)) 32,.blk b2 (LV .u64 (List.replicate 6 0)) 32]) (fun i=>6-i) 0 (by omega) (by rw[iK];exact sbq) (by rw[iK];exact sw) ?_
 intro i hi
 have hc1:=jm 6 p A i
 have hl:=gT gp (D 6 p) (D 6 A) i
 have hol:((cp gp (D 6 p) (D 6 A) i).1++(D 6 p).drop i).length=6:=by simp;omega
 have hdg:=jY (xs:=D 6 p) hl
 by_cases h:i<6
 ·repeat (first|refine DF ?_|refine Z81 fun _=>?_|refine Z82 fun _=>?_)
  refine au (by rfl) ?_
  repeat (first|(refine Zqf (by intro _ _ _;(first|refine hO (by rfl) (by rfl) (by rfl) (wn _ _ _ hc1) (by rfl) ?_|refine K3 ?_);exact Zq) ?_)|refine ux ?_)
  refine Zq0 ?_ (by kernel_rfl)
  rw[hdg,← r6,← r7,← gU,kF gp (D 6 p) (D 6 A) i (by omega)]
  repeat (first|refine sB ?_|refine Z81 fun _=>?_|refine Z82 fun _=>?_)
  exact ao (i+1) (by omega) (by omega) sbq sw
 ·have hie:i=6:=by omega
  subst hie
  have hdr:(D 6 p).drop 6=[]:=List.drop_eq_nil_of_le (by omega)
  rw[nU hpl hAl,hdr,List.append_nil,F3 (Nat.le_of_lt hA)]at *
  simp only at *
  have hv:iZ 6 p (p-A) 0=(p-A)%p:=by
   unfold iZ
   rw[Nat.zero_mul,Nat.add_zero]
   rcases Nat.eq_zero_or_pos A with h0 | h0
   ·subst h0;rw[Nat.sub_zero,if_neg (by omega),Nat.sub_self,Nat.mod_self]
   ·rw[if_pos (by omega),Nat.mod_eq_of_lt (by omega)]
  have hl3:=hl0 ((p-A)%p)
  repeat (first|refine y_5 ?_|(refine af (by rfl) (by rfl) (by rfl) (gY (a:=p-A) (by omega) (Nat.zero_le 1)) (fun _ _=>trivial) (by rfl) ?_;rw[hv])|refine sB ?_|refine Z81 fun _=>?_|refine Z82 fun _=>?_)
  refine Zec fun _ hw=>aa hw SubW.nil ⟨?_,rfl⟩
  rfl
theorem ow{a b:Nat}(ha:a<W^6)(hb:b<W^6):Spec Tryz.prog 113 [LV .u64 (D 6 a),LV .u64 (D 6 b)] ai [] (IsV (LV .u64 (D 6 ((a+(p-b%p)%p)%p)))):=by
 refine ad Tryz.func113 rfl rfl rfl fun w _=>?_
 have hl0:=fun x=>ae 6 x
 repeat (first|(refine cM ?_;intro _)|refine bW ?_|refine Z81 fun _=>?_|refine Z82 fun _=>?_)
 refine au (by rfl) ?_
 repeat (first|(refine Zqf (by intro _ _ _;(first|contradiction);exact Zq) ?_)|refine bT (tH hb) ?_|refine bT (tE ha (oW (p-b%p))) ?_|refine fw ?_)
 refine Zq0 ?_ (by kernel_rfl)
 repeat (first|refine bW ?_|refine Z81 fun _=>?_|refine Z82 fun _=>?_)
 refine Zec fun _ hw=>aa hw SubW.nil ⟨?_,rfl⟩
 rfl
set_option maxHeartbeats 2000000 in
theorem mR{a b:Nat}(ha:a<W^6)(hb:b≤a):Spec Tryz.prog 133 [LV .u64 (D 6 a),LV .u64 (D 6 b)] ai [] (IsV (LV .u64 (D 6 (a-b)))):=by
 refine ad Tryz.func133 rfl rfl rfl fun w _=>?_
 have hl0:=fun x=>ae 6 x
 have hla:=hl0 a
 repeat (first|(refine cM ?_;intro _)|refine sB ?_|refine Z81 fun _=>?_|refine Z82 fun _=>?_)
 rename_i b2 b3 b4
 refine az (ι:=Nat) (fun i=>i≤6) (fun i=>[(2,pt b2 0),(3,pt b3 0),(4,pt b4 0),(5,N .u64 (cp gp (D 6 a) (D 6 b) i).2),(7,N .i64 i)])
  (fun i=>[.blk b2 (LV .u64 ((cp gp (D 6 a) (D 6 b) i).1++(D 6 a).drop i)) 32,.blk b3 (LV .u64 (D 6 b)) 32,.blk b4 (LV .u64 (List.replicate 6 0)) 32]) (fun i=>6-i) 0 (by omega) (by rw[iK];exact sbq) (by rw[iK];exact sw) ?_
 intro i hi
 have hc1:=jm 6 a b i
 have hl:=gT gp (D 6 a) (D 6 b) i
 have hol:((cp gp (D 6 a) (D 6 b) i).1++(D 6 a).drop i).length=6:=by simp;omega
 have hdg:=jY (xs:=D 6 a) hl
 by_cases h:i<6
 ·repeat (first|refine DF ?_|refine Z81 fun _=>?_|refine Z82 fun _=>?_)
  refine au (by rfl) ?_
  repeat (first|(refine Zqf (by intro _ _ _;(first|refine hO (by rfl) (by rfl) (by rfl) (wn _ _ _ hc1) (by rfl) ?_|refine K3 ?_);exact Zq) ?_)|refine ux ?_)
  refine Zq0 ?_ (by kernel_rfl)
  rw[hdg,← r6,← r7,← gU,kF gp (D 6 a) (D 6 b) i (by omega)]
  repeat (first|refine sB ?_|refine Z81 fun _=>?_|refine Z82 fun _=>?_)
  exact ao (i+1) (by omega) (by omega) sbq sw
 ·have hie:i=6:=by omega
  subst hie
  have hdr:(D 6 a).drop 6=[]:=List.drop_eq_nil_of_le (by omega)
  rw[nU ha (Nat.lt_of_le_of_lt hb ha),hdr,List.append_nil,F3 hb]at *
  simp only at *
  have hl3:=hl0 (a-b)
  repeat (first|refine PH ?_|refine Z81 fun _=>?_|refine Z82 fun _=>?_)
  refine Zec fun _ hw=>aa hw SubW.nil ⟨?_,rfl⟩
  rfl
theorem Xc:([1]++List.replicate (6-[1].length) 0:List Nat)=D 6 1:=by decide +kernel
theorem Qh:([]++List.replicate (6-([]:List Nat).length) 0:List Nat)=D 6 0:=by rw[nS];rfl
theorem Vn(a x:Nat):ga (a^x*W^6%p) (a^x*W^6%p)=a^(2*x)*W^6%p:=by
 rw[rG]
 unfold ga
 have e:a^x*W^6*(a^x*W^6)*Ri=a^(2*x)*W^6*(W^6*Ri):=by
  rw[Nat.two_mul,Nat.pow_add]
  generalize a^x=y;generalize W^6=z
  simp only[Nat.mul_assoc,Nat.mul_left_comm]
 rw[e,Nat.mul_mod,Ld,Nat.mul_one,Nat.mod_mod]
theorem bN(a x:Nat):ga (a^x*W^6%p) (a*W^6%p)=a^(x+1)*W^6%p:=by
 rw[rG]
 unfold ga
 have e:a^x*W^6*(a*W^6)*Ri=a^(x+1)*W^6*(W^6*Ri):=by
  rw[Nat.pow_succ a x]
  generalize a^x=y;generalize W^6=z
  simp only[Nat.mul_assoc,Nat.mul_left_comm]
 rw[e,Nat.mul_mod,Ld,Nat.mul_one,Nat.mod_mod]
theorem nq(a:Nat):ga (a%p) (W^12%p)=a*W^6%p:=by
 rw[A2]
 unfold ga
 rw[Nat.mul_assoc,Nat.mul_mod,WI,← Nat.mul_mod]
theorem ML:ga 1 (W^12%p)=1*W^6%p:=by decide +kernel
theorem So(y:Nat):ga (y*W^6%p) 1=y%p:=by
 rw[A2]
 unfold ga
 rw[Nat.mul_one,Nat.mul_assoc,Nat.mul_mod,Ld,Nat.mul_one,Nat.mod_mod]
theorem my{ys:List Nat}(hy:Lt 18446744073709551616 ys)(i:Nat):(ys.getD (i/64) 0 >>> (i%64)%18446744073709551616 &&& 1%18446744073709551616)=V ys/2^i%2:=by
 rw[show 1%18446744073709551616=1 from rfl,Nat.and_one_is_mod,Nat.mod_mod_of_dvd _ (by decide),cR hy]
 exact J6 _ _
theorem zL{a b:Prop}(k:b)(h:Rm b→a:=by intro k;refine bk (kk:=.u64) (vs:=[1]) (by rfl) (by rfl) (by rfl) (by rfl) (by rfl) (by rfl) (by rfl) (by rfl) ?_;rw[Xc];exact k.h):a:=h ⟨k⟩
theorem FX{a b:Prop}(k:b)(h:Rm b→a:=by intro k;(first|refine Z01 ?_|refine Z02 ?_|refine Z03 ?_|refine Z04 ?_|refine Z05 ?_|refine Z06 ?_|refine Z07 ?_|refine Z08 ?_|refine Z09 ?_|refine Z10 ?_|refine Z11 ?_|refine Z12 ?_|refine Z13 ?_|refine Z14 ?_|refine Z16 ?_|refine Z17 ?_|refine Z18 ?_|refine Z20 ?_|refine Z21 ?_|refine Z22 ?_|refine Z23 ?_|refine Z24 ?_|refine Z26 ?_|refine Z27 ?_|refine Z29 ?_|refine Z30 ?_|refine Z31 ?_|refine Z32 ?_|refine Z36 ?_|refine Z37 ?_|refine Z38 ?_|refine Z40 ?_|refine Z42 ?_|refine Z67 ?_|refine Z71 ?_);exact k.h):a:=h ⟨k⟩
set_option maxHeartbeats 4000000 in
theorem ER{a:Nat}(ha:a<W^6)(s:Value)(xs:List Nat)(hx:Lt 18446744073709551616 xs)(hl:xs.length<65536):
  Spec Tryz.prog 95 [LV .u64 (D 6 a),s] (fun w=>Rd w s (xs.map (N .u64))) [] (IsV (LV .u64 (D 6 (a^V xs%p)))):=by
 refine ad Tryz.func95 rfl rfl rfl fun w hr=>?_
 have hr:=RdC.mk0 hr
 have hl0:=fun x=>ae 6 x
 have e1:=nq a
 have h1W:1<W^6:=by decide
 have h1p:1<p:=fe.1
 have hz:V xs/2^(64*xs.length)=0:=Nat.div_eq_of_lt (by rw[Nat.pow_mul,← W_2];exact uD hx)
 repeat (first|(refine cM ?_;intro _)|refine y_4 (bS ha) ?_|refine af (by rfl) (by rfl) (by rfl) (ye) (fun _ _=>trivial) (by rfl) ?_|(refine af (by rfl) (by rfl) (by rfl) (ej (oW a) Jr) (fun _ _=>trivial) (by rfl) ?_;rw[e1])|refine zL ?_|(refine af (by rfl) (by rfl) (by rfl) (ej h1W Jr) (fun _ _=>trivial) (by rfl) ?_;rw[ML])|refine FX ?_|refine Z81 fun _=>?_|refine Z82 fun _=>?_)
 rename_i b2 b4 b5 b6
 refine az (ι:=Nat) (fun j=>j≤64*xs.length) (fun j=>[(1,s),(4,pt b4 0),(5,pt b5 0),(6,pt b6 0),(7,.int .i64 ((j:Int)-1))])
  (fun j=>[.blk b6 (LV .u64 (D 6 (a^(V xs/2^j)*W^6%p))) 32,.blk b5 (LV .u64 (D 6 (a*W^6%p))) 32,.blk b4 (LV .u64 (List.replicate 6 0)) 32]) (fun j=>j) (64*xs.length) (Nat.le_refl _) sbq (by rw[hz,Nat.pow_zero];exact sw) ?_
 intro j hj
 have hl6:=fun x=>hl0 (a^x*W^6%p)
 have hlb:=hl0 (a*W^6%p)
 repeat (first|refine FX ?_|refine Z81 fun _=>?_|refine Z82 fun _=>?_)
 refine an (by rfl) (fun h=>?_) (fun h=>?_)
 ·have h0:(0:Int)≤(j:Int)-1:=h
  obtain⟨i,rfl⟩:∃i,j=i+1:=⟨j-1,by omega⟩
  rw[show((i+1:Nat):Int)-1=Int.ofNat i by simp]
  have hst:=mz (V xs) i
  have hbt:=my hx i
  generalize V xs/2^(i+1)=x at hst ⊢
  have hla:=hl6 x
  have hla2:=hl6 (2*x)
  have hla3:=hl6 (2*x+1)
  have q1:=Vn a x
  have q2:=bN a (2*x)
  repeat (first|(refine af (by rfl) (by rfl) (by rfl) (ej (a:=a^x*W^6%p) (b:=a^x*W^6%p) (oW _) (Nat.mod_lt _ bZ)) (fun _ _=>trivial) (by rfl) ?_;rw[q1])|refine ii (by rfl) (by rfl) (show i%64≤64 by omega) (by rfl) ?_|rw[hbt]|refine FX ?_|refine Z81 fun _=>?_|refine Z82 fun _=>?_)
  refine an (by rfl) (fun hb=>?_) (fun hb=>?_)
  ·have hx1:V xs/2^i=2*x+1:=by omega
   repeat (first|(refine af (by rfl) (by rfl) (by rfl) (ej (a:=a^(2*x)*W^6%p) (b:=a*W^6%p) (oW _) (Nat.mod_lt _ bZ)) (fun _ _=>trivial) (by rfl) ?_;rw[q2])|refine FX ?_|refine Z81 fun _=>?_|refine Z82 fun _=>?_)
   refine ao i (by omega) (by omega) ?_ (by rw[hx1];exact sw)
   rw[show((i:Int)-1)=Int.ofNat i-Int.ofNat 1 from rfl]
   exact sbq
  ·have hx1:V xs/2^i=2*x:=by omega
   repeat (first|refine FX ?_|refine Z81 fun _=>?_|refine Z82 fun _=>?_)
   refine ao i (by omega) (by omega) ?_ (by rw[hx1];exact sw)
   rw[show((i:Int)-1)=Int.ofNat i-Int.ofNat 1 from rfl]
   exact sbq
 ·have hp0:¬(0:Int)≤(j:Int)-1:=h
  have hj0:j=0:=by omega
  subst hj0
  have hle:=hl0 (a^V xs%p)
  have q3:=So (a^V xs)
  rw[Nat.pow_zero,Nat.div_one]
  repeat (first|refine zL ?_|(refine af (by rfl) (by rfl) (by rfl) (ej (a:=a^V xs*W^6%p) (oW _) h1p) (fun _ _=>trivial) (by rfl) ?_;rw[q3])|refine FX ?_|refine Z81 fun _=>?_|refine Z82 fun _=>?_)
  refine Zec fun _ hw=>aa hw SubW.nil ⟨?_,rfl⟩
  rfl
theorem CA(X i:Nat):((X/W^i%W) >>> 1%18446744073709551616 ||| (X/W^(i+1)%W) <<< 63%18446744073709551616%18446744073709551616)=X/2/W^i%W:=by
 have h:=A7 (w:=1) (by decide) X i
 rw[Nat.pow_one,show 64-1=63 from rfl]at h
 rw[← h]
 have hx:X/W^i%W<W:=Nat.mod_lt _ mv
 generalize X/W^i%W=x at *
 generalize X/W^(i+1)%W=y
 have e1:x >>> 1=x/2:=by rw[Nat.shiftRight_eq_div_pow]
 have e2:y <<< 63%18446744073709551616=2^63*(y%2):=by rw[Nat.shiftLeft_eq];omega
 have hW:W=18446744073709551616:=rfl
 rw[e1,e2,Nat.mod_eq_of_lt (a:=x/2) (by omega),Nat.mod_eq_of_lt (a:=2^63*(y%2)) (by omega),Nat.or_comm,← Nat.two_pow_add_eq_or_of_lt (by omega),Nat.mod_eq_of_lt (a:=x/2+2^63*(y%2)) (by omega),Nat.add_comm]
theorem TG{a b:Prop}(k:b)(h:Rm b→a:=by intro k;(first|refine Z01 ?_|refine Z02 ?_|refine Z03 ?_|refine Z04 ?_|refine Z05 ?_|refine Z06 ?_|refine Z07 ?_|refine Z08 ?_|refine Z09 ?_|refine Z10 ?_|refine Z11 ?_|refine Z12 ?_|refine Z13 ?_|refine Z14 ?_|refine Z15 ?_|refine Z17 ?_|refine Z18 ?_|refine Z22 ?_|refine Z23 ?_|refine Z24 ?_|refine Z26 ?_|refine Z27 ?_|refine Z29 ?_|refine Z30 ?_|refine Z31 ?_|refine Z32 ?_|refine Z41 ?_|refine Z42 ?_|refine Z43 ?_|refine Z46 ?_|refine Z67 ?_);exact k.h):a:=h ⟨k⟩
theorem WB{a b:Prop}(k:b)(h:Rm b→a:=by intro k;(first|refine ii (by rfl) (by rfl) (show 1≤64 by decide) (by rfl) ?_|refine Z01 ?_|refine Z02 ?_|refine Z15 ?_|refine Z17 ?_|refine Z18 ?_|refine Z22 ?_|refine Z23 ?_|refine Z41 ?_|refine Z42 ?_|refine Z43 ?_|refine Z46 ?_);exact k.h):a:=h ⟨k⟩
set_option maxHeartbeats 4000000 in
theorem og(a h ba:Nat)(ha:a<W^6)(hh:h≤1):
  Spec Tryz.prog 151 [pt ba 0,N .u64 h] ai [.blk ba (LV .u64 (D 6 a)) 32] (fun v Wr=>v = .tuple #[]∧Wr=[.blk ba (LV .u64 (D 6 ((a+h*W^6)/2))) 32]):=by
 refine ad Tryz.func151 rfl rfl rfl fun w _=>?_
 obtain⟨X,hX⟩:∃X,X=a+h*W^6:=⟨_,rfl⟩
 have hDX:D 6 a=D 6 X:=by rw[hX,← mj 6 (a+h*W^6),Nat.add_mul_mod_self_right,mj]
 have hX6:X/W^6%W=h:=by
  rw[hX,Nat.add_mul_div_right _ _ (bP 6),Nat.div_eq_of_lt ha,Nat.zero_add,Nat.mod_eq_of_lt (by have:W=18446744073709551616:=rfl;omega)]
 rw[← hX,hDX]
 have hdx:=ae 6 X
 have hg:∀j,j<6→(D 6 X).getD j 0=X/W^j%W:=fun j hj=>zQ 6 X j hj
 repeat (first|refine TG ?_)
 refine az (ι:=Nat) (fun i=>i≤5) (fun i=>[(0,pt ba 0),(1,N .u64 h),(5,N .i64 i)]) (fun i=>[.blk ba (LV .u64 (D i (X/2)++(D 6 X).drop i)) 32]) (fun i=>5-i) 0 (by omega) sbq (by rw[D_0,List.nil_append,List.drop_zero];exact sw) ?_
 intro i hi
 have hdl:=ae i (X/2)
 have hpl:(D i (X/2)++(D 6 X).drop i).length=6:=by rw[List.length_append,hdl,List.length_drop,hdx];omega
 have hg0:=(jY (xs:=D 6 X) hdl).trans (hg i (by omega))
 by_cases h5:i<5
 ·have hg1:=(Ea (xs:=D 6 X) hdl).trans (hg (i+1) (by omega))
  repeat (first|refine y_8 ?_|refine Z01 ?_|refine Z02 ?_|refine Z03 ?_|refine Z04 ?_|refine Z05 ?_|refine Z06 ?_|refine Z07 ?_|refine Z08 ?_|refine Z09 ?_|refine Z10 ?_|refine Z11 ?_|refine Z12 ?_|refine Z13 ?_|refine Z14 ?_|refine Z15 ?_|refine Z17 ?_|refine Z18 ?_|refine Z22 ?_|refine Z23 ?_|refine Z24 ?_|refine Z26 ?_|refine Z27 ?_|refine Z29 ?_|refine Z30 ?_|refine Z31 ?_|refine Z32 ?_|refine Z41 ?_|refine Z42 ?_|refine Z43 ?_|refine Z46 ?_|refine Z67 ?_)
  refine au (by rfl) ?_
  repeat (first|(refine Zqf (by intro _ _ _;(first|refine WB ?_);exact Zq) ?_)|refine KE ?_|refine fq ?_|refine Zqn ?_)
  refine Zq0 ?_ (by kernel_rfl)
  rw[hg0,hg1,CA,qw hdl (by omega),← uB]
  repeat (first|refine TG ?_)
  exact ao (i+1) (by omega) (by omega) sbq sw
 ·have hie:i=5:=by omega
  subst hie
  have ho:=CA X 5
  rw[show(5+1:Nat)=6 from rfl,hX6]at ho
  repeat (first|refine y_5 ?_|refine Z01 ?_|refine Z02 ?_|refine Z03 ?_|refine Z04 ?_|refine Z05 ?_|refine Z06 ?_|refine Z07 ?_|refine Z08 ?_|refine Z09 ?_|refine Z10 ?_|refine Z11 ?_|refine Z12 ?_|refine Z13 ?_|refine Z14 ?_|refine Z15 ?_|refine Z17 ?_|refine Z18 ?_|refine Z22 ?_|refine Z23 ?_|refine Z24 ?_|refine Z26 ?_|refine Z27 ?_|refine Z29 ?_|refine Z30 ?_|refine Z31 ?_|refine Z32 ?_|refine Z41 ?_|refine Z42 ?_|refine Z43 ?_|refine Z46 ?_|refine Z67 ?_)
  refine au (by rfl) ?_
  repeat (first|(refine Zqf (by intro _ _ _;(first|refine WB ?_);exact Zq) ?_)|refine KE ?_|refine fq ?_|refine Zqn ?_)
  refine Zq0 ?_ (by kernel_rfl)
  rw[hg0,ho,qw hdl (by omega),← uB,List.drop_eq_nil_of_le (by omega),List.append_nil]
  repeat (first|refine TG ?_)
  refine gE (by rfl) fun _ hw=>aa hw (Wout:=[.blk ba (LV .u64 (D 6 (X/2))) 32]) (by exact sw) ⟨rfl,rfl⟩
theorem vp{u:Nat}(hu:u<W^6):((D 6 u).getD 0 0%18446744073709551616 &&& 1%18446744073709551616)=u%2:=by
 rw[mi hu,Nat.pow_zero,Nat.div_one,show 1%18446744073709551616=1 from rfl,Nat.and_one_is_mod,show W=18446744073709551616 from rfl]
 omega
theorem IF:p%2=1:=by decide +kernel
theorem Ov{A x u:Nat}(h:A*(2*x)%p=2*u%p):A*x%p=u%p:=by
 rw[Nat.mul_left_comm]at h
 have h2:¬p∣2:=fun hd=>by
  have:=Nat.le_of_dvd (by decide) hd
  have:=IF
  have:=fe.1
  have h3:p=2:=by omega
  omega
 rcases Nat.le_total (A*x) u with hle | hle
 ·exact(Pr.z8 fe h2 hle (by rw[Nat.mul_comm u,Nat.mul_comm (A*x)];exact h.symm)).symm
 ·exact Pr.z8 fe h2 hle (by rw[Nat.mul_comm u,Nat.mul_comm (A*x)];exact h)
theorem zM{a b:Prop}(k:b)(h:Rm b→a:=by intro k;(first|refine Z01 ?_|refine Z02 ?_|refine Z03 ?_|refine Z04 ?_|refine Z05 ?_|refine Z06 ?_|refine Z07 ?_|refine Z08 ?_|refine Z09 ?_|refine Z10 ?_|refine Z11 ?_|refine Z12 ?_|refine Z13 ?_|refine Z14 ?_|refine Z15 ?_|refine Z17 ?_|refine Z18 ?_|refine Z19 ?_|refine Z22 ?_|refine Z23 ?_|refine Z24 ?_|refine Z26 ?_|refine Z27 ?_|refine Z29 ?_|refine Z30 ?_|refine Z31 ?_|refine Z32 ?_|refine Z40 ?_|refine Z46 ?_|refine Z67 ?_);exact k.h):a:=h ⟨k⟩
set_option maxHeartbeats 8000000 in
theorem sW(U X A bu bx:Nat)(hU:0<U)(hUW:U<W^6)(hX:X<p)(hA:A*X%p=U%p):
  Spec Tryz.prog 132 [pt bu 0,pt bx 0] ai [.blk bu (LV .u64 (D 6 U)) 32,.blk bx (LV .u64 (D 6 X)) 32]
   (fun v Wr=>v = .tuple #[]∧∃u x,Wr=[.blk bu (LV .u64 (D 6 u)) 32,.blk bx (LV .u64 (D 6 x)) 32]∧u∣U∧u%2=1∧x<p∧A*x%p=u%p):=by
 refine ad Tryz.func132 rfl rfl rfl fun w _=>?_
 have hpl:=lS
 have hp2:=OI
 have hpo:=IF
 have hl0:=fun x=>ae 6 x
 repeat (first|refine zM ?_|refine Z82 fun _=>?_)
 refine az (ι:=Nat×Nat) (fun q=>0<q.1∧q.1∣U∧q.2<p∧A*q.2%p=q.1%p) (fun _=>[(0,pt bu 0),(1,pt bx 0)]) (fun q=>[.blk bu (LV .u64 (D 6 q.1)) 32,.blk bx (LV .u64 (D 6 q.2)) 32]) (fun q=>q.1) (U,X) ⟨hU,Nat.dvd_refl U,hX,hA⟩ sbq sw ?_
 rintro⟨u,x⟩ ⟨h1,h2,h3,h4⟩
 simp only at h1 h2 h3 h4 ⊢
 have huU:=Nat.le_of_dvd hU h2
 have huW:u<W^6:=by omega
 have hxW:x<W^6:=by omega
 have hb1:=vp huW
 have hb2:=vp hxW
 have hlu:=hl0 u
 have hlx:=hl0 x
 repeat (first|rw[hb1]|refine zM ?_|refine Z82 fun _=>?_)
 refine an (by rfl) (fun he=>?_) (fun he=>?_)
 ·obtain⟨y,rfl⟩:∃y,u=2*y:=⟨u/2,by omega⟩
  have hy:(2*y+0*W^6)/2=y:=by rw[Nat.zero_mul];omega
  have hly:=hl0 y
  have hdv:y∣U:=Nat.dvd_trans (Nat.dvd_mul_left y 2) h2
  repeat (first|(refine ax (by rfl) (by rfl) (by rfl) (og (2*y) 0 bu huW (Nat.zero_le 1)) (.cons fd .nil) (fun _ _=>trivial) (by rfl) ?_;rintro _ _ ⟨rfl,rfl⟩;rw[hy])|rw[hb2]|refine zM ?_|refine Z82 fun _=>?_)
  refine an (by rfl) (fun hx=>?_) (fun hx=>?_)
  ·obtain⟨z,rfl⟩:∃z,x=2*z:=⟨x/2,by omega⟩
   have hz:(2*z+0*W^6)/2=z:=by rw[Nat.zero_mul];omega
   have hm:=Ov h4
   repeat (first|(refine ax (by rfl) (by rfl) (by rfl) (og (2*z) 0 bx hxW (Nat.zero_le 1)) (.cons fd .nil) (fun _ _=>trivial) (by rfl) ?_;rintro _ _ ⟨rfl,rfl⟩;rw[hz])|refine zM ?_|refine Z82 fun _=>?_)
   exact ao (y,z) ⟨by omega,hdv,by omega,hm⟩ (by simp only;omega) sbq sw
  ·have hlp:=hl0 p
   have hm:A*((x+p)/2)%p=y%p:=by
    refine Ov ?_
    rw[show 2*((x+p)/2)=x+p by omega,Nat.mul_add,Nat.add_mul_mod_self_right]
    exact h4
   have hs:(x+p)/2<p:=by omega
   clear h4 hb1 hb2 h2 huU
   repeat (first|refine KZ ?_|(refine cM ?_;intro _)|refine zM ?_|refine Z82 fun _=>?_)
   rename_i b4
   refine az (ι:=Nat) (fun i=>i≤6) (fun i=>[(0,pt bu 0),(1,pt bx 0),(4,pt b4 0),(5,N .u64 (cp iQ (D 6 x) (D 6 p) i).2),(24,N .i64 i)])
    (fun i=>[.blk bx (LV .u64 ((cp iQ (D 6 x) (D 6 p) i).1++(D 6 x).drop i)) 32,.blk bu (LV .u64 (D 6 y)) 32,.blk b4 (LV .u64 (D 6 p)) 32]) (fun i=>6-i) 0 (by omega) (by rw[iK];exact sbq) (by rw[iK];exact sw) ?_
   intro i hi
   have hc1:=mC 6 x p i
   have hl:=gT iQ (D 6 x) (D 6 p) i
   have hol:((cp iQ (D 6 x) (D 6 p) i).1++(D 6 x).drop i).length=6:=by simp;omega
   have hdg:=jY (xs:=D 6 x) hl
   by_cases h:i<6
   ·repeat (first|refine y_8 ?_|refine Z01 ?_|refine Z02 ?_|refine Z03 ?_|refine Z04 ?_|refine Z05 ?_|refine Z06 ?_|refine Z07 ?_|refine Z08 ?_|refine Z09 ?_|refine Z10 ?_|refine Z11 ?_|refine Z12 ?_|refine Z13 ?_|refine Z14 ?_|refine Z15 ?_|refine Z17 ?_|refine Z18 ?_|refine Z19 ?_|refine Z22 ?_|refine Z23 ?_|refine Z24 ?_|refine Z26 ?_|refine Z27 ?_|refine Z29 ?_|refine Z30 ?_|refine Z31 ?_|refine Z32 ?_|refine Z40 ?_|refine Z46 ?_|refine Z67 ?_|refine Z82 fun _=>?_)
    refine au (by rfl) ?_
    repeat (first|(refine Zqf (by intro _ _ _;(first|refine hO (by rfl) (by rfl) (by rfl) (zV _ _ _ hc1) (by rfl) ?_|refine Z01 ?_|refine Z02 ?_|refine Z15 ?_|refine Z17 ?_|refine Z18 ?_|refine Z19 ?_|refine Z22 ?_|refine Z23 ?_|refine Z40 ?_|refine Z46 ?_);exact Zq) ?_)|refine ux ?_)
    refine Zq0 ?_ (by kernel_rfl)
    rw[hdg,← wM,← wN,← gU,kF iQ (D 6 x) (D 6 p) i (by omega)]
    repeat (first|refine zM ?_|refine Z82 fun _=>?_)
    exact ao (i+1) (by omega) (by omega) sbq sw
   ·have hie:i=6:=by omega
    subst hie
    have hdr:(D 6 x).drop 6=[]:=List.drop_eq_nil_of_le (by omega)
    have hxp:x+p<W^6:=by omega
    have h0:(x+p)/W^6=0:=Nat.div_eq_of_lt hxp
    have hz:(x+p+0*W^6)/2=(x+p)/2:=by rw[Nat.zero_mul,Nat.add_zero]
    rw[sU hxW hpl,hdr,List.append_nil]at *
    simp only[h0]at *
    have hlz:=hl0 ((x+p)/2)
    repeat (first|refine y_5 ?_|(refine ax (by rfl) (by rfl) (by rfl) (og (x+p) 0 bx hxp (Nat.zero_le 1)) (.cons fd .nil) (fun _ _=>trivial) (by rfl) ?_;rintro _ _ ⟨rfl,rfl⟩;rw[hz])|refine zM ?_|refine Z82 fun _=>?_)
    exact ao (y,(x+p)/2) ⟨by omega,hdv,hs,hm⟩ (by simp only;omega) sbq sw
 ·repeat (first|refine zM ?_|refine Z82 fun _=>?_)
  refine gE (by rfl) fun _ hw=>aa hw (Wout:=[.blk bu (LV .u64 (D 6 u)) 32,.blk bx (LV .u64 (D 6 x)) 32]) (by exact sw) ⟨rfl,u,x,rfl,h2,by omega,h3,h4⟩
instance nzp:NeZero p:=⟨Nat.ne_of_gt bZ⟩
theorem LY{a r:Nat}(h:a*r%p=1):r%p=a^(p-2)%p:=by
 have hk:Kf.κ p a*Kf.κ p r=1:=by
  rw[← Kf.gr,← Kf.κ_1,Kf.sD,h,Nat.mod_eq_of_lt fe.1]
 have h2:=Kf.Au fe hk
 rw[Kf.inv,← Kf.wA,Kf.sD]at h2
 exact h2.symm
theorem Dc{A x y u v:Nat}(hx:A*x%p=u%p)(hy:A*y%p=v%p)(h:v≤u):A*((x+(p-y%p)%p)%p)%p=(u-v)%p:=by
 have e1:Kf.κ p A*Kf.κ p x=Kf.κ p u:=by rw[← Kf.gr,Kf.sD];exact hx
 have e2:Kf.κ p A*Kf.κ p y=Kf.κ p v:=by rw[← Kf.gr,Kf.sD];exact hy
 rw[← Kf.sD,Kf.gr,Kf.mh,Kf.fO,Kf.mh,Kf.wy (Nat.le_of_lt (Nat.mod_lt _ bZ)),Kf.mh,Kf.BB h]
 grind
theorem LJ{a b c d:Nat}(h:Nat.gcd a b=1)(hc:c∣a)(hd:d∣b):Nat.gcd c d=1:=
 Nat.eq_one_of_dvd_one (h ▸ Nat.dvd_gcd (Nat.dvd_trans (Nat.gcd_dvd_left c d) hc) (Nat.dvd_trans (Nat.gcd_dvd_right c d) hd))
theorem xq{a b:Nat}(h:Nat.gcd a b=1)(hle:b≤a):Nat.gcd (a-b) b=1:=
 Nat.eq_one_of_dvd_one (h ▸ Nat.dvd_gcd (by
  have:=Nat.dvd_add (Nat.gcd_dvd_left (a-b) b) (Nat.gcd_dvd_right (a-b) b)
  rwa [Nat.sub_add_cancel hle]at this) (Nat.gcd_dvd_right _ _))
theorem Hw{a b:Nat}(h:Nat.gcd a b=1)(hle:a≤b):Nat.gcd a (b-a)=1:=by
 rw[Nat.gcd_comm]at h ⊢
 exact xq h hle
theorem UL{A:Nat}(h0:0<A)(hA:A<p):Nat.gcd A p=1:=by
 rcases fe.2 _ (Nat.gcd_dvd_right A p)with h | h
 ·exact h
 ·have:=Nat.le_of_dvd h0 (h ▸ Nat.gcd_dvd_left A p)
  omega
theorem WC{a b:Prop}(k:b)(h:Rm b→a:=by intro k;refine bk (kk:=.u64) (vs:=[]) (by rfl) (by rfl) (by rfl) (by rfl) (by rfl) (by rfl) (by rfl) (by rfl) ?_;rw[Qh];exact k.h):a:=h ⟨k⟩
theorem pD{a b:Prop}(k:b)(h:Rm b→a:=by intro k;(first|refine Z02 ?_|refine Z03 ?_|refine Z04 ?_|refine Z05 ?_|refine Z06 ?_|refine Z07 ?_|refine Z08 ?_|refine Z09 ?_|refine Z10 ?_|refine Z11 ?_|refine Z12 ?_|refine Z13 ?_|refine Z14 ?_|refine Z17 ?_|refine Z18 ?_|refine Z24 ?_|refine Z26 ?_|refine Z27 ?_|refine Z29 ?_|refine Z30 ?_|refine Z31 ?_|refine Z32 ?_|refine Z62 ?_|refine Z63 ?_|refine Z67 ?_|refine Z77 ?_|refine Z78 ?_|refine Z79 ?_);exact k.h):a:=h ⟨k⟩
theorem XK{a b:Prop}(k:b)(h:Rm b→a:=by intro k;(first|refine Z02 ?_|refine Z17 ?_|refine Z18 ?_|refine Z62 ?_|refine Z63 ?_|refine Z77 ?_|refine Z78 ?_|refine Z79 ?_);exact k.h):a:=h ⟨k⟩
theorem WD{a b:Prop}(k:b)(h:Rm b→a:=by intro k;(first|refine Z24 ?_|refine Z26 ?_|refine Z27 ?_|refine Z67 ?_|refine Z62 ?_);exact k.h):a:=h ⟨k⟩
theorem DG{a b:Prop}(k:b)(h:Rm b→a:=by intro k;refine Zqf (by intro _ _ _;(first|refine XK ?_);exact Zq) ?_;exact k.h):a:=h ⟨k⟩
theorem V5{a b:Prop}(k:b)(h:Rm b→a:=by intro k;refine Zqp (by intro _ _ _;(first|refine WD ?_);exact Zq) ?_;exact k.h):a:=h ⟨k⟩
theorem uy{a b:Prop}(k:b)(h:Rm b→a:=by intro k;(first|refine V5 ?_|refine fq ?_|refine Zqn ?_);exact k.h):a:=h ⟨k⟩
set_option maxHeartbeats 8000000 in
theorem EP{a:Nat}(ha:a<W^6):Spec Tryz.prog 111 [LV .u64 (D 6 a)] ai [] (IsV (LV .u64 (D 6 (a^(p-2)%p)))):=by
 refine ad Tryz.func111 rfl rfl rfl fun w _=>?_
 have hpl:=lS
 have hp0:=bZ
 have hp1:=fe.1
 have hl0:=fun x=>ae 6 x
 have hlp:=hl0 p
 have hAp:=Nat.mod_lt a bZ
 have hz0:=wD (oW a) (show 0<W^6 by decide)
 repeat (first|(refine cM ?_;intro _)|refine y_4 (bS ha) ?_|refine KZ ?_|refine zL ?_|refine WC ?_|refine Z02 ?_|refine Z03 ?_|refine Z04 ?_|refine Z05 ?_|refine Z06 ?_|refine Z07 ?_|refine Z08 ?_|refine Z09 ?_|refine Z10 ?_|refine Z11 ?_|refine Z12 ?_|refine Z13 ?_|refine Z14 ?_|refine Z17 ?_|refine Z18 ?_|refine Z24 ?_|refine Z26 ?_|refine Z27 ?_|refine Z29 ?_|refine Z30 ?_|refine Z31 ?_|refine Z32 ?_|refine Z62 ?_|refine Z63 ?_|refine Z67 ?_|refine Z77 ?_|refine Z78 ?_|refine Z79 ?_|refine Z81 fun _=>?_|refine Z82 fun _=>?_)
 refine an (by rfl) (fun hb=>?_) (fun hb=>?_)
 ·rw[hz0]at hb
  have hv:a^(p-2)%p=a%p:=by
   rw[Nat.pow_mod,hb,Nat.zero_pow (by have:=IF;omega),Nat.zero_mod]
  rw[← hv]
  rw[← hv]at hz0
  have hla:=hl0 (a^(p-2)%p)
  repeat (first|refine pD ?_|refine Z81 fun _=>?_|refine Z82 fun _=>?_)
  refine Zec fun _ hw=>aa hw SubW.nil ⟨?_,rfl⟩
  rfl
 ·rw[hz0]at hb
  have hA0:0<a%p:=by omega
  have hg0:=UL hA0 hAp
  have hi0:a%p*1%p=(a%p)%p:=by rw[Nat.mul_one]
  have hi1:a%p*0%p=p%p:=by rw[Nat.mul_zero,Nat.mod_self,Nat.zero_mod]
  have hval:∀r,r<p→a%p*r%p=1%p→r=a^(p-2)%p:=by
   intro r hr h
   rw[Nat.mod_mul_mod,Nat.mod_eq_of_lt hp1]at h
   rw[← LY h,Nat.mod_eq_of_lt hr]
  generalize a^(p-2)%p=R at *
  generalize a%p=A at *
  clear hb hz0
  repeat (first|(refine cM ?_;intro _)|refine pD ?_|refine Z81 fun _=>?_|refine Z82 fun _=>?_)
  rename_i b1 b2 b3 b4 b5 b6 b7
  refine az (ι:=(Nat×Nat)×(Nat×Nat)) (fun q=>(0<q.1.1∧q.1.1≤p∧q.2.1<p∧A*q.2.1%p=q.1.1%p)∧(0<q.1.2∧q.1.2≤p∧q.2.2<p∧A*q.2.2%p=q.1.2%p)∧Nat.gcd q.1.1 q.1.2=1)
   (fun _=>[(2,pt b2 0),(3,pt b3 0),(4,pt b4 0),(5,pt b5 0),(6,pt b6 0),(7,pt b7 0)])
   (fun q=>[.blk b2 (LV .u64 (List.replicate 6 0)) 32,.blk b3 (LV .u64 (D 6 q.1.1)) 32,.blk b4 (LV .u64 (D 6 q.1.2)) 32,.blk b5 (LV .u64 (D 6 q.2.1)) 32,.blk b6 (LV .u64 (D 6 q.2.2)) 32,.blk b7 (LV .u64 (D 6 1)) 32]) (fun q=>q.1.1+q.1.2) ((A,p),(1,0))
   ⟨⟨hA0,Nat.le_of_lt hAp,hp1,hi0⟩,⟨hp0,Nat.le_refl p,hp0,hi1⟩,hg0⟩ sbq sw ?_
  rintro⟨⟨u,v⟩,⟨x,y⟩⟩ ⟨⟨hu0,hu,hx,hux⟩,⟨hv0,hv,hy,hvy⟩,hg⟩
  simp only at hu0 hu hx hux hv0 hv hy hvy hg ⊢
  have huW:u<W^6:=by omega
  have hvW:v<W^6:=by omega
  repeat (first|(refine ax (by rfl) (by rfl) (by rfl) (sW u x A b3 b5 hu0 huW hx hux) (.cons fd (.cons fd .nil)) (fun _ _=>trivial) (by rfl) ?_;rintro _ _ ⟨rfl,u1,x1,rfl,hd1,ho1,hx1,hux1⟩)|(refine ax (by rfl) (by rfl) (by rfl) (sW v y A b4 b6 hv0 hvW hy hvy) (.cons fd (.cons fd .nil)) (fun _ _=>trivial) (by rfl) ?_;rintro _ _ ⟨rfl,v1,y1,rfl,hd2,ho2,hy1,hvy1⟩)|refine pD ?_|refine Z81 fun _=>?_|refine Z82 fun _=>?_)
  have hg1:=LJ hg hd1 hd2
  have hu1:=Nat.le_of_dvd hu0 hd1
  have hv1:=Nat.le_of_dvd hv0 hd2
  have huW1:u1<W^6:=by omega
  have hvW1:v1<W^6:=by omega
  have hz1:=wD huW1 (show 1<W^6 by decide)
  have hz2:=wD hvW1 (show 1<W^6 by decide)
  clear hux hvy hd1 hd2 hg
  have hlx1:=hl0 x1
  have hly1:=hl0 y1
  have hlu1:=hl0 u1
  have hlv1:=hl0 v1
  refine an (by rfl) (fun hb=>?_) (fun hb=>?_)
  ·rw[hz1]at hb
   have hr:=hval x1 hx1 (by rw[hux1,hb])
   repeat (first|refine pD ?_|refine Z81 fun _=>?_|refine Z82 fun _=>?_)
   refine Zec fun _ hw=>aa hw SubW.nil ⟨?_,rfl⟩
   rw[hr]
  rw[hz1]at hb
  repeat (first|refine pD ?_|refine Z81 fun _=>?_|refine Z82 fun _=>?_)
  refine an (by rfl) (fun hb2=>?_) (fun hb2=>?_)
  ·rw[hz2]at hb2
   have hr:=hval y1 hy1 (by rw[hvy1,hb2])
   repeat (first|refine pD ?_|refine Z81 fun _=>?_|refine Z82 fun _=>?_)
   refine Zec fun _ hw=>aa hw SubW.nil ⟨?_,rfl⟩
   rw[hr]
  rw[hz2]at hb2
  have hne:u1≠v1:=by
   rintro rfl
   rw[Nat.gcd_self]at hg1
   exact hb hg1
  have hp1:=dv 6 u1
  have hp2:=dv 6 v1
  by_cases hlt:u1<v1
  ·have q1:0<u1:=by omega
   have q2:u1≤p:=by omega
   have q3:0<v1-u1:=by omega
   have q4:v1-u1≤p:=by omega
   have ho:vH (V (D 6 u1)) (V (D 6 v1)) = -1:=by rw[eU huW1,eU hvW1];exact pU hlt
   repeat (first|refine pD ?_|refine Z81 fun _=>?_|refine Z82 fun _=>?_)
   refine au (by rfl) ?_
   repeat (first|refine DG ?_|(refine Zqp (by intro _ _ _;(refine af (by rfl) (by rfl) (by rfl) (mA _ _ (D 6 u1) (D 6 v1) hp1 hp2 (by omega) (by omega)) (fun w hw=>⟨RdW.arrAll (m:=6) fd hlu1 w hw,RdW.arrAll (m:=6) fd hlv1 w hw⟩) (by rfl) ?_;rw[ho]);exact Zq) ?_)|refine uy ?_)
   refine Zq0 ?_ (by kernel_rfl)
   rw[show decide (Int.ofNat 0 ≤ -1)=false from by decide]
   repeat (first|refine pD ?_|refine Z81 fun _=>?_|refine Z82 fun _=>?_)
   refine au (by rfl) ?_
   repeat (first|refine DG ?_|refine bT (mR hvW1 (Nat.le_of_lt hlt)) ?_|refine bT (ow (Nat.lt_trans hy1 hpl) (Nat.lt_trans hx1 hpl)) ?_|refine uy ?_)
   refine Zq0 ?_ (by kernel_rfl)
   repeat (first|refine pD ?_|refine Z81 fun _=>?_|refine Z82 fun _=>?_)
   exact ao ((u1,v1-u1),(x1,(y1+(p-x1%p)%p)%p)) ⟨⟨q1,q2,hx1,hux1⟩,⟨q3,q4,Nat.mod_lt _ hp0,Dc hvy1 hux1 (Nat.le_of_lt hlt)⟩,Hw hg1 (Nat.le_of_lt hlt)⟩ (by simp only;omega) sbq sw
  ·have q1:0<v1:=by omega
   have q2:v1≤p:=by omega
   have q3:0<u1-v1:=by omega
   have q4:u1-v1≤p:=by omega
   have ho:vH (V (D 6 u1)) (V (D 6 v1))=1:=by rw[eU huW1,eU hvW1];exact pT (by omega)
   repeat (first|refine pD ?_|refine Z81 fun _=>?_|refine Z82 fun _=>?_)
   refine au (by rfl) ?_
   repeat (first|refine DG ?_|(refine Zqp (by intro _ _ _;(refine af (by rfl) (by rfl) (by rfl) (mA _ _ (D 6 u1) (D 6 v1) hp1 hp2 (by omega) (by omega)) (fun w hw=>⟨RdW.arrAll (m:=6) fd hlu1 w hw,RdW.arrAll (m:=6) fd hlv1 w hw⟩) (by rfl) ?_;rw[ho]);exact Zq) ?_)|refine uy ?_)
   refine Zq0 ?_ (by kernel_rfl)
   rw[show decide ((0:Nat)≤1)=true from by decide]
   repeat (first|refine pD ?_|refine Z81 fun _=>?_|refine Z82 fun _=>?_)
   refine au (by rfl) ?_
   repeat (first|refine DG ?_|refine bT (mR huW1 (Nat.le_of_not_lt hlt)) ?_|refine bT (ow (Nat.lt_trans hx1 hpl) (Nat.lt_trans hy1 hpl)) ?_|refine uy ?_)
   refine Zq0 ?_ (by kernel_rfl)
   repeat (first|refine pD ?_|refine Z81 fun _=>?_|refine Z82 fun _=>?_)
   exact ao ((u1-v1,v1),((x1+(p-y1%p)%p)%p,y1)) ⟨⟨q3,q4,Nat.mod_lt _ hp0,Dc hux1 hvy1 (Nat.le_of_not_lt hlt)⟩,⟨q1,q2,hy1,hvy1⟩,xq hg1 (Nat.le_of_not_lt hlt)⟩ (by simp only;omega) sbq sw
abbrev Fq:=Fin p
abbrev kp(a:Nat):Fq:=Kf.κ p a
theorem dy(x:Fq):kp x.val=x:=Kf.iO x
theorem ap(x:Fq):x.val<W^6:=Nat.lt_trans x.isLt lS
theorem p_3:Kf.P3 p:=⟨fe,by decide +kernel⟩
theorem L1(a b:Nat):(a+b)%p=(kp a+kp b).val:=by rw[← Kf.fO,Kf.dP]
theorem L3(a b:Nat):a*b%p=(kp a*kp b).val:=by rw[← Kf.gr,Kf.dP]
theorem L4(a:Nat):(p-a%p)%p=(- kp a).val:=by rw[← Kf.dP (n:=p),Kf.wy (Nat.le_of_lt (Nat.mod_lt _ bZ)),Kf.mh]
theorem L5(a b:Nat):(a+(p-b%p)%p)%p=(kp a-kp b).val:=by
 rw[← Kf.dP (n:=p),Kf.fO,Kf.mh,Kf.wy (Nat.le_of_lt (Nat.mod_lt _ bZ)),Kf.mh]
 exact congrArg Fin.val (by grind)
theorem mO(a e:Nat):a^e%p=(kp a^e).val:=by rw[← Kf.wA,Kf.dP]
theorem L2(a:Nat):a^(p-2)%p=(Kf.inv (kp a)).val:=by rw[mO];rfl
theorem dg{a:Nat}(ha:a<W^6):Spec Tryz.prog 98 [LV .u64 (D 6 a)] ai [] (IsV (LV .u64 (D 6 (kp a).val))):=bS ha
theorem gJ{a b:Nat}(ha:a<W^6)(hb:b<W^6):Spec Tryz.prog 49 [LV .u64 (D 6 a),LV .u64 (D 6 b)] ai [] (IsV (LV .u64 (D 6 (kp a+kp b).val))):=by
 rw[← L1];exact tE ha hb
theorem dH{a b:Nat}(ha:a<W^6)(hb:b<W^6):Spec Tryz.prog 50 [LV .u64 (D 6 a),LV .u64 (D 6 b)] ai [] (IsV (LV .u64 (D 6 (kp a*kp b).val))):=by
 rw[← L3];exact EQ ha hb
theorem kL{a b:Nat}(ha:a<W^6)(hb:b<W^6):Spec Tryz.prog 113 [LV .u64 (D 6 a),LV .u64 (D 6 b)] ai [] (IsV (LV .u64 (D 6 (kp a-kp b).val))):=by
 rw[← L5];exact ow ha hb
theorem gL{a:Nat}(ha:a<W^6):Spec Tryz.prog 52 [LV .u64 (D 6 a)] ai [] (IsV (LV .u64 (D 6 (- kp a).val))):=by
 rw[← L4];exact tH ha
theorem Ew{a:Nat}(ha:a<W^6):Spec Tryz.prog 111 [LV .u64 (D 6 a)] ai [] (IsV (LV .u64 (D 6 (Kf.inv (kp a)).val))):=by
 rw[← L2];exact EP ha
theorem Ey{a:Nat}(ha:a<W^6)(s:Value)(xs:List Nat)(hx:Lt 18446744073709551616 xs)(hl:xs.length<65536):
  Spec Tryz.prog 95 [LV .u64 (D 6 a),s] (fun w=>Rd w s (xs.map (N .u64))) [] (IsV (LV .u64 (D 6 (kp a^V xs).val))):=by
 rw[← mO];exact ER ha s xs hx hl
theorem gX(x y:Fq):Spec Tryz.prog 49 [LV .u64 (D 6 x.val),LV .u64 (D 6 y.val)] ai [] (IsV (LV .u64 (D 6 (x+y).val))):=by
 have:=gJ (ap x) (ap y);rwa [dy,dy]at this
theorem dx(x y:Fq):Spec Tryz.prog 50 [LV .u64 (D 6 x.val),LV .u64 (D 6 y.val)] ai [] (IsV (LV .u64 (D 6 (x*y).val))):=by
 have:=dH (ap x) (ap y);rwa [dy,dy]at this
theorem lM(x y:Fq):Spec Tryz.prog 113 [LV .u64 (D 6 x.val),LV .u64 (D 6 y.val)] ai [] (IsV (LV .u64 (D 6 (x-y).val))):=by
 have:=kL (ap x) (ap y);rwa [dy,dy]at this
theorem jo(x:Fq):Spec Tryz.prog 52 [LV .u64 (D 6 x.val)] ai [] (IsV (LV .u64 (D 6 (-x).val))):=by
 have:=gL (ap x);rwa [dy]at this
theorem lK(x:Fq):Spec Tryz.prog 111 [LV .u64 (D 6 x.val)] ai [] (IsV (LV .u64 (D 6 (Kf.inv x).val))):=by
 have:=Ew (ap x);rwa [dy]at this
theorem Aq(x:Fq):Spec Tryz.prog 98 [LV .u64 (D 6 x.val)] ai [] (IsV (LV .u64 (D 6 x.val))):=by
 have:=dg (ap x);rwa [dy]at this
theorem gQ(x y:Fq):(D 6 x.val=D 6 y.val)=(x=y):=by rw[wD (ap x) (ap y)];exact propext ⟨Fin.ext,fun h=>h ▸ rfl⟩
theorem Dm:(0:Fq).val=0:=rfl
theorem z6:List.replicate 6 0=D 6 (0:Fq).val:=by rw[Dm,nS]
theorem yf:([17185665809301629611,552535377879302143,15693976698673184137,15644892545385841839,10576397981472451381,468449654411884966]:List Nat)=D 6 ((p+1)/4):=by decide +kernel
theorem lL{a:Nat}(ha:a<W^6):Spec Tryz.prog 97 [LV .u64 (D 6 a)] ai [] (IsV (N .i64 (Kf.sg (kp a)))):=by
 refine ad Tryz.func97 rfl rfl rfl fun w _=>?_
 have hl0:=fun x=>ae 6 x
 have hla:=hl0 (kp a).val
 have hb:=vp (ap (kp a))
 repeat (first|refine y_4 (dg ha) ?_|rw[hb]|refine Z02 ?_|refine Z03 ?_|refine Z04 ?_|refine Z05 ?_|refine Z06 ?_|refine Z07 ?_|refine Z08 ?_|refine Z09 ?_|refine Z10 ?_|refine Z11 ?_|refine Z12 ?_|refine Z13 ?_|refine Z14 ?_|refine Z24 ?_|refine Z26 ?_|refine Z27 ?_|refine Z40 ?_|refine Z44 ?_|refine Z45 ?_|refine Z57 ?_|refine Z67 ?_|refine Z74 ?_|refine Z81 fun _=>?_)
 refine Ze1 fun _ hw=>aa hw SubW.nil ⟨?_,rfl⟩
 rfl
theorem vT:Spec Tryz.prog 94 [] ai [] (IsV (LV .u64 (D 6 ((p+1)/4)))):=by
 refine ad Tryz.func94 rfl rfl rfl fun w _=>?_
 repeat (first|(refine cM ?_;intro _)|refine bk (kk:=.u64) (vs:=[17185665809301629611,552535377879302143,15693976698673184137,15644892545385841839,10576397981472451381,468449654411884966]) (by rfl) (by rfl) (by rfl) (by rfl) (by rfl) (by rfl) (by rfl) (by rfl) ?_|refine Z03 ?_|refine Z04 ?_|refine Z05 ?_|refine Z06 ?_|refine Z07 ?_|refine Z08 ?_|refine Z09 ?_|refine Z10 ?_|refine Z11 ?_|refine Z12 ?_|refine Z13 ?_|refine Z14 ?_|refine Z29 ?_|refine Z30 ?_|refine Z31 ?_|refine Z32 ?_|refine Z82 fun _=>?_)
 refine Zec fun _ hw=>aa hw SubW.nil ⟨?_,rfl⟩
 rw[← yf];rfl
theorem TH{a b:Prop}(k:b)(h:Rm b→a:=by intro k;(first|refine Z03 ?_|refine Z04 ?_|refine Z05 ?_|refine Z06 ?_|refine Z07 ?_|refine Z08 ?_|refine Z09 ?_|refine Z10 ?_|refine Z11 ?_|refine Z12 ?_|refine Z13 ?_|refine Z14 ?_|refine Z17 ?_|refine Z18 ?_|refine Z24 ?_|refine Z26 ?_|refine Z27 ?_|refine Z29 ?_|refine Z30 ?_|refine Z31 ?_|refine Z32 ?_|refine Z67 ?_);exact k.h):a:=h ⟨k⟩
theorem GU(x:Fq):Spec Tryz.prog 96 [LV .u64 (D 6 x.val)] ai [] (IsV (LV .u64 (D 6 (Kf.evn x).val))):=by
 refine ad Tryz.func96 rfl rfl rfl fun w _=>?_
 have hl0:=fun x=>ae 6 x
 have hs:=lL (ap x)
 rw[dy]at hs
 repeat (first|(refine cM ?_;intro _)|refine y_4 hs ?_|refine TH ?_|refine Z81 fun _=>?_|refine Z82 fun _=>?_)
 refine an (by rfl) (fun h=>?_) (fun h=>?_)
 ·have he:Kf.evn x = -x:=if_pos h
  repeat (first|refine y_4 (jo x) ?_|refine TH ?_|refine Z81 fun _=>?_|refine Z82 fun _=>?_)
  refine Zec fun _ hw=>aa hw SubW.nil ⟨?_,rfl⟩
  rw[he]
 ·have he:Kf.evn x=x:=if_neg h
  repeat (first|refine TH ?_|refine Z81 fun _=>?_|refine Z82 fun _=>?_)
  refine Zec fun _ hw=>aa hw SubW.nil ⟨?_,rfl⟩
  rw[he]
theorem Vx(a:Nat):kp a^V (D 6 ((p+1)/4))=Kf.rt (kp a):=by
 rw[eU (by have:=lS;omega)];rfl
theorem ip{a b:Prop}(k:b)(h:Rm b→a:=by intro k;refine R.Zpb (by rfl) (by intro _ _ _;refine ar (v:=LV .u64 (List.replicate 6 0)) (by rfl) (by rfl) fun _=>?_;exact R.eN) ?_;exact k.h):a:=h ⟨k⟩
theorem aV{a b:Prop}(k:b)(h:Rm b→a:=by intro k;refine R.Zpn (by rfl) (by intro _ _ _;(first|refine Z81 fun _=>?_|refine Z82 fun _=>?_);exact R.Zpx) ?_;exact k.h):a:=h ⟨k⟩
theorem TI{a b:Prop}(k:b)(h:Rm b→a:=by intro k;(first|refine Z01 ?_|refine Z02 ?_|refine Z03 ?_|refine Z04 ?_|refine Z05 ?_|refine Z06 ?_|refine Z07 ?_|refine Z08 ?_|refine Z09 ?_|refine Z10 ?_|refine Z11 ?_|refine Z12 ?_|refine Z13 ?_|refine Z14 ?_|refine Z24 ?_|refine Z26 ?_|refine Z27 ?_|refine Z29 ?_|refine Z30 ?_|refine Z31 ?_|refine Z32 ?_|refine Z62 ?_|refine Z63 ?_|refine Z67 ?_|refine Z77 ?_|refine Z78 ?_|refine Z79 ?_);exact k.h):a:=h ⟨k⟩
theorem uw{a b:Prop}(k:b)(h:Rm b→a:=by intro k;refine R.Zpp (by rfl) (by intro _ _ _;(first|refine WD ?_);exact Zq) ?_;exact k.h):a:=h ⟨k⟩
theorem Ar{a:Nat}(ha:a<W^6):Spec Tryz.prog 48 [LV .u64 (D 6 a)] ai [] (IsV (.tuple [LV .u64 (D 6 (Kf.K2.fsq (kp a)).1.val),.bool (Kf.K2.fsq (kp a)).2].toArray)):=by
 refine ad Tryz.func48 rfl rfl rfl fun w _=>?_
 have hl0:=fun x=>ae 6 x
 have hlq:=hl0 ((p+1)/4)
 have hpw:=fun s=>Ey ha s (D 6 ((p+1)/4)) (dv _ _) (by omega)
 rw[Vx]at hpw
 repeat (first|(refine cM ?_;intro _)|refine af (by rfl) (by rfl) (by rfl) (vT) (fun _ _=>trivial) (by rfl) ?_|refine Z01 ?_|refine Z02 ?_|refine Z03 ?_|refine Z04 ?_|refine Z05 ?_|refine Z06 ?_|refine Z07 ?_|refine Z08 ?_|refine Z09 ?_|refine Z10 ?_|refine Z11 ?_|refine Z12 ?_|refine Z13 ?_|refine Z14 ?_|refine Z24 ?_|refine Z26 ?_|refine Z27 ?_|refine Z29 ?_|refine Z30 ?_|refine Z31 ?_|refine Z32 ?_|refine Z62 ?_|refine Z63 ?_|refine Z67 ?_|refine Z77 ?_|refine Z78 ?_|refine Z79 ?_|refine Z81 fun _=>?_|refine Z82 fun _=>?_)
 refine R.ag [0,1,2,3,4] (by rfl) ?_
 repeat (first|(refine R.Zpf (by rfl) (by intro _ _ _;(first|refine Z01 ?_|refine Z02 ?_|refine Z62 ?_|refine Z63 ?_|refine Z77 ?_|refine Z78 ?_|refine Z79 ?_);exact Zq) ?_)|refine uw ?_|(refine R.Zpp (by rfl) (by intro _ _ _;refine af (by rfl) (by rfl) (by rfl) (hpw _) (RdW.arrAll (m:=6) fd hlq) (by rfl) ?_;exact Zq) ?_)|refine aA ?_|(refine ip ?_;intro _)|(refine aV ?_;intro _))
 refine R.Zp0 ?_
 repeat (first|refine TI ?_|refine Z81 fun _=>?_|refine Z82 fun _=>?_)
 refine au (by rfl) ?_
 repeat (first|(refine Zqf (by intro _ _ _;(first|refine Z01 ?_|refine Z02 ?_|refine Z62 ?_|refine Z63 ?_|refine Z77 ?_|refine Z78 ?_|refine Z79 ?_);exact Zq) ?_)|refine bT (dx (Kf.rt (kp a)) (Kf.rt (kp a))) ?_|refine bT (dg ha) ?_|refine uy ?_)
 refine Zq0 ?_ (by kernel_rfl)
 repeat (first|refine TI ?_|refine Z81 fun _=>?_|refine Z82 fun _=>?_)
 by_cases h2:Kf.rt (kp a)*Kf.rt (kp a)=kp a
 ·have hq:Kf.K2.fsq (kp a)=(Kf.evn (Kf.rt (kp a)),true):=if_pos h2
  have hb:(!decide (D 6 (Kf.rt (kp a)*Kf.rt (kp a)).val=D 6 (kp a).val))=false:=by rw[h2];simp
  rw[hq,hb]
  have hle:=hl0 (Kf.evn (Kf.rt (kp a))).val
  repeat (first|refine y_4 (GU (Kf.rt (kp a))) ?_|refine TI ?_|refine Z81 fun _=>?_|refine Z82 fun _=>?_)
  refine aJ (by rfl) (by rfl) (by rfl) fd (by rfl) (by rfl) (by first | with_reducible assumption | (simp[*];done)) fun _ hw=>aa hw SubW.nil ⟨?_,rfl⟩
  rfl
 ·have hq:Kf.K2.fsq (kp a)=(0,false):=if_neg h2
  have hb:(!decide (D 6 (Kf.rt (kp a)*Kf.rt (kp a)).val=D 6 (kp a).val))=true:=by simp[gQ,h2]
  rw[hq,hb]
  repeat (first|refine WC ?_|refine Z01 ?_|refine Z02 ?_|refine Z03 ?_|refine Z04 ?_|refine Z05 ?_|refine Z06 ?_|refine Z07 ?_|refine Z08 ?_|refine Z09 ?_|refine Z10 ?_|refine Z11 ?_|refine Z12 ?_|refine Z13 ?_|refine Z14 ?_|refine Z24 ?_|refine Z26 ?_|refine Z27 ?_|refine Z29 ?_|refine Z30 ?_|refine Z31 ?_|refine Z32 ?_|refine Z62 ?_|refine Z63 ?_|refine Z67 ?_|refine Z77 ?_|refine Z78 ?_|refine Z79 ?_|refine Z81 fun _=>?_|refine Z82 fun _=>?_)
  refine aJ (by rfl) (by rfl) (by rfl) fd (by rfl) (by rfl) (by first | with_reducible assumption | (simp[*];done)) fun _ hw=>aa hw SubW.nil ⟨?_,rfl⟩
  rfl
theorem Iz(A B:Nat):decide (Int.ofNat 0<vH A B)=decide (B<A):=by
 rcases Nat.lt_trichotomy A B with h | h | h
 ·rw[pU h,decide_eq_false (by omega:¬B<A)];rfl
 ·rw[vI h,decide_eq_false (by omega:¬B<A)];rfl
 ·rw[pT h,decide_eq_true h];rfl
theorem TJ{a b:Prop}(k:b)(h:Rm b→a:=by intro k;(first|refine Z02 ?_|refine Z03 ?_|refine Z04 ?_|refine Z05 ?_|refine Z06 ?_|refine Z07 ?_|refine Z08 ?_|refine Z09 ?_|refine Z10 ?_|refine Z11 ?_|refine Z12 ?_|refine Z13 ?_|refine Z14 ?_|refine Z17 ?_|refine Z18 ?_|refine Z24 ?_|refine Z26 ?_|refine Z27 ?_|refine Z29 ?_|refine Z30 ?_|refine Z31 ?_|refine Z32 ?_|refine Z62 ?_|refine Z63 ?_|refine Z67 ?_);exact k.h):a:=h ⟨k⟩
theorem TK{a b:Prop}(k:b)(h:Rm b→a:=by intro k;(first|refine Z02 ?_|refine Z17 ?_|refine Z18 ?_|refine Z62 ?_|refine Z63 ?_);exact k.h):a:=h ⟨k⟩
theorem nY{a:Nat}(ha:a<W^6):Spec Tryz.prog 51 [LV .u64 (D 6 a)] ai [] (IsV (.bool (decide ((- kp a).val<(kp a).val)))):=by
 refine ad Tryz.func51 rfl rfl rfl fun w _=>?_
 have hl0:=fun x=>ae 6 x
 have hlx:=hl0 (kp a).val
 have hly:=hl0 (- kp a).val
 have hv1:=eU (ap (kp a))
 have hv2:=eU (ap (- kp a))
 repeat (first|(refine cM ?_;intro _)|refine TJ ?_|refine Z81 fun _=>?_|refine Z82 fun _=>?_)
 refine R.ag [0,1,2,3,4,5,6,7] (by rfl) ?_
 repeat (first|(refine R.Zpf (by rfl) (by intro _ _ _;(first|refine TK ?_);exact Zq) ?_)|refine uw ?_|refine ah (dg ha) ?_|refine ah (gL ha) ?_|refine aA ?_|(refine R.pz (by rfl) (by rfl) (by intro _ _ _;refine ar (v:=LV .u64 (List.replicate 6 0)) (by rfl) (by rfl) fun _=>?_;exact R.eN) (by intro _ _ _;refine ar (v:=LV .u64 (List.replicate 6 0)) (by rfl) (by rfl) fun _=>?_;exact R.eN) (fun _=>?_) (fun _=>?_))|(refine ip ?_;intro _)|(refine aV ?_;intro _))
 all_goals
  repeat (first|(refine R.Zpf (by rfl) (by intro _ _ _;(first|refine TK ?_);exact Zq) ?_)|refine uw ?_|refine ah (dg ha) ?_|refine ah (gL ha) ?_|refine aA ?_|(refine R.pz (by rfl) (by rfl) (by intro _ _ _;refine ar (v:=LV .u64 (List.replicate 6 0)) (by rfl) (by rfl) fun _=>?_;exact R.eN) (by intro _ _ _;refine ar (v:=LV .u64 (List.replicate 6 0)) (by rfl) (by rfl) fun _=>?_;exact R.eN) (fun _=>?_) (fun _=>?_))|(refine ip ?_;intro _)|(refine aV ?_;intro _))
 all_goals refine R.Zp0 ?_
 all_goals
  repeat (first|refine TJ ?_|refine Z81 fun _=>?_|refine Z82 fun _=>?_)
  refine au (by rfl) ?_
  repeat (first|(refine Zqf (by intro _ _ _;(first|refine TK ?_);exact Zq) ?_)|(refine Zqp (by intro _ _ _;(refine af (by rfl) (by rfl) (by rfl) (mA _ _ (D 6 (kp a).val) (D 6 (- kp a).val) (dv _ _) (dv _ _) (by omega) (by omega)) (fun w hw=>⟨RdW.arrAll (m:=6) fd hlx w hw,RdW.arrAll (m:=6) fd hly w hw⟩) (by rfl) ?_;rw[hv1,hv2]);exact Zq) ?_)|refine uy ?_)
  refine Zq0 ?_ (by kernel_rfl)
  rw[Iz]
  repeat (first|refine TJ ?_|refine Z81 fun _=>?_|refine Z82 fun _=>?_)
  refine Ze1 fun _ hw=>aa hw SubW.nil ⟨?_,rfl⟩
  rfl
end
section
attribute [local irreducible] Code.wp wpList Af bodyPost L.Go ab
open Num
attribute [local simp] ae
abbrev F2:=Kf.K2 p
abbrev k2(a b:Nat):F2:=⟨kp a,kp b⟩
abbrev E2(x:F2):List Nat:=D 6 x.re.val++D 6 x.im.val
theorem br(x:F2):k2 x.re.val x.im.val=x:=by unfold k2;rw[dy,dy]
theorem ak(x:F2):(E2 x).length=12:=by simp
theorem bG{a b:Prop}(k:b)(h:Rm b→a:=by intro k;refine ar (v:=LV .u64 (List.replicate 12 0)) (by rfl) (by rfl) ?_;exact k.h):a:=h ⟨k⟩
theorem bI{a b:Prop}(k:b)(h:Rm b→a:=by intro k;refine oH (by rfl) (by first | exact(show _=some (0,6)from rfl) | exact(show _=some (6,6)from rfl) | exact(show _=some (0,12)from rfl) | exact(show _=some (12,12)from rfl) | exact(show _=some (24,1)from rfl)) (by rfl) (by rfl) ?_;exact k.h):a:=h ⟨k⟩
theorem eO{a b:Prop}(k:b)(h:Rm b→a:=by intro k;refine cC (by rfl) (by rfl) (by rfl) (by rfl) (by simp;done) (by simp;done) (by rfl) ?_;exact k.h):a:=h ⟨k⟩
theorem nQ{a b:Prop}(k:b)(h:Rm b→a:=by intro k;refine Zqp (by intro _ _ _;(refine bH (by rfl) fd (by rfl) (by rfl) (by first | (refine ab.l ?_;(simp;done)) | (refine ab.r ?_ ?_ <;> (simp;done)) | (refine ab.all ?_;(simp;done))) (by rfl) ?_);exact Zq) ?_;exact k.h):a:=h ⟨k⟩
theorem V6{a b:Prop}(k:b)(h:Rm b→a:=by intro k;(first|refine bI ?_|refine eO ?_);exact k.h):a:=h ⟨k⟩
theorem Wh{a b:Prop}(k:b)(h:Rm b→a:=by intro k;refine Zqf (by intro _ _ _;(first|refine V6 ?_);exact Zq) ?_;exact k.h):a:=h ⟨k⟩
theorem sA{a b:Prop}(k:b)(h:Rm b→a:=by intro k;(first|refine Wh ?_|refine nQ ?_);exact k.h):a:=h ⟨k⟩
theorem kU{a b:Nat}(ha:a<W^6)(hb:b<W^6):Spec Tryz.prog 108 [LV .u64 (D 6 a++D 6 b)] ai [] (IsV (LV .u64 (E2 (k2 a b)))):=by
 refine ad Tryz.func108 rfl rfl rfl fun w _=>?_
 have hl0:=fun x=>ae 6 x
 repeat (first|(refine bG ?_;intro _)|refine bW ?_|refine Z81 fun _=>?_|refine Z82 fun _=>?_)
 refine au (by rfl) ?_
 repeat (first|refine sA ?_|refine bT (dg ha) ?_|refine bT (dg hb) ?_|refine fw ?_)
 refine Zq0 ?_ (by kernel_rfl)
 repeat (first|refine bW ?_|refine Z81 fun _=>?_|refine Z82 fun _=>?_)
 refine Zec fun _ hw=>aa hw SubW.nil ⟨?_,rfl⟩
 rfl
theorem Fc{a b e f:Nat}(ha:a<W^6)(hb:b<W^6)(he:e<W^6)(hf:f<W^6):Spec Tryz.prog 56 [LV .u64 (D 6 a++D 6 b),LV .u64 (D 6 e++D 6 f)] ai [] (IsV (LV .u64 (E2 (Kf.K2.add (k2 a b) (k2 e f))))):=by
 refine ad Tryz.func56 rfl rfl rfl fun w _=>?_
 have hl0:=fun x=>ae 6 x
 repeat (first|(refine bG ?_;intro _)|refine bW ?_|refine Z81 fun _=>?_|refine Z82 fun _=>?_)
 refine au (by rfl) ?_
 repeat (first|refine sA ?_|refine bT (gJ ha he) ?_|refine bT (gJ hb hf) ?_|refine fw ?_)
 refine Zq0 ?_ (by kernel_rfl)
 repeat (first|refine bW ?_|refine Z81 fun _=>?_|refine Z82 fun _=>?_)
 refine Zec fun _ hw=>aa hw SubW.nil ⟨?_,rfl⟩
 rfl
theorem tR{a b:Nat}(ha:a<W^6)(hb:b<W^6):Spec Tryz.prog 59 [LV .u64 (D 6 a++D 6 b)] ai [] (IsV (LV .u64 (E2 (Kf.K2.neg (k2 a b))))):=by
 refine ad Tryz.func59 rfl rfl rfl fun w _=>?_
 have hl0:=fun x=>ae 6 x
 repeat (first|(refine bG ?_;intro _)|refine bW ?_|refine Z81 fun _=>?_|refine Z82 fun _=>?_)
 refine au (by rfl) ?_
 repeat (first|refine sA ?_|refine bT (gL ha) ?_|refine bT (gL hb) ?_|refine fw ?_)
 refine Zq0 ?_ (by kernel_rfl)
 repeat (first|refine bW ?_|refine Z81 fun _=>?_|refine Z82 fun _=>?_)
 refine Zec fun _ hw=>aa hw SubW.nil ⟨?_,rfl⟩
 rfl
theorem Fl{a b e f:Nat}(ha:a<W^6)(hb:b<W^6)(he:e<W^6)(hf:f<W^6):Spec Tryz.prog 63 [LV .u64 (D 6 a++D 6 b),LV .u64 (D 6 e++D 6 f)] ai [] (IsV (LV .u64 (E2 (Kf.K2.sub (k2 a b) (k2 e f))))):=by
 refine ad Tryz.func63 rfl rfl rfl fun w _=>?_
 have hl0:=fun x=>ae 6 x
 repeat (first|(refine bG ?_;intro _)|refine bW ?_|refine Z81 fun _=>?_|refine Z82 fun _=>?_)
 refine au (by rfl) ?_
 repeat (first|refine sA ?_|refine bT (kL ha he) ?_|refine bT (kL hb hf) ?_|refine fw ?_)
 refine Zq0 ?_ (by kernel_rfl)
 repeat (first|refine bW ?_|refine Z81 fun _=>?_|refine Z82 fun _=>?_)
 refine Zec fun _ hw=>aa hw SubW.nil ⟨?_,rfl⟩
 rfl
theorem JP{a b:Nat}(ha:a<W^6)(hb:b<W^6):Spec Tryz.prog 165 [LV .u64 (D 6 a++D 6 b)] ai [] (IsV (LV .u64 (E2 ⟨kp a-kp b,kp a+kp b⟩))):=by
 refine ad Tryz.func165 rfl rfl rfl fun w _=>?_
 have hl0:=fun x=>ae 6 x
 repeat (first|(refine bG ?_;intro _)|refine bW ?_|refine Z81 fun _=>?_|refine Z82 fun _=>?_)
 refine au (by rfl) ?_
 repeat (first|refine sA ?_|refine bT (kL ha hb) ?_|refine bT (gJ ha hb) ?_|refine fw ?_)
 refine Zq0 ?_ (by kernel_rfl)
 repeat (first|refine bW ?_|refine Z81 fun _=>?_|refine Z82 fun _=>?_)
 refine Zec fun _ hw=>aa hw SubW.nil ⟨?_,rfl⟩
 rfl
theorem rJ{a b:Nat}(ha:a<W^6)(hb:b<W^6):Spec Tryz.prog 118 [LV .u64 (D 6 a++D 6 b)] ai [] (IsV (LV .u64 (E2 (Kf.K2.conj (k2 a b))))):=by
 refine ad Tryz.func118 rfl rfl rfl fun w _=>?_
 have hl0:=fun x=>ae 6 x
 repeat (first|(refine bG ?_;intro _)|refine bW ?_|refine Z81 fun _=>?_|refine Z82 fun _=>?_)
 refine au (by rfl) ?_
 repeat (first|refine sA ?_|refine bT (dg ha) ?_|refine bT (gL hb) ?_|refine fw ?_)
 refine Zq0 ?_ (by kernel_rfl)
 repeat (first|refine bW ?_|refine Z81 fun _=>?_|refine Z82 fun _=>?_)
 refine Zec fun _ hw=>aa hw SubW.nil ⟨?_,rfl⟩
 rfl
theorem yD{a b e:Nat}(ha:a<W^6)(hb:b<W^6)(he:e<W^6):Spec Tryz.prog 117 [LV .u64 (D 6 a++D 6 b),LV .u64 (D 6 e)] ai [] (IsV (LV .u64 (E2 (Kf.K2.gs (k2 a b) (kp e))))):=by
 refine ad Tryz.func117 rfl rfl rfl fun w _=>?_
 have hl0:=fun x=>ae 6 x
 repeat (first|(refine bG ?_;intro _)|refine bW ?_|refine Z81 fun _=>?_|refine Z82 fun _=>?_)
 refine au (by rfl) ?_
 repeat (first|refine sA ?_|refine bT (dH ha he) ?_|refine bT (dH hb he) ?_|refine fw ?_)
 refine Zq0 ?_ (by kernel_rfl)
 repeat (first|refine bW ?_|refine Z81 fun _=>?_|refine Z82 fun _=>?_)
 refine Zec fun _ hw=>aa hw SubW.nil ⟨?_,rfl⟩
 rfl
theorem Fj(u v a b e f:Nat)(ha:a<W^6)(hb:b<W^6)(he:e<W^6)(hf:f<W^6):Spec Tryz.prog 112 [pt u 0,pt v 0] (fun w=>eM w u (LV .u64 (D 6 a++D 6 b)) 34∧eM w v (LV .u64 (D 6 e++D 6 f)) 34) [] (IsV (LV .u64 (D 6 ((kp a+kp b)*(kp e+kp f)).val))):=by
 refine ad Tryz.func112 rfl rfl rfl fun w hr=>?_
 have h1:=OldB.mk0 hr.1
 have h2:=OldB.mk0 hr.2
 have hl0:=fun x=>ae 6 x
 repeat (first|(refine cM ?_;intro _)|refine bW ?_|refine Z82 fun _=>?_)
 refine au (by rfl) ?_
 repeat (first|(refine Zqf (by intro _ _ _;(first|(refine ep (by rfl) ((h1).shift (by assumption)) (by rfl) (by rfl) (by first | (refine ab.l ?_;(simp;done)) | (refine ab.r ?_ ?_ <;> (simp;done)) | (refine ab.all ?_;(simp;done))) (by rfl) ?_)|(refine ep (by rfl) ((h2).shift (by assumption)) (by rfl) (by rfl) (by first | (refine ab.l ?_;(simp;done)) | (refine ab.r ?_ ?_ <;> (simp;done)) | (refine ab.all ?_;(simp;done))) (by rfl) ?_)|refine bI ?_);exact Zq) ?_)|refine nQ ?_|refine bT (gJ ha hb) ?_|refine bT (gJ he hf) ?_|refine bT (dx (kp a+kp b) (kp e+kp f)) ?_|refine fw ?_)
 refine Zq0 ?_ (by kernel_rfl)
 repeat (first|refine bW ?_|refine Z82 fun _=>?_)
 refine Zec fun _ hw=>aa hw SubW.nil ⟨?_,rfl⟩
 rfl
theorem zN{a b:Prop}(k:b)(h:Rm b→a:=by intro k;(first|refine Z01 ?_|refine Z02 ?_|refine Z03 ?_|refine Z04 ?_|refine Z05 ?_|refine Z06 ?_|refine Z07 ?_|refine Z08 ?_|refine Z09 ?_|refine Z10 ?_|refine Z11 ?_|refine Z12 ?_|refine Z13 ?_|refine Z14 ?_|refine Z24 ?_|refine Z26 ?_|refine Z27 ?_|refine Z29 ?_|refine Z30 ?_|refine Z31 ?_|refine Z32 ?_|refine Z48 ?_|refine Z67 ?_);exact k.h):a:=h ⟨k⟩
theorem cB{a b:Prop}(k:b)(h:Rm b→a:=by intro k;refine R.Zpp (by rfl) (by intro _ _ _;(refine bH (by rfl) fd (by rfl) (by rfl) (by first | (refine ab.l ?_;(simp;done)) | (refine ab.r ?_ ?_ <;> (simp;done)) | (refine ab.all ?_;(simp;done))) (by rfl) ?_);exact Zq) ?_;exact k.h):a:=h ⟨k⟩
theorem KF{a b:Prop}(k:b)(h:Rm b→a:=by intro k;(first|refine bI ?_|refine eO ?_|refine Z01 ?_|refine Z02 ?_|refine Z48 ?_);exact k.h):a:=h ⟨k⟩
theorem aL{a b:Prop}(k:b)(h:Rm b→a:=by intro k;refine R.Zpp (by rfl) (by intro _ _ _;(first|refine y_7 ?_);exact Zq) ?_;exact k.h):a:=h ⟨k⟩
set_option maxHeartbeats 4000000 in
theorem gP{a b e f:Nat}(ha:a<W^6)(hb:b<W^6)(he:e<W^6)(hf:f<W^6):Spec Tryz.prog 57 [LV .u64 (D 6 a++D 6 b),LV .u64 (D 6 e++D 6 f)] ai [] (IsV (LV .u64 (E2 (Kf.K2.mul (k2 a b) (k2 e f))))):=by
 refine ad Tryz.func57 rfl rfl rfl fun w _=>?_
 have hl0:=fun x=>ae 6 x
 have hmix:(kp a+kp b)*(kp e+kp f)-(kp a*kp e+kp b*kp f)=kp a*kp f+kp b*kp e:=by grind
 repeat (first|(refine bG ?_;intro _)|refine zN ?_|refine Z81 fun _=>?_|refine Z82 fun _=>?_)
 refine R.ag [0,1,2,3,4,5,6,7,8,9,10,11,12,13] (by rfl) ?_
 repeat (first|(refine R.Zpf (by rfl) (by intro _ _ _;(first|refine KF ?_);exact Zq) ?_)|refine aL ?_|refine cB ?_|refine ah (dH ha he) ?_|refine ah (dH hb hf) ?_|refine aA ?_|(refine R.pz (by rfl) (by rfl) (by intro _ _ _;refine ar (v:=LV .u64 (List.replicate 6 0)) (by rfl) (by rfl) fun _=>?_;exact R.eN) (by intro _ _ _;refine ar (v:=LV .u64 (List.replicate 6 0)) (by rfl) (by rfl) fun _=>?_;exact R.eN) (fun _=>?_) (fun _=>?_))|(refine ip ?_;intro _)|(refine aV ?_;intro _))
 all_goals
  repeat (first|(refine R.Zpf (by rfl) (by intro _ _ _;(first|refine KF ?_);exact Zq) ?_)|refine aL ?_|refine cB ?_|refine ah (dH ha he) ?_|refine ah (dH hb hf) ?_|refine aA ?_|(refine R.pz (by rfl) (by rfl) (by intro _ _ _;refine ar (v:=LV .u64 (List.replicate 6 0)) (by rfl) (by rfl) fun _=>?_;exact R.eN) (by intro _ _ _;refine ar (v:=LV .u64 (List.replicate 6 0)) (by rfl) (by rfl) fun _=>?_;exact R.eN) (fun _=>?_) (fun _=>?_))|(refine ip ?_;intro _)|(refine aV ?_;intro _))
 all_goals refine R.Zp0 ?_
 all_goals
  repeat (first|refine zN ?_|refine Z81 fun _=>?_|refine Z82 fun _=>?_)
  refine au (by rfl) ?_
  repeat (first|(refine Zqf (by intro _ _ _;(first|refine KF ?_);exact Zq) ?_)|refine nQ ?_|refine bT (lM (kp a*kp e) (kp b*kp f)) ?_|refine bT (gX (kp a*kp e) (kp b*kp f)) ?_|(refine Zqp (by intro _ _ _;refine af (by rfl) (by rfl) (by rfl) (Fj _ _ a b e f ha hb he hf) (fun w hw=>⟨eM.own fd w hw,eM.own fd w hw⟩) (by rfl) ?_;exact Zq) ?_)|(refine Zqp (by intro _ _ _;(refine af (by rfl) (by rfl) (by rfl) (lM ((kp a+kp b)*(kp e+kp f)) (kp a*kp e+kp b*kp f)) (fun _ _=>trivial) (by rfl) ?_;rw[hmix]);exact Zq) ?_)|refine fw ?_)
  refine Zq0 ?_ (by kernel_rfl)
  repeat (first|refine zN ?_|refine Z81 fun _=>?_|refine Z82 fun _=>?_)
  refine Zec fun _ hw=>aa hw SubW.nil ⟨?_,rfl⟩
  rfl
theorem aF(x y:F2):Spec Tryz.prog 57 [LV .u64 (E2 x),LV .u64 (E2 y)] ai [] (IsV (LV .u64 (E2 (Kf.K2.mul x y)))):=by
 have:=gP (ap x.re) (ap x.im) (ap y.re) (ap y.im);rwa [br,br]at this
theorem cX(x y:F2):Spec Tryz.prog 56 [LV .u64 (E2 x),LV .u64 (E2 y)] ai [] (IsV (LV .u64 (E2 (Kf.K2.add x y)))):=by
 have:=Fc (ap x.re) (ap x.im) (ap y.re) (ap y.im);rwa [br,br]at this
theorem bE(x y:F2):Spec Tryz.prog 63 [LV .u64 (E2 x),LV .u64 (E2 y)] ai [] (IsV (LV .u64 (E2 (Kf.K2.sub x y)))):=by
 have:=Fl (ap x.re) (ap x.im) (ap y.re) (ap y.im);rwa [br,br]at this
theorem o8(x:F2):Spec Tryz.prog 59 [LV .u64 (E2 x)] ai [] (IsV (LV .u64 (E2 (Kf.K2.neg x)))):=by
 have:=tR (ap x.re) (ap x.im);rwa [br]at this
theorem C2(x:F2):Spec Tryz.prog 108 [LV .u64 (E2 x)] ai [] (IsV (LV .u64 (E2 x))):=by
 have:=kU (ap x.re) (ap x.im);rwa [br]at this
theorem SI(x:F2):Spec Tryz.prog 118 [LV .u64 (E2 x)] ai [] (IsV (LV .u64 (E2 (Kf.K2.conj x)))):=by
 have:=rJ (ap x.re) (ap x.im);rwa [br]at this
theorem Xv(x:F2):Spec Tryz.prog 165 [LV .u64 (E2 x)] ai [] (IsV (LV .u64 (E2 ⟨x.re-x.im,x.re+x.im⟩))):=by
 have:=JP (ap x.re) (ap x.im);rwa [dy,dy]at this
theorem C3(x:F2)(k:Fq):Spec Tryz.prog 117 [LV .u64 (E2 x),LV .u64 (D 6 k.val)] ai [] (IsV (LV .u64 (E2 (Kf.K2.gs x k)))):=by
 have:=yD (ap x.re) (ap x.im) (ap k);rwa [br,dy]at this
theorem jW(x y:F2):(decide (D 6 x.re.val=D 6 y.re.val)&&decide (D 6 x.im.val=D 6 y.im.val))=decide (x=y):=by
 rw[← Bool.decide_and]
 refine decide_eq_decide.2 ?_
 rw[gQ,gQ]
 exact⟨fun h=>Kf.K2.ext' h.1 h.2,fun h=>h ▸ ⟨rfl,rfl⟩⟩
set_option maxHeartbeats 4000000 in
theorem Fi{a b:Nat}(ha:a<W^6)(hb:b<W^6):Spec Tryz.prog 64 [LV .u64 (D 6 a++D 6 b)] ai [] (IsV (LV .u64 (E2 (Kf.K2.inv (k2 a b))))):=by
 refine ad Tryz.func64 rfl rfl rfl fun w _=>?_
 have hl0:=fun x=>ae 6 x
 repeat (first|(refine bG ?_;intro _)|refine bW ?_|refine Z81 fun _=>?_|refine Z82 fun _=>?_)
 refine R.ag [0,1,2,3,4,5,6,7,8,9,10,11,12] (by rfl) ?_
 repeat (first|(refine R.Zpf (by rfl) (by intro _ _ _;(first|refine bI ?_);exact Zq) ?_)|refine aL ?_|refine cB ?_|refine ah (dH ha ha) ?_|refine ah (dH hb hb) ?_|refine ah (gX (kp a*kp a) (kp b*kp b)) ?_|refine aA ?_|(refine ip ?_;intro _)|(refine aV ?_;intro _))
 refine R.Zp0 ?_
 repeat (first|refine bW ?_|refine Z81 fun _=>?_|refine Z82 fun _=>?_)
 refine au (by rfl) ?_
 repeat (first|(refine Zqf (by intro _ _ _;(first|refine bI ?_);exact Zq) ?_)|refine nQ ?_|refine bT (rJ ha hb) ?_|refine bT (lK (kp a*kp a+kp b*kp b)) ?_|refine bT (C3 (Kf.K2.conj (k2 a b)) (Kf.inv (kp a*kp a+kp b*kp b))) ?_|refine fw ?_)
 refine Zq0 ?_ (by kernel_rfl)
 repeat (first|refine bW ?_|refine Z81 fun _=>?_|refine Z82 fun _=>?_)
 refine Zec fun _ hw=>aa hw SubW.nil ⟨?_,rfl⟩
 rfl
theorem kw(x:F2):Spec Tryz.prog 64 [LV .u64 (E2 x)] ai [] (IsV (LV .u64 (E2 (Kf.K2.inv x)))):=by
 have:=Fi (ap x.re) (ap x.im);rwa [br]at this
abbrev hv:Fq:=Kf.K2.hv p
theorem HF:([15924587544893707606,1105070755758604287,12941209323636816658,12843041017062132063,2706051889235351147,936899308823769933]:List Nat)=D 6 ((p+1)/2%p):=by decide +kernel
theorem qT:Spec Tryz.prog 110 [] ai [] (IsV (LV .u64 (D 6 hv.val))):=by
 refine ad Tryz.func110 rfl rfl rfl fun w _=>?_
 repeat (first|(refine cM ?_;intro _)|refine bk (kk:=.u64) (vs:=[15924587544893707606,1105070755758604287,12941209323636816658,12843041017062132063,2706051889235351147,936899308823769933]) (by rfl) (by rfl) (by rfl) (by rfl) (by rfl) (by rfl) (by rfl) (by rfl) ?_|refine Z03 ?_|refine Z04 ?_|refine Z05 ?_|refine Z06 ?_|refine Z07 ?_|refine Z08 ?_|refine Z09 ?_|refine Z10 ?_|refine Z11 ?_|refine Z12 ?_|refine Z13 ?_|refine Z14 ?_|refine Z29 ?_|refine Z30 ?_|refine Z31 ?_|refine Z32 ?_|refine Z82 fun _=>?_)
 refine Zec fun _ hw=>aa hw SubW.nil ⟨?_,rfl⟩
 rw[show hv.val=(p+1)/2%p from rfl,← HF];rfl
theorem TN:([]++List.replicate (6-([]:List Nat).length) 0:List Nat)=D 6 (0:Fq).val:=by rw[Dm];exact Qh
theorem u7(x:Fq):Spec Tryz.prog 48 [LV .u64 (D 6 x.val)] ai [] (IsV (.tuple [LV .u64 (D 6 (Kf.K2.fsq x).1.val),.bool (Kf.K2.fsq x).2].toArray)):=by
 have:=Ar (ap x);rwa [dy]at this
def jS(x:Fq):Bool:=decide ((-x).val<x.val)
def ir(x:F2):Bool:=if x.im=0 then jS x.re else jS x.im
theorem wv{a b:Prop}(k:b)(h:Rm b→a:=by intro k;refine bk (kk:=.u64) (vs:=[]) (by rfl) (by rfl) (by rfl) (by rfl) (by rfl) (by rfl) (by rfl) (by rfl) ?_;rw[TN];exact k.h):a:=h ⟨k⟩
theorem eP{a b:Prop}(k:b)(h:Rm b→a:=by intro k;refine bH (by rfl) fd (by rfl) (by rfl) (by first | (refine ab.l ?_;(simp;done)) | (refine ab.r ?_ ?_ <;> (simp;done)) | (refine ab.all ?_;(simp;done))) (by rfl) ?_;exact k.h):a:=h ⟨k⟩
theorem ft{a b:Prop}(k:b)(h:Rm b→a:=by intro k;refine jE (by rfl) (by rfl) (by rfl) (by rfl) ?_;exact k.h):a:=h ⟨k⟩
theorem fL{a b:Prop}(k:b)(h:Rm b→a:=by intro k;refine Jz (by rfl) (by rfl) (by rfl) (by kernel_rfl) (by rfl) (by rfl) (by rfl) (by rfl) (by rfl) (by rfl) (by rfl) (by rfl) (by rfl) (by rfl) (by kernel_rfl) (by simp;done) (by simp;done) (by simp;done) (by simp;done) (by rfl) ?_;exact k.h):a:=h ⟨k⟩
theorem FY{a b:Prop}(k:b)(h:Rm b→a:=by intro k;(first|refine Z02 ?_|refine Z03 ?_|refine Z04 ?_|refine Z05 ?_|refine Z06 ?_|refine Z07 ?_|refine Z08 ?_|refine Z09 ?_|refine Z10 ?_|refine Z11 ?_|refine Z12 ?_|refine Z13 ?_|refine Z14 ?_|refine Z24 ?_|refine Z26 ?_|refine Z27 ?_|refine Z67 ?_|refine Z77 ?_|refine Z78 ?_|refine Z79 ?_);exact k.h):a:=h ⟨k⟩
theorem DH{a b:Prop}(k:b)(h:Rm b→a:=by intro k;(first|refine bI ?_|refine eP ?_|refine ft ?_|refine fL ?_);exact k.h):a:=h ⟨k⟩
theorem rR{a b:Nat}(ha:a<W^6)(hb:b<W^6):Spec Tryz.prog 87 [LV .u64 (D 6 a++D 6 b)] ai [] (IsV (N .i64 (Kf.K2.sgn (k2 a b)))):=by
 refine ad Tryz.func87 rfl rfl rfl fun w _=>?_
 have hl0:=fun x=>ae 6 x
 repeat (first|refine wv ?_|refine bI ?_|refine eP ?_|refine ft ?_|refine fL ?_|refine y_4 (dg ha) ?_|refine FY ?_|refine Z81 fun _=>?_)
 refine an (by rfl) (fun h=>?_) (fun h=>?_)
 ·rw[gQ]at h
  have hs:Kf.K2.sgn (k2 a b)=Kf.sg (kp b):=if_pos h
  repeat (first|refine DH ?_|refine y_4 (lL hb) ?_|refine FY ?_|refine Z81 fun _=>?_)
  refine Ze1 fun _ hw=>aa hw SubW.nil ⟨?_,rfl⟩
  rw[hs]
 ·rw[gQ]at h
  have hs:Kf.K2.sgn (k2 a b)=Kf.sg (kp a):=if_neg h
  repeat (first|refine DH ?_|refine y_4 (lL ha) ?_|refine FY ?_|refine Z81 fun _=>?_)
  refine Ze1 fun _ hw=>aa hw SubW.nil ⟨?_,rfl⟩
  rw[hs]
theorem Fe{a b:Nat}(ha:a<W^6)(hb:b<W^6):Spec Tryz.prog 58 [LV .u64 (D 6 a++D 6 b)] ai [] (IsV (.bool (ir (k2 a b)))):=by
 refine ad Tryz.func58 rfl rfl rfl fun w _=>?_
 have hl0:=fun x=>ae 6 x
 repeat (first|refine wv ?_|refine bI ?_|refine eP ?_|refine ft ?_|refine fL ?_|refine y_4 (dg hb) ?_|refine FY ?_|refine Z81 fun _=>?_)
 refine an (by rfl) (fun h=>?_) (fun h=>?_)
 ·rw[gQ]at h
  have hs:ir (k2 a b)=jS (kp a):=if_pos h
  repeat (first|refine DH ?_|refine y_4 (nY ha) ?_|refine FY ?_|refine Z81 fun _=>?_)
  refine Ze1 fun _ hw=>aa hw SubW.nil ⟨?_,rfl⟩
  rw[hs];rfl
 ·rw[gQ]at h
  have hs:ir (k2 a b)=jS (kp b):=if_neg h
  repeat (first|refine DH ?_|refine y_4 (nY hb) ?_|refine FY ?_|refine Z81 fun _=>?_)
  refine Ze1 fun _ hw=>aa hw SubW.nil ⟨?_,rfl⟩
  rw[hs];rfl
theorem A9(x:F2):Spec Tryz.prog 87 [LV .u64 (E2 x)] ai [] (IsV (N .i64 (Kf.K2.sgn x))):=by
 have:=rR (ap x.re) (ap x.im);rwa [br]at this
theorem wE{x y:F2}(h:x=y):E2 x=E2 y:=by rw[h]
theorem NZ{a b:Fq}{o:F2}(ho:o=⟨a,b⟩):D 6 a.val++D 6 b.val=E2 o:=by rw[ho]
theorem TL{S1 a b:Prop}(s1:S1)(k:b)(h:S1→Rm b→a:=by intro s1 k;refine ep (by rfl) s1 (by rfl) (by rfl) (by first | (refine ab.l ?_;(simp;done)) | (refine ab.r ?_ ?_ <;> (simp;done)) | (refine ab.all ?_;(simp;done))) (by rfl) ?_;exact k.h):a:=h s1 ⟨k⟩
theorem iq{a b:Prop}(k:b)(h:Rm b→a:=by intro k;(first|refine Z01 ?_|refine Z02 ?_|refine Z03 ?_|refine Z04 ?_|refine Z05 ?_|refine Z06 ?_|refine Z07 ?_|refine Z08 ?_|refine Z09 ?_|refine Z10 ?_|refine Z11 ?_|refine Z12 ?_|refine Z13 ?_|refine Z14 ?_|refine Z17 ?_|refine Z18 ?_|refine Z19 ?_|refine Z24 ?_|refine Z26 ?_|refine Z27 ?_|refine Z29 ?_|refine Z30 ?_|refine Z31 ?_|refine Z32 ?_|refine Z49 ?_|refine Z50 ?_|refine Z51 ?_|refine Z52 ?_|refine Z67 ?_|refine Z77 ?_|refine Z78 ?_|refine Z79 ?_);exact k.h):a:=h ⟨k⟩
theorem NT{a b:Prop}(k:b)(h:Rm b→a:=by intro k;(first|refine Z01 ?_|refine Z02 ?_|refine Z17 ?_|refine Z18 ?_|refine Z19 ?_|refine Z49 ?_|refine Z50 ?_|refine Z77 ?_|refine Z78 ?_|refine Z79 ?_);exact k.h):a:=h ⟨k⟩
theorem KG{a b:Prop}(k:b)(h:Rm b→a:=by intro k;(first|refine bI ?_|refine eP ?_|refine eO ?_|refine ft ?_|refine fL ?_);exact k.h):a:=h ⟨k⟩
theorem PI{a b:Prop}(k:b)(h:Rm b→a:=by intro k;(first|refine bI ?_|refine eO ?_|refine ft ?_|refine fL ?_|refine Z01 ?_|refine Z02 ?_|refine Z17 ?_|refine Z18 ?_|refine Z19 ?_|refine Z49 ?_|refine Z50 ?_|refine Z77 ?_|refine Z78 ?_|refine Z79 ?_);exact k.h):a:=h ⟨k⟩
theorem DI{a b:Prop}(k:b)(h:Rm b→a:=by intro k;(first|refine bI ?_|refine eO ?_|refine ft ?_|refine fL ?_);exact k.h):a:=h ⟨k⟩
theorem Wj{a b:Prop}(k:b)(h:Rm b→a:=by intro k;refine Zqf (by intro _ _ _;(first|refine PI ?_);exact Zq) ?_;exact k.h):a:=h ⟨k⟩
theorem DT{a b:Prop}(k:b)(h:Rm b→a:=by intro k;(first|refine Wj ?_|refine nQ ?_|refine sy ?_|refine fq ?_|refine Zqn ?_);exact k.h):a:=h ⟨k⟩
set_option maxHeartbeats 4000000 in
theorem ze(u:Nat)(x:F2)(m:Fq):Spec Tryz.prog 109 [LV .u64 (D 6 m.val),pt u 0] (fun w=>eM w u (LV .u64 (E2 x)) 34) [] (IsV (.tuple [LV .u64 (E2 (Kf.K2.gc x m).1),.bool (Kf.K2.gc x m).2].toArray)):=by
 refine ad Tryz.func109 rfl rfl rfl fun w hr=>?_
 have h1:=OldB.mk0 hr
 have hl0:=fun x=>ae 6 x
 repeat (first|(refine bG ?_;intro _)|(refine cM ?_;intro _)|refine TL h1 ?_|refine KG ?_|refine y_4 (gX x.re m) ?_|refine af (by rfl) (by rfl) (by rfl) (qT) (fun _ _=>trivial) (by rfl) ?_|refine y_4 (dx (x.re+m) hv) ?_|refine y_4 (u7 ((x.re+m)*hv)) ?_|refine iq ?_|refine Z81 fun _=>?_|refine Z82 fun _=>?_)
 obtain⟨s,hs⟩:∃s,s=Kf.K2.fsq ((x.re+m)*hv):=⟨_,rfl⟩
 rw[← hs]
 refine R.ag [0,1,2,3,4,5,6,7,8] (by rfl) ?_
 repeat (first|(refine R.Zpf (by rfl) (by intro _ _ _;(first|(refine ep (by rfl) ((h1).shift (by assumption)) (by rfl) (by rfl) (by first | (refine ab.l ?_;(simp;done)) | (refine ab.r ?_ ?_ <;> (simp;done)) | (refine ab.all ?_;(simp;done))) (by rfl) ?_)|refine PI ?_);exact Zq) ?_)|refine aL ?_|refine cB ?_|(refine R.Zpp (by rfl) (by intro _ _ _;refine af (by rfl) (by rfl) (by rfl) (qT) (fun _ _=>trivial) (by rfl) ?_;exact Zq) ?_)|refine ah (dx x.im hv) ?_|refine ah (lK s.1) ?_|refine ah (dx (x.im*hv) (Kf.inv s.1)) ?_|refine aA ?_|(refine ip ?_;intro _)|(refine aV ?_;intro _))
 refine R.Zp0 ?_
 repeat (first|refine wv ?_|refine Z01 ?_|refine Z02 ?_|refine Z03 ?_|refine Z04 ?_|refine Z05 ?_|refine Z06 ?_|refine Z07 ?_|refine Z08 ?_|refine Z09 ?_|refine Z10 ?_|refine Z11 ?_|refine Z12 ?_|refine Z13 ?_|refine Z14 ?_|refine Z17 ?_|refine Z18 ?_|refine Z19 ?_|refine Z24 ?_|refine Z26 ?_|refine Z27 ?_|refine Z29 ?_|refine Z30 ?_|refine Z31 ?_|refine Z32 ?_|refine Z49 ?_|refine Z50 ?_|refine Z51 ?_|refine Z52 ?_|refine Z67 ?_|refine Z77 ?_|refine Z78 ?_|refine Z79 ?_|refine Z81 fun _=>?_|refine Z82 fun _=>?_)
 refine an (by rfl) (fun h=>?_) (fun h=>?_)
 ·rw[gQ]at h
  obtain⟨o,ho⟩:∃o:F2,o=⟨s.1,(Kf.K2.fsq (-x.re)).1⟩:=⟨_,rfl⟩
  have hv0:=NZ ho
  have hT:=Kf.K2.Tj hs h ho
  have hsg:=A9 o
  obtain⟨g,hg⟩:∃g,g=Kf.K2.sgn o:=⟨_,rfl⟩
  rw[← hg]at hsg
  have hlo:=ak o
  have hln:=ak (Kf.K2.neg o)
  have hle:=ak (Kf.K2.dm o)
  clear hs ho
  repeat (first|(refine cC (by rfl) (by rfl) (by rfl) (by rfl) (by simp;done) (by simp;done) (by rfl) ?_;rw[hv0])|refine KG ?_|(refine bG ?_;intro _)|(refine cM ?_;intro _)|refine y_4 hsg ?_|refine y_4 (jo x.re) ?_|refine y_4 (u7 (-x.re)) ?_|refine TL h1 ?_|refine iq ?_|refine Z81 fun _=>?_|refine Z82 fun _=>?_)
  refine an (by rfl) (fun hc=>?_) (fun hc=>?_)
  ·have he:=Kf.K2.GT hg hc
   repeat (first|refine y_4 (o8 o) ?_|refine iq ?_|refine Z81 fun _=>?_|refine Z82 fun _=>?_)
   rw[← he]
   cases hB:(Kf.K2.fsq (-x.re)).2 with
   | false=>
    rw[hB]at hT
    rw[hT]
    repeat (first|refine iq ?_|refine Z81 fun _=>?_|refine Z82 fun _=>?_)
    refine au (by rfl) ?_
    repeat (first|refine DT ?_)
    refine Zq0 ?_ (by kernel_rfl)
    repeat (first|refine iq ?_|refine Z81 fun _=>?_|refine Z82 fun _=>?_)
    refine aJ (by rfl) (by rfl) (by rfl) fd (by rfl) (by rfl) (by first | with_reducible assumption | (simp[*];done)) fun _ hw=>aa hw SubW.nil ⟨?_,rfl⟩
    rfl
   | true=>
    rw[hB]at hT
    rw[hT]
    have hE2:=jW (Kf.K2.mul (Kf.K2.dm o) (Kf.K2.dm o)) x
    repeat (first|refine iq ?_|refine Z81 fun _=>?_|refine Z82 fun _=>?_)
    refine au (by rfl) ?_
    repeat (first|(refine Zqf (by intro _ _ _;(first|refine DI ?_|(refine ep (by rfl) ((h1).shift (by assumption)) (by rfl) (by rfl) (by first | (refine ab.l ?_;(simp;done)) | (refine ab.r ?_ ?_ <;> (simp;done)) | (refine ab.all ?_;(simp;done))) (by rfl) ?_)|refine NT ?_);exact Zq) ?_)|refine nQ ?_|refine bT (aF (Kf.K2.dm o) (Kf.K2.dm o)) ?_|refine fw ?_)
    refine Zq0 ?_ (by kernel_rfl)
    rw[hE2]
    repeat (first|refine iq ?_|refine Z81 fun _=>?_|refine Z82 fun _=>?_)
    refine aJ (by rfl) (by rfl) (by rfl) fd (by rfl) (by rfl) (by first | with_reducible assumption | (simp[*];done)) fun _ hw=>aa hw SubW.nil ⟨?_,rfl⟩
    rfl
  ·have he:=(Kf.K2.GS hg hc).symm
   repeat (first|refine iq ?_|refine Z81 fun _=>?_|refine Z82 fun _=>?_)
   have hE0:=wE he
   rw[hE0]
   cases hB:(Kf.K2.fsq (-x.re)).2 with
   | false=>
    rw[hB]at hT
    rw[hT]
    repeat (first|refine iq ?_|refine Z81 fun _=>?_|refine Z82 fun _=>?_)
    refine au (by rfl) ?_
    repeat (first|refine DT ?_)
    refine Zq0 ?_ (by kernel_rfl)
    repeat (first|refine iq ?_|refine Z81 fun _=>?_|refine Z82 fun _=>?_)
    refine aJ (by rfl) (by rfl) (by rfl) fd (by rfl) (by rfl) (by first | with_reducible assumption | (simp[*];done)) fun _ hw=>aa hw SubW.nil ⟨?_,rfl⟩
    rfl
   | true=>
    rw[hB]at hT
    rw[hT]
    have hE2:=jW (Kf.K2.mul (Kf.K2.dm o) (Kf.K2.dm o)) x
    repeat (first|refine iq ?_|refine Z81 fun _=>?_|refine Z82 fun _=>?_)
    refine au (by rfl) ?_
    repeat (first|(refine Zqf (by intro _ _ _;(first|refine DI ?_|(refine ep (by rfl) ((h1).shift (by assumption)) (by rfl) (by rfl) (by first | (refine ab.l ?_;(simp;done)) | (refine ab.r ?_ ?_ <;> (simp;done)) | (refine ab.all ?_;(simp;done))) (by rfl) ?_)|refine NT ?_);exact Zq) ?_)|refine nQ ?_|refine bT (aF (Kf.K2.dm o) (Kf.K2.dm o)) ?_|refine fw ?_)
    refine Zq0 ?_ (by kernel_rfl)
    rw[hE2]
    repeat (first|refine iq ?_|refine Z81 fun _=>?_|refine Z82 fun _=>?_)
    refine aJ (by rfl) (by rfl) (by rfl) fd (by rfl) (by rfl) (by first | with_reducible assumption | (simp[*];done)) fun _ hw=>aa hw SubW.nil ⟨?_,rfl⟩
    rfl
 ·rw[gQ]at h
  obtain⟨o,ho⟩:∃o:F2,o=⟨s.1,x.im*hv*Kf.inv s.1⟩:=⟨_,rfl⟩
  have hv0:=NZ ho
  have hT:=Kf.K2.Tl hs h ho
  have hsg:=A9 o
  obtain⟨g,hg⟩:∃g,g=Kf.K2.sgn o:=⟨_,rfl⟩
  rw[← hg]at hsg
  have hlo:=ak o
  have hln:=ak (Kf.K2.neg o)
  have hle:=ak (Kf.K2.dm o)
  clear hs ho
  repeat (first|(refine cC (by rfl) (by rfl) (by rfl) (by rfl) (by simp;done) (by simp;done) (by rfl) ?_;rw[hv0])|refine KG ?_|(refine bG ?_;intro _)|(refine cM ?_;intro _)|refine y_4 hsg ?_|(skip;fail)|refine iq ?_|refine Z81 fun _=>?_|refine Z82 fun _=>?_)
  refine an (by rfl) (fun hc=>?_) (fun hc=>?_)
  ·have he:=Kf.K2.GT hg hc
   repeat (first|refine y_4 (o8 o) ?_|refine iq ?_|refine Z81 fun _=>?_|refine Z82 fun _=>?_)
   rw[← he]
   cases hB:s.2 with
   | false=>
    rw[hB]at hT
    rw[hT]
    repeat (first|refine iq ?_|refine Z81 fun _=>?_|refine Z82 fun _=>?_)
    refine au (by rfl) ?_
    repeat (first|refine DT ?_)
    refine Zq0 ?_ (by kernel_rfl)
    repeat (first|refine iq ?_|refine Z81 fun _=>?_|refine Z82 fun _=>?_)
    refine aJ (by rfl) (by rfl) (by rfl) fd (by rfl) (by rfl) (by first | with_reducible assumption | (simp[*];done)) fun _ hw=>aa hw SubW.nil ⟨?_,rfl⟩
    rfl
   | true=>
    rw[hB]at hT
    rw[hT]
    have hE2:=jW (Kf.K2.mul (Kf.K2.dm o) (Kf.K2.dm o)) x
    repeat (first|refine iq ?_|refine Z81 fun _=>?_|refine Z82 fun _=>?_)
    refine au (by rfl) ?_
    repeat (first|(refine Zqf (by intro _ _ _;(first|refine DI ?_|(refine ep (by rfl) ((h1).shift (by assumption)) (by rfl) (by rfl) (by first | (refine ab.l ?_;(simp;done)) | (refine ab.r ?_ ?_ <;> (simp;done)) | (refine ab.all ?_;(simp;done))) (by rfl) ?_)|refine NT ?_);exact Zq) ?_)|refine nQ ?_|refine bT (aF (Kf.K2.dm o) (Kf.K2.dm o)) ?_|refine fw ?_)
    refine Zq0 ?_ (by kernel_rfl)
    rw[hE2]
    repeat (first|refine iq ?_|refine Z81 fun _=>?_|refine Z82 fun _=>?_)
    refine aJ (by rfl) (by rfl) (by rfl) fd (by rfl) (by rfl) (by first | with_reducible assumption | (simp[*];done)) fun _ hw=>aa hw SubW.nil ⟨?_,rfl⟩
    rfl
  ·have he:=(Kf.K2.GS hg hc).symm
   repeat (first|refine iq ?_|refine Z81 fun _=>?_|refine Z82 fun _=>?_)
   have hE0:=wE he
   rw[hE0]
   cases hB:s.2 with
   | false=>
    rw[hB]at hT
    rw[hT]
    repeat (first|refine iq ?_|refine Z81 fun _=>?_|refine Z82 fun _=>?_)
    refine au (by rfl) ?_
    repeat (first|refine DT ?_)
    refine Zq0 ?_ (by kernel_rfl)
    repeat (first|refine iq ?_|refine Z81 fun _=>?_|refine Z82 fun _=>?_)
    refine aJ (by rfl) (by rfl) (by rfl) fd (by rfl) (by rfl) (by first | with_reducible assumption | (simp[*];done)) fun _ hw=>aa hw SubW.nil ⟨?_,rfl⟩
    rfl
   | true=>
    rw[hB]at hT
    rw[hT]
    have hE2:=jW (Kf.K2.mul (Kf.K2.dm o) (Kf.K2.dm o)) x
    repeat (first|refine iq ?_|refine Z81 fun _=>?_|refine Z82 fun _=>?_)
    refine au (by rfl) ?_
    repeat (first|(refine Zqf (by intro _ _ _;(first|refine DI ?_|(refine ep (by rfl) ((h1).shift (by assumption)) (by rfl) (by rfl) (by first | (refine ab.l ?_;(simp;done)) | (refine ab.r ?_ ?_ <;> (simp;done)) | (refine ab.all ?_;(simp;done))) (by rfl) ?_)|refine NT ?_);exact Zq) ?_)|refine nQ ?_|refine bT (aF (Kf.K2.dm o) (Kf.K2.dm o)) ?_|refine fw ?_)
    refine Zq0 ?_ (by kernel_rfl)
    rw[hE2]
    repeat (first|refine iq ?_|refine Z81 fun _=>?_|refine Z82 fun _=>?_)
    refine aJ (by rfl) (by rfl) (by rfl) fd (by rfl) (by rfl) (by first | with_reducible assumption | (simp[*];done)) fun _ hw=>aa hw SubW.nil ⟨?_,rfl⟩
    rfl
theorem ww:(List.replicate 12 0:List Nat)=E2 (Kf.K2.zero:F2):=by decide +kernel
theorem TM{a b:Prop}(k:b)(h:Rm b→a:=by intro k;(first|refine Z01 ?_|refine Z02 ?_|refine Z03 ?_|refine Z04 ?_|refine Z05 ?_|refine Z06 ?_|refine Z07 ?_|refine Z08 ?_|refine Z09 ?_|refine Z10 ?_|refine Z11 ?_|refine Z12 ?_|refine Z13 ?_|refine Z14 ?_|refine Z19 ?_|refine Z24 ?_|refine Z26 ?_|refine Z27 ?_|refine Z29 ?_|refine Z30 ?_|refine Z31 ?_|refine Z32 ?_|refine Z48 ?_|refine Z54 ?_|refine Z67 ?_);exact k.h):a:=h ⟨k⟩
theorem nR{a b:Prop}(k:b)(h:Rm b→a:=by intro k;refine jE (k:=.u64) (z:=List.replicate 12 0) (by rfl) (by rfl) (by rfl) (by rfl) ?_;rw[ww];exact k.h):a:=h ⟨k⟩
theorem mg{S1 a b:Prop}(s1:S1)(k:b)(h:S1→Rm b→a:=by intro s1 k;refine af (by rfl) (by rfl) (by rfl) s1 (eM.own fd) (by rfl) ?_;exact k.h):a:=h s1 ⟨k⟩
theorem PJ{a b:Prop}(k:b)(h:Rm b→a:=by intro k;(first|refine nR ?_|refine Z01 ?_|refine Z02 ?_|refine Z03 ?_|refine Z04 ?_|refine Z05 ?_|refine Z06 ?_|refine Z07 ?_|refine Z08 ?_|refine Z09 ?_|refine Z10 ?_|refine Z11 ?_|refine Z12 ?_|refine Z13 ?_|refine Z14 ?_|refine Z19 ?_|refine Z24 ?_|refine Z26 ?_|refine Z27 ?_|refine Z29 ?_|refine Z30 ?_|refine Z31 ?_|refine Z32 ?_|refine Z48 ?_|refine Z54 ?_|refine Z67 ?_);exact k.h):a:=h ⟨k⟩
set_option maxHeartbeats 4000000 in
theorem Fk{a b:Nat}(ha:a<W^6)(hb:b<W^6):Spec Tryz.prog 55 [LV .u64 (D 6 a++D 6 b)] ai [] (IsV (.tuple [LV .u64 (E2 (Kf.K2.cN (k2 a b)).1),.bool (Kf.K2.cN (k2 a b)).2].toArray)):=by
 refine ad Tryz.func55 rfl rfl rfl fun w _=>?_
 have hl0:=fun x=>ae 6 x
 have hlz:=ak (Kf.K2.zero:F2)
 have hred:=kU ha hb
 obtain⟨x,hx⟩:∃x:F2,x=k2 a b:=⟨_,rfl⟩
 rw[← hx]at hred ⊢
 clear hx
 have hlx:=ak x
 have hadd:Spec Tryz.prog 49 [LV .u64 (D 6 (x.re*x.re).val),LV .u64 (D 6 (x.im*x.im).val)] ai [] (IsV (LV .u64 (D 6 (Kf.K2.bX x).val))):=gX (x.re*x.re) (x.im*x.im)
 have hfs:=u7 (Kf.K2.bX x)
 obtain⟨s,hs⟩:∃s,s=Kf.K2.fsq (Kf.K2.bX x):=⟨_,rfl⟩
 rw[← hs]at hfs
 obtain⟨t,ht⟩:∃t,t=Kf.K2.gc x s.1:=⟨_,rfl⟩
 have htry:=fun u=>ze u x s.1
 rw[← ht]at htry
 obtain⟨v,hv⟩:∃v,v=Kf.K2.gc x (-s.1):=⟨_,rfl⟩
 have htry2:=fun u=>ze u x (-s.1)
 rw[← hv]at htry2
 have hneg:=jo s.1
 have hP0:=Kf.K2.M5 hs
 have hP1:=Kf.K2.M6 hs (t:=t)
 have hP2:=Kf.K2.M7 hs (t:=t) (v:=v)
 have hP3:=Kf.K2.M8 hs (t:=t) (v:=v)
 obtain⟨s1,s2⟩:=s
 obtain⟨t1,t2⟩:=t
 obtain⟨v1,v2⟩:=v
 have hlt:=ak t1
 have hlv:=ak v1
 simp only at *
 repeat (first|(refine bG ?_;intro _)|refine y_4 hred ?_|(refine cM ?_;intro _)|refine TM ?_|refine Z81 fun _=>?_|refine Z82 fun _=>?_)
 refine R.ag [0,1,2,3,4,5,6,7,8,9,10,11,12,13,14,15,16,17] (by rfl) ?_
 repeat (first|(refine R.Zpf (by rfl) (by intro _ _ _;(first|refine bI ?_|refine ft ?_|refine Z01 ?_|refine Z02 ?_|refine Z19 ?_|refine Z48 ?_|refine Z54 ?_);exact Zq) ?_)|refine aL ?_|refine cB ?_|refine ah (dx x.re x.re) ?_|refine ah (dx x.im x.im) ?_|refine ah hadd ?_|refine ah hfs ?_|refine aA ?_|(refine ip ?_;intro _)|(refine aV ?_;intro _))
 refine R.Zp0 ?_
 clear hfs hadd hred
 cases s2 with
 | false=>
  rw[hP0 rfl]
  repeat (first|refine PJ ?_|refine Z81 fun _=>?_|refine Z82 fun _=>?_)
  refine aJ (by rfl) (by rfl) (by rfl) fd (by rfl) (by rfl) (by first | with_reducible assumption | (simp[*];done)) fun _ hw=>aa hw SubW.nil ⟨?_,rfl⟩
  rfl
 | true=>
  cases t2 with
  | true=>
   rw[hP1 rfl ht rfl]
   clear hP0 hP1 hP2 hP3 hs ht hv
   repeat (first|(refine bG ?_;intro _)|refine mg (htry _) ?_|refine TM ?_|refine Z81 fun _=>?_|refine Z82 fun _=>?_)
   refine aJ (by rfl) (by rfl) (by rfl) fd (by rfl) (by rfl) (by first | with_reducible assumption | (simp[*];done)) fun _ hw=>aa hw SubW.nil ⟨?_,rfl⟩
   rfl
  | false=>
   cases v2 with
   | true=>
    rw[hP2 rfl ht rfl hv rfl]
    clear hP0 hP1 hP2 hP3 hs ht hv
    repeat (first|(refine bG ?_;intro _)|refine mg (htry _) ?_|refine y_4 hneg ?_|refine mg (htry2 _) ?_|refine TM ?_|refine Z81 fun _=>?_|refine Z82 fun _=>?_)
    refine aJ (by rfl) (by rfl) (by rfl) fd (by rfl) (by rfl) (by first | with_reducible assumption | (simp[*];done)) fun _ hw=>aa hw SubW.nil ⟨?_,rfl⟩
    rfl
   | false=>
    rw[hP3 rfl ht rfl hv rfl]
    clear hP0 hP1 hP2 hP3 hs ht hv
    repeat (first|(refine bG ?_;intro _)|refine mg (htry _) ?_|refine y_4 hneg ?_|refine mg (htry2 _) ?_|refine PJ ?_|refine Z81 fun _=>?_|refine Z82 fun _=>?_)
    refine aJ (by rfl) (by rfl) (by rfl) fd (by rfl) (by rfl) (by first | with_reducible assumption | (simp[*];done)) fun _ hw=>aa hw SubW.nil ⟨?_,rfl⟩
    rfl
theorem OT(x:F2):Spec Tryz.prog 55 [LV .u64 (E2 x)] ai [] (IsV (.tuple [LV .u64 (E2 (Kf.K2.cN x).1),.bool (Kf.K2.cN x).2].toArray)):=by
 have:=Fk (ap x.re) (ap x.im);rwa [br]at this
theorem Ub(x:F2):Spec Tryz.prog 58 [LV .u64 (E2 x)] ai [] (IsV (.bool (ir x))):=by
 have:=Fe (ap x.re) (ap x.im);rwa [br]at this
theorem fP(x:F2):(decide (D 6 x.re.val=D 6 x.re.val)&&decide (D 6 x.im.val=D 6 x.im.val))=true:=by rw[jW];exact decide_eq_true rfl
theorem cP{x y:F2}(h:¬x=y):(decide (D 6 x.re.val=D 6 y.re.val)&&decide (D 6 x.im.val=D 6 y.im.val))=false:=by rw[jW];exact decide_eq_false h
theorem XC:([2]++List.replicate (6-[2].length) 0:List Nat)=D 6 2:=by decide +kernel
theorem UT:Kf.isq (kp 2)=false:=by
 have h:Kf.isq (-kp 2)=true:=(Kf.cb p_3).2 ⟨kp 2057464292470212699950648958431590554769679873859515792311286236065221686597310451751142621105086029381756709738514,by decide +kernel⟩
 have h2:=Kf.fS p_3 (a:=kp 2) (by decide +kernel)
 rw[h]at h2
 cases h3:Kf.isq (kp 2)
 ·rfl
 ·rw[h3]at h2;exact absurd h2 (by decide)
def ac:F2:=k2 0 240
def bc:F2:=k2 1012 1012
def zc:F2:=Kf.K2.neg (k2 2 1)
def pol(x:F2):List F2→F2
 | []=>Kf.K2.zero
 | c::r=>Kf.K2.add (Kf.K2.mul (pol x r) x) c
def co(x:F2):F2:=pol x [bc,ac,Kf.K2.zero,Kf.K2.one]
theorem acE:List.replicate 6 0++([240]++List.replicate (6-[240].length) 0)=E2 ac:=by decide +kernel
theorem bcE:([1012]++List.replicate (6-[1012].length) 0)++([1012]++List.replicate (6-[1012].length) 0)=E2 bc:=by decide +kernel
theorem fM{a b:Prop}(k:b)(h:Rm b→a:=by intro k;refine eo (by rfl) (by rfl) (by rfl) (by rfl) (by simp;done) (by rfl) ?_;exact k.h):a:=h ⟨k⟩
theorem BE:Spec Tryz.prog 84 [] ai [] (IsV (LV .u64 (E2 ac))):=by
 refine ad Tryz.func84 rfl rfl rfl fun w _=>?_
 repeat (first|(refine bG ?_;intro _)|refine bk (kk:=.u64) (vs:=[240]) (by rfl) (by rfl) (by rfl) (by rfl) (by rfl) (by rfl) (by rfl) (by rfl) ?_|refine fM ?_|(refine rU (by rfl) (by rfl) (by rfl) (by rfl) (by simp;done) (by rfl) ?_)|refine Z03 ?_|refine Z04 ?_|refine Z05 ?_|refine Z06 ?_|refine Z07 ?_|refine Z08 ?_|refine Z09 ?_|refine Z10 ?_|refine Z11 ?_|refine Z12 ?_|refine Z13 ?_|refine Z14 ?_|refine Z29 ?_|refine Z30 ?_|refine Z31 ?_|refine Z32 ?_|refine Z82 fun _=>?_)
 refine Zec fun _ hw=>aa hw SubW.nil ⟨?_,rfl⟩
 rw[← acE]
theorem BH:Spec Tryz.prog 83 [] ai [] (IsV (LV .u64 (E2 bc))):=by
 refine ad Tryz.func83 rfl rfl rfl fun w _=>?_
 repeat (first|(refine bG ?_;intro _)|refine bk (kk:=.u64) (vs:=[1012]) (by rfl) (by rfl) (by rfl) (by rfl) (by rfl) (by rfl) (by rfl) (by rfl) ?_|refine eO ?_|refine fM ?_|refine Z03 ?_|refine Z04 ?_|refine Z05 ?_|refine Z06 ?_|refine Z07 ?_|refine Z08 ?_|refine Z09 ?_|refine Z10 ?_|refine Z11 ?_|refine Z12 ?_|refine Z13 ?_|refine Z14 ?_|refine Z29 ?_|refine Z30 ?_|refine Z31 ?_|refine Z32 ?_|refine Z82 fun _=>?_)
 refine Zec fun _ hw=>aa hw SubW.nil ⟨?_,rfl⟩
 rw[← bcE]
theorem DZ:Spec Tryz.prog 82 [] ai [] (IsV (LV .u64 (E2 zc))):=by
 refine ad Tryz.func82 rfl rfl rfl fun w _=>?_
 have hl0:=fun x=>ae 6 x
 have hle:=fun x:F2=>ak x
 have hn:Spec Tryz.prog 59 [LV .u64 (D 6 2++D 6 1)] ai [] (IsV (LV .u64 (E2 zc))):=tR (by decide) (by decide)
 repeat (first|(refine bG ?_;intro _)|refine zL ?_|(refine bk (kk:=.u64) (vs:=[2]) (by rfl) (by rfl) (by rfl) (by rfl) (by rfl) (by rfl) (by rfl) (by rfl) ?_;rw[XC])|refine eO ?_|refine fM ?_|refine y_4 hn ?_|refine TB ?_|refine Z82 fun _=>?_)
 refine Zec fun _ hw=>aa hw SubW.nil ⟨?_,rfl⟩
 rfl
theorem OS{a b:Nat}(ha:a<W^6)(hb:b<W^6)(x:F2):Spec Tryz.prog 57 [LV .u64 (E2 x),LV .u64 (D 6 a++D 6 b)] ai [] (IsV (LV .u64 (E2 (Kf.K2.mul x (k2 a b))))):=by
 have:=gP (ap x.re) (ap x.im) ha hb;rwa [br]at this
theorem IK(x:F2){cs:List F2}{i:Nat}{c:F2}(h:cs[i]?=some c):pol x (cs.drop i)=Kf.K2.add (Kf.K2.mul (pol x (cs.drop (i+1))) x) c:=by
 obtain⟨h1,h2⟩:=List.getElem?_eq_some_iff.1 h
 rw[List.drop_eq_getElem_cons h1,h2];rfl
theorem NU{a b:Prop}(k:b)(h:Rm b→a:=by intro k;(first|refine Z01 ?_|refine Z02 ?_|refine Z03 ?_|refine Z04 ?_|refine Z05 ?_|refine Z06 ?_|refine Z07 ?_|refine Z08 ?_|refine Z09 ?_|refine Z10 ?_|refine Z11 ?_|refine Z12 ?_|refine Z13 ?_|refine Z14 ?_|refine Z16 ?_|refine Z17 ?_|refine Z18 ?_|refine Z20 ?_|refine Z21 ?_|refine Z22 ?_|refine Z23 ?_|refine Z24 ?_|refine Z26 ?_|refine Z27 ?_|refine Z29 ?_|refine Z30 ?_|refine Z31 ?_|refine Z32 ?_|refine Z67 ?_|refine Z71 ?_);exact k.h):a:=h ⟨k⟩
set_option maxHeartbeats 4000000 in
theorem i7{a e:Nat}(ha:a<W^6)(he:e<W^6)(b k:Nat)(cs:List F2)(hk:cs.length=k)(hk2:k<65536):
  Spec Tryz.prog 81 [LV .u64 (D 6 a++D 6 e),slv b k] (fun w=>eM w b (LV .u64 (cs.map E2).flatten) 34) [] (IsV (LV .u64 (E2 (pol (k2 a e) cs)))):=by
 refine ad Tryz.func81 rfl rfl rfl fun w hr=>?_
 have h1:=OldB.mk0 hr
 have hl0:=fun x=>ae 6 x
 have hle:=fun x:F2=>ak x
 have hz12:=ww
 have hm:=fun x=>OS ha he x
 generalize k2 a e=x at hm
 have h12:∀v∈cs.map E2,v.length=12:=fun v hv=>by
  obtain⟨c,_,rfl⟩:=List.mem_map.1 hv
  exact hle c
 repeat (first|(refine bG ?_;intro _)|refine Bh (by rfl) (by rfl) (by rfl) ?_|refine Z01 ?_|refine Z02 ?_|refine Z03 ?_|refine Z04 ?_|refine Z05 ?_|refine Z06 ?_|refine Z07 ?_|refine Z08 ?_|refine Z09 ?_|refine Z10 ?_|refine Z11 ?_|refine Z12 ?_|refine Z13 ?_|refine Z14 ?_|refine Z16 ?_|refine Z17 ?_|refine Z18 ?_|refine Z20 ?_|refine Z21 ?_|refine Z22 ?_|refine Z23 ?_|refine Z24 ?_|refine Z26 ?_|refine Z27 ?_|refine Z29 ?_|refine Z30 ?_|refine Z31 ?_|refine Z32 ?_|refine Z67 ?_|refine Z71 ?_|refine Z81 fun _=>?_|refine Z82 fun _=>?_)
 rename_i b2 b4
 refine az (ι:=Nat) (fun j=>j≤k) (fun j=>[(1,slv b k),(2,pt b2 0),(4,pt b4 0),(5,.int .i64 ((j:Int)-1))])
  (fun j=>[.blk b4 (LV .u64 (E2 (pol x (cs.drop j)))) 34,.blk b2 (LV .u64 (D 6 a++D 6 e)) 34]) (fun j=>j) k (Nat.le_refl _) sbq (by rw[← hk,List.drop_length,show pol x []=Kf.K2.zero from rfl,← hz12];exact sw) ?_
 intro j hj
 repeat (first|refine NU ?_|refine Z81 fun _=>?_|refine Z82 fun _=>?_)
 refine an (by rfl) (fun h=>?_) (fun h=>?_)
 ·have h0:(0:Int)≤(j:Int)-1:=h
  obtain⟨i,rfl⟩:∃i,j=i+1:=⟨j-1,by omega⟩
  rw[show((i+1:Nat):Int)-1=Int.ofNat i by simp]
  obtain⟨c,hc⟩:∃c,cs[i]?=some c:=⟨cs[i]'(by omega),List.getElem?_eq_getElem (by omega)⟩
  have hpt:ab (cs.map E2).flatten (0+i*12) 12 (E2 c):=by
   rw[Nat.zero_add];exact ab.nth h12 (by rw[List.getElem?_map,hc];rfl)
  have had:=cX (Kf.K2.mul (pol x (cs.drop (i+1))) x) c
  rw[← IK x hc]at had
  repeat (first|refine NU ?_|refine Z81 fun _=>?_|refine Z82 fun _=>?_)
  refine au (by rfl) ?_
  repeat (first|(refine Zqf (by intro _ _ _;(first|refine Fu (by rfl) (by rfl) (by rfl) (by rfl) (show i<k by omega) (by rfl) ?_|refine ep (by rfl) (h1.shift (by assumption)) (by rfl) (by rfl) hpt (by rfl) ?_|refine Z01 ?_|refine Z02 ?_|refine Z16 ?_|refine Z17 ?_|refine Z18 ?_|refine Z20 ?_|refine Z21 ?_|refine Z22 ?_|refine Z23 ?_|refine Z71 ?_);exact Zq) ?_)|refine nQ ?_|refine bT (hm (pol x (cs.drop (i+1)))) ?_|refine bT had ?_|refine zJ ?_|refine fq ?_|refine Zqn ?_)
  refine Zq0 ?_ (by kernel_rfl)
  repeat (first|refine NU ?_|refine Z81 fun _=>?_|refine Z82 fun _=>?_)
  refine ao i (by omega) (by omega) ?_ sw
  rw[show((i:Int)-1)=Int.ofNat i-Int.ofNat 1 from rfl]
  exact sbq
 ·have hp0:¬(0:Int)≤(j:Int)-1:=h
  have hj0:j=0:=by omega
  subst hj0
  rw[List.drop_zero]
  repeat (first|refine NU ?_|refine Z81 fun _=>?_|refine Z82 fun _=>?_)
  refine Zec fun _ hw=>aa hw SubW.nil ⟨?_,rfl⟩
  rfl
theorem kh{cs:List F2}:∀v∈cs.map E2,v.length=12:=fun v hv=>by
 obtain⟨c,_,rfl⟩:=List.mem_map.1 hv
 exact ak c
theorem Xd:D 6 1++List.replicate 6 0=E2 (Kf.K2.one:F2):=by decide +kernel
theorem NV{a b:Prop}(k:b)(h:Rm b→a:=by intro k;refine eo (by rfl) (by rfl) (by rfl) (by rfl) (by simp;done) (by rfl) ?_;rw[Xd];exact k.h):a:=h ⟨k⟩
theorem Bx{S1 a b:Prop}(s1:S1)(k:b)(h:S1→Rm b→a:=by intro s1 k;refine R.Zpp (by rfl) (by intro _ _ _;refine af (by rfl) (by rfl) (by rfl) s1 (eM.own fd) (by rfl) ?_;exact Zq) ?_;exact k.h):a:=h s1 ⟨k⟩
theorem sC{a b:Prop}(k:b)(h:Rm b→a:=by intro k;refine R.Zpn (by rfl) (by intro _ _ _;(first|refine Z81 fun _=>?_|refine Z82 fun _=>?_|refine Z85 fun _=>?_);exact R.Zpx) ?_;exact k.h):a:=h ⟨k⟩
theorem Fh{a e:Nat}(ha:a<W^6)(he:e<W^6):Spec Tryz.prog 86 [LV .u64 (D 6 a++D 6 e)] ai [] (IsV (LV .u64 (E2 (co (k2 a e))))):=by
 refine ad Tryz.func86 rfl rfl rfl fun w _=>?_
 have hl0:=fun x=>ae 6 x
 have hle:=fun x:F2=>ak x
 have hp:∀b,Spec Tryz.prog 81 [LV .u64 (D 6 a++D 6 e),slv b 4] (fun w=>eM w b (LV .u64 ([bc,ac,Kf.K2.zero,Kf.K2.one].map E2).flatten) 34) [] (IsV (LV .u64 (E2 (co (k2 a e))))):=fun b=>i7 ha he b 4 [bc,ac,Kf.K2.zero,Kf.K2.one] rfl (by decide)
 generalize co (k2 a e)=r at hp
 repeat (first|(refine bG ?_;intro _)|refine bW ?_|refine Z81 fun _=>?_|refine Z82 fun _=>?_|refine Z85 fun _=>?_)
 refine R.ag [0,1,2,3,4,5,6,7,8] (by rfl) ?_
 repeat (first|(refine R.Zpf (by rfl) (by intro _ _ _;(first|refine nR ?_|refine zL ?_|refine NV ?_);exact Zq) ?_)|refine aL ?_|(refine R.Zpp (by rfl) (by intro _ _ _;refine af (by rfl) (by rfl) (by rfl) (BH) (fun _ _=>trivial) (by rfl) ?_;exact Zq) ?_)|(refine R.Zpp (by rfl) (by intro _ _ _;refine af (by rfl) (by rfl) (by rfl) (BE) (fun _ _=>trivial) (by rfl) ?_;exact Zq) ?_)|refine Bx (hp _) ?_|refine aA ?_|(refine R.Zpd (by rfl) (by intro _ _ _;(refine av (m:=12) (kk:=.u64) (vss:=[bc,ac,Kf.K2.zero,Kf.K2.one].map E2) (by rfl) (by rfl) (by rfl) (by rfl) (by rfl) (by rfl) (by rfl) kh (by rfl) (by rfl) fun _=>?_);exact R.dN) fun _=>?_)|(refine sC ?_;intro _))
 refine R.Zp0 ?_
 repeat (first|refine bW ?_|refine Z81 fun _=>?_|refine Z82 fun _=>?_|refine Z85 fun _=>?_)
 refine Zec fun _ hw=>aa hw SubW.nil ⟨?_,rfl⟩
 rfl
theorem VC(x:F2):Spec Tryz.prog 86 [LV .u64 (E2 x)] ai [] (IsV (LV .u64 (E2 (co x)))):=by
 have:=Fh (ap x.re) (ap x.im);rwa [br]at this
def cV(g:Nat)(x:F2):F2×Bool:=(if Kf.K2.sgn (Kf.K2.cN (co x)).1=g then(Kf.K2.cN (co x)).1 else Kf.K2.neg (Kf.K2.cN (co x)).1,(Kf.K2.cN (co x)).2)
theorem qb{g s:Nat}{x:F2}{r:F2×Bool}(hr:r=Kf.K2.cN (co x))(hs:s=Kf.K2.sgn r.1)(h:s=g):cV g x=(r.1,r.2):=by
 subst hs
 subst hr
 rw[cV,if_pos h]
theorem qa{g s:Nat}{x:F2}{r:F2×Bool}(hr:r=Kf.K2.cN (co x))(hs:s=Kf.K2.sgn r.1)(h:¬s=g):cV g x=(Kf.K2.neg r.1,r.2):=by
 subst hs
 subst hr
 rw[cV,if_neg h]
theorem NW{a b:Prop}(k:b)(h:Rm b→a:=by intro k;(first|refine Z01 ?_|refine Z02 ?_|refine Z03 ?_|refine Z04 ?_|refine Z05 ?_|refine Z06 ?_|refine Z07 ?_|refine Z08 ?_|refine Z09 ?_|refine Z10 ?_|refine Z11 ?_|refine Z12 ?_|refine Z13 ?_|refine Z14 ?_|refine Z17 ?_|refine Z18 ?_|refine Z19 ?_|refine Z24 ?_|refine Z26 ?_|refine Z27 ?_|refine Z29 ?_|refine Z30 ?_|refine Z31 ?_|refine Z32 ?_|refine Z67 ?_);exact k.h):a:=h ⟨k⟩
set_option maxHeartbeats 4000000 in
theorem iA{a e:Nat}(ha:a<W^6)(he:e<W^6)(u:Nat)(x:F2):Spec Tryz.prog 85 [LV .u64 (E2 x),pt u 0] (fun w=>eM w u (LV .u64 (D 6 a++D 6 e)) 34) [] (IsV (.tuple [LV .u64 (E2 (cV (Kf.K2.sgn (k2 a e)) x).1),.bool (cV (Kf.K2.sgn (k2 a e)) x).2].toArray)):=by
 refine ad Tryz.func85 rfl rfl rfl fun w hr=>?_
 have h1:=OldB.mk0 hr
 have hl0:=fun x=>ae 6 x
 have hle:=fun x:F2=>ak x
 have hsd:=VC x
 have hg:=rR ha he
 generalize Kf.K2.sgn (k2 a e)=g at hg
 have hsq:=OT (co x)
 obtain⟨r,hr⟩:∃r,r=Kf.K2.cN (co x):=⟨_,rfl⟩
 rw[← hr]at hsq
 have hs1:=A9 r.1
 obtain⟨s,hs⟩:∃s,s=Kf.K2.sgn r.1:=⟨_,rfl⟩
 rw[← hs]at hs1
 have hR1:=qb (g:=g) hr hs
 have hR0:=qa (g:=g) hr hs
 clear hr hs
 generalize co x=y at hsd hsq
 obtain⟨r1,r2⟩:=r
 simp only at hR1 hR0 hsq hs1
 have hn:=o8 r1
 repeat (first|(refine bG ?_;intro _)|refine y_4 hsd ?_|refine y_4 hsq ?_|refine NW ?_|refine Z81 fun _=>?_|refine Z82 fun _=>?_)
 refine au (by rfl) ?_
 repeat (first|(refine Zqf (by intro _ _ _;(first|(refine ep (by rfl) ((h1).shift (by assumption)) (by rfl) (by rfl) (by first | (refine ab.l ?_;(simp;done)) | (refine ab.r ?_ ?_ <;> (simp;done)) | (refine ab.all ?_;(simp;done))) (by rfl) ?_)|refine Z01 ?_|refine Z02 ?_|refine Z17 ?_|refine Z18 ?_|refine Z19 ?_);exact Zq) ?_)|refine nQ ?_|refine bT hs1 ?_|refine bT hg ?_|refine fw ?_)
 refine Zq0 ?_ (by kernel_rfl)
 repeat (first|refine NW ?_|refine Z81 fun _=>?_|refine Z82 fun _=>?_)
 refine an (by rfl) (fun h=>?_) (fun h=>?_)
 ·rw[hR0 h]
  repeat (first|refine y_4 hn ?_|refine NW ?_|refine Z81 fun _=>?_|refine Z82 fun _=>?_)
  refine aJ (by rfl) (by rfl) (by rfl) fd (by rfl) (by rfl) (by first | with_reducible assumption | (simp[*];done)) fun _ hw=>aa hw SubW.nil ⟨?_,rfl⟩
  rfl
 ·rw[hR1 (Classical.not_not.1 h)]
  repeat (first|refine NW ?_|refine Z81 fun _=>?_|refine Z82 fun _=>?_)
  refine aJ (by rfl) (by rfl) (by rfl) fd (by rfl) (by rfl) (by first | with_reducible assumption | (simp[*];done)) fun _ hw=>aa hw SubW.nil ⟨?_,rfl⟩
  rfl
def wz(u:F2):F2:=Kf.K2.mul zc (Kf.K2.mul u u)
def tz(w:F2):F2:=Kf.K2.add (Kf.K2.mul w w) w
def iw(w:F2):F2:=if tz w=Kf.K2.zero then Kf.K2.mul bc (Kf.K2.inv (Kf.K2.mul zc ac))else Kf.K2.mul (Kf.K2.neg (Kf.K2.mul bc (Kf.K2.inv ac))) (Kf.K2.add Kf.K2.one (Kf.K2.inv (tz w)))
theorem Tx{w t:F2}(ht:t=tz w)(h:t=Kf.K2.zero):iw w=Kf.K2.mul bc (Kf.K2.inv (Kf.K2.mul zc ac)):=by
 subst ht
 exact if_pos h
theorem Bs{w t:F2}(ht:t=tz w)(h:¬t=Kf.K2.zero):iw w=Kf.K2.mul (Kf.K2.neg (Kf.K2.mul bc (Kf.K2.inv ac))) (Kf.K2.add Kf.K2.one (Kf.K2.inv t)):=by
 subst ht
 exact if_neg h
def i5(u:F2):F2×F2:=
 if(cV (Kf.K2.sgn u) (iw (wz u))).2=true then(iw (wz u),(cV (Kf.K2.sgn u) (iw (wz u))).1)
 else(Kf.K2.mul (wz u) (iw (wz u)),(cV (Kf.K2.sgn u) (Kf.K2.mul (wz u) (iw (wz u)))).1)
theorem vu{u w x:F2}{r:F2×Bool}(hw:w=wz u)(hx:x=iw w)(hr:r=cV (Kf.K2.sgn u) x)(h:r.2=true):i5 u=(x,r.1):=by
 subst hw
 subst hx
 subst hr
 rw[i5,if_pos h]
theorem vq{u w x:F2}{r s:F2×Bool}(hw:w=wz u)(hx:x=iw w)(hr:r=cV (Kf.K2.sgn u) x)(h:r.2=false)(hs:s=cV (Kf.K2.sgn u) (Kf.K2.mul w x)):i5 u=(Kf.K2.mul w x,s.1):=by
 subst hw
 subst hx
 subst hr
 subst hs
 rw[i5,if_neg (by rw[h];decide)]
theorem lj{a b:Prop}(k:b)(h:Rm b→a:=by intro k;(first|refine Z01 ?_|refine Z02 ?_|refine Z03 ?_|refine Z04 ?_|refine Z05 ?_|refine Z06 ?_|refine Z07 ?_|refine Z08 ?_|refine Z09 ?_|refine Z10 ?_|refine Z11 ?_|refine Z12 ?_|refine Z13 ?_|refine Z14 ?_|refine Z19 ?_|refine Z24 ?_|refine Z26 ?_|refine Z27 ?_|refine Z29 ?_|refine Z30 ?_|refine Z31 ?_|refine Z32 ?_|refine Z48 ?_|refine Z67 ?_|refine Z77 ?_|refine Z78 ?_|refine Z79 ?_);exact k.h):a:=h ⟨k⟩
theorem fN{a b:Prop}(k:b)(h:Rm b→a:=by intro k;refine R.Zpb (by rfl) (by intro _ _ _;refine ar (v:=LV .u64 (List.replicate 12 0)) (by rfl) (by rfl) fun _=>?_;exact R.eN) ?_;exact k.h):a:=h ⟨k⟩
theorem WE{a b:Prop}(k:b)(h:Rm b→a:=by intro k;refine af (by rfl) (by rfl) (by rfl) (BH) (fun _ _=>trivial) (by rfl) ?_;exact k.h):a:=h ⟨k⟩
theorem O4{a b:Prop}(k:b)(h:Rm b→a:=by intro k;refine af (by rfl) (by rfl) (by rfl) (BE) (fun _ _=>trivial) (by rfl) ?_;exact k.h):a:=h ⟨k⟩
theorem dF{S1 a b:Prop}(s1:S1)(k:b)(h:S1→Rm b→a:=by intro s1 k;refine Nh (hr:=s1) (by rfl) (by rfl) (by rfl) (by kernel_rfl) (by rfl) (by rfl) (by rfl) (by rfl) (by rfl) (by rfl) (by rfl) (by rfl) (by rfl) (by rfl) (by kernel_rfl) (by simp;done) (by simp;done) (by simp;done) (by simp;done) (by rfl) ?_;exact k.h):a:=h s1 ⟨k⟩
theorem PK{a b:Prop}(k:b)(h:Rm b→a:=by intro k;(first|refine fM ?_|refine ft ?_|refine fL ?_|refine Z01 ?_|refine Z02 ?_|refine Z19 ?_|refine Z48 ?_|refine Z77 ?_|refine Z78 ?_|refine Z79 ?_);exact k.h):a:=h ⟨k⟩
theorem PL{a b:Prop}(k:b)(h:Rm b→a:=by intro k;(first|refine WE ?_|refine O4 ?_|refine af (by rfl) (by rfl) (by rfl) (DZ) (fun _ _=>trivial) (by rfl) ?_);exact k.h):a:=h ⟨k⟩
set_option maxHeartbeats 8000000 in
theorem H2{a e:Nat}(ha:a<W^6)(he:e<W^6):Spec Tryz.prog 43 [LV .u64 (D 6 a++D 6 e)] ai [] (IsV (.tuple [LV .u64 (E2 (i5 (k2 a e)).1),LV .u64 (E2 (i5 (k2 a e)).2)].toArray)):=by
 refine ad Tryz.func43 rfl rfl rfl fun w _=>?_
 have hl0:=fun x=>ae 6 x
 have hle:=fun x:F2=>ak x
 have hm1:=gP ha he ha he
 obtain⟨u,hu⟩:∃u:F2,u=k2 a e:=⟨_,rfl⟩
 have hug:Kf.K2.sgn (k2 a e)=Kf.K2.sgn u:=by rw[hu]
 obtain⟨g,hg⟩:∃g,g=Kf.K2.sgn u:=⟨_,rfl⟩
 have hgu:=hg
 rw[← hg]at hug
 rw[← hu]at hm1 ⊢
 clear hu hg
 have hm2:=aF zc (Kf.K2.mul u u)
 generalize hq:Kf.K2.mul u u=q at hm1 hm2
 obtain⟨w1,hw1⟩:∃w1:F2,w1=Kf.K2.mul zc q:=⟨_,rfl⟩
 rw[← hw1]at hm2
 have hw:w1=wz u:=by rw[hw1,← hq];rfl
 clear hw1 hq
 have hww:=aF w1 w1
 have hwt:=cX (Kf.K2.mul w1 w1) w1
 generalize hv:Kf.K2.mul w1 w1=v at hww hwt
 obtain⟨t,ht1⟩:∃t:F2,t=Kf.K2.add v w1:=⟨_,rfl⟩
 rw[← ht1]at hwt
 have ht:t=tz w1:=by rw[ht1,← hv];rfl
 clear ht1 hv
 have hia:=kw ac
 have hba:=aF bc (Kf.K2.inv ac)
 have hnb:=o8 (Kf.K2.mul bc (Kf.K2.inv ac))
 have hX1:=Tx ht
 have hX0:=Bs ht
 generalize Kf.K2.neg (Kf.K2.mul bc (Kf.K2.inv ac))=c0 at hnb hX0
 generalize Kf.K2.mul bc (Kf.K2.inv ac)=c1 at hba hnb
 generalize Kf.K2.inv ac=c2 at hia hba
 clear ht
 repeat (first|(refine bG ?_;intro _)|refine lj ?_|refine Z81 fun _=>?_|refine Z82 fun _=>?_)
 refine R.ag [0,1,2,3,4,5,6] (by rfl) ?_
 repeat (first|(refine R.Zpf (by rfl) (by intro _ _ _;(first|refine PK ?_);exact Zq) ?_)|refine aL ?_|refine cB ?_|(refine R.Zpp (by rfl) (by intro _ _ _;refine af (by rfl) (by rfl) (by rfl) (DZ) (fun _ _=>trivial) (by rfl) ?_;exact Zq) ?_)|refine ah hm1 ?_|refine ah hm2 ?_|refine aA ?_|(refine fN ?_;intro _)|(refine aV ?_;intro _))
 refine R.Zp0 ?_
 repeat (first|refine lj ?_|refine Z81 fun _=>?_|refine Z82 fun _=>?_)
 refine R.ag [0,1,2,3,4,5,6] (by rfl) ?_
 repeat (first|(refine R.Zpf (by rfl) (by intro _ _ _;(first|refine PK ?_);exact Zq) ?_)|refine aL ?_|refine cB ?_|refine ah hww ?_|refine ah hwt ?_|refine aA ?_|(refine fN ?_;intro _)|(refine aV ?_;intro _))
 refine R.Zp0 ?_
 repeat (first|(refine bG ?_;intro _)|refine WE ?_|refine O4 ?_|refine y_4 hia ?_|refine y_4 hba ?_|refine y_4 hnb ?_|refine nR ?_|refine dF (jW t Kf.K2.zero) ?_|refine lj ?_|refine Z81 fun _=>?_|refine Z82 fun _=>?_)
 refine an (by rfl) (fun h=>?_) (fun h=>?_)
 ·have hza:=aF zc ac
  have hzi:=kw (Kf.K2.mul zc ac)
  have hzb:=aF bc (Kf.K2.inv (Kf.K2.mul zc ac))
  obtain⟨x1,hxx⟩:∃x1:F2,x1=Kf.K2.mul bc (Kf.K2.inv (Kf.K2.mul zc ac)):=⟨_,rfl⟩
  have hx1:x1=iw w1:=hxx.trans (hX1 h).symm
  rw[← hxx]at hzb
  generalize Kf.K2.inv (Kf.K2.mul zc ac)=d1 at hzi hzb
  generalize Kf.K2.mul zc ac=d2 at hza hzi
  clear hxx hX1 hX0
  have hr1:=fun u=>iA ha he u x1
  rw[hug]at hr1
  obtain⟨r,hr⟩:∃r,r=cV g x1:=⟨_,rfl⟩
  rw[← hr]at hr1
  have hm3:=aF w1 x1
  obtain⟨x2,hx2⟩:∃x2:F2,x2=Kf.K2.mul w1 x1:=⟨_,rfl⟩
  rw[← hx2]at hm3
  have hr2:=fun u=>iA ha he u x2
  rw[hug]at hr2
  obtain⟨s,hs⟩:∃s,s=cV g x2:=⟨_,rfl⟩
  rw[← hs]at hr2
  have hM1:=fun h=>vu hw hx1 (hr.trans (by rw[hgu])) h
  have hM0:=fun h=>vq hw hx1 (hr.trans (by rw[hgu])) h (hs.trans (by rw[hgu,hx2]))
  rw[← hx2]at hM0
  clear hr hx2 hs hw hx1 hug hgu
  obtain⟨r1,r2⟩:=r
  obtain⟨s1,s2⟩:=s
  simp only at hM1 hM0 hr1 hr2
  cases r2 with
  | true=>
   rw[hM1 rfl]
   clear hM1 hM0
   repeat (first|refine PL ?_|refine y_4 hza ?_|refine y_4 hzi ?_|refine y_4 hzb ?_|refine lj ?_|refine Z81 fun _=>?_|refine Z82 fun _=>?_)
   repeat (first|(refine bG ?_;intro _)|refine mg (hr1 _) ?_|refine lj ?_|refine Z81 fun _=>?_|refine Z82 fun _=>?_)
   refine R.ag [0,1,2,3] (by rfl) ?_
   refine R.Zpp (by rfl) (by intro _ _ _;(first|refine y_7 ?_);exact Zq) ?_
   refine R.zT [2,3] [1,3] (by rfl) (by rfl) (by intro _ _ _;(first|refine y_7 ?_);exact Zq) (by intro _ _ _;(first|refine nO ?_);exact Zqq) ?_ ?_
   case' refine_1=>refine R.Zps (by rfl) (by intro _ _ _;(first|refine nO ?_);exact Zqq) ?_
   case' refine_2=>refine R.D1 (by rfl) (by intro _ _ _;(first|refine y_7 ?_);exact Zq) ?_
   all_goals refine R.Zps (by rfl) (by intro _ _ _;(first|refine nO ?_);exact Zqq) ?_
   all_goals refine R.Zp0 ?_
   all_goals
    repeat (first|refine lj ?_|refine Z81 fun _=>?_|refine Z82 fun _=>?_)
    refine gF (by rfl) (by rfl) (by rfl) fd fd (by rfl) (by rfl) (by first | with_reducible assumption | (simp[*];done)) (by rfl) (by rfl) (by first | with_reducible assumption | (simp[*];done)) fun _ hw=>aa hw SubW.nil ⟨?_,rfl⟩
    rfl
  | false=>
   rw[hM0 rfl]
   clear hM1 hM0
   repeat (first|refine PL ?_|refine y_4 hza ?_|refine y_4 hzi ?_|refine y_4 hzb ?_|refine lj ?_|refine Z81 fun _=>?_|refine Z82 fun _=>?_)
   repeat (first|(refine bG ?_;intro _)|refine mg (hr1 _) ?_|refine y_4 hm3 ?_|refine mg (hr2 _) ?_|refine lj ?_|refine Z81 fun _=>?_|refine Z82 fun _=>?_)
   refine R.ag [0,1,2,3] (by rfl) ?_
   refine R.Zpp (by rfl) (by intro _ _ _;(first|refine y_7 ?_);exact Zq) ?_
   refine R.zT [2,3] [1,3] (by rfl) (by rfl) (by intro _ _ _;(first|refine y_7 ?_);exact Zq) (by intro _ _ _;(first|refine nO ?_);exact Zqq) ?_ ?_
   case' refine_1=>refine R.Zps (by rfl) (by intro _ _ _;(first|refine nO ?_);exact Zqq) ?_
   case' refine_2=>refine R.D1 (by rfl) (by intro _ _ _;(first|refine y_7 ?_);exact Zq) ?_
   all_goals refine R.Zps (by rfl) (by intro _ _ _;(first|refine nO ?_);exact Zqq) ?_
   all_goals refine R.Zp0 ?_
   all_goals
    repeat (first|refine lj ?_|refine Z81 fun _=>?_|refine Z82 fun _=>?_)
    refine gF (by rfl) (by rfl) (by rfl) fd fd (by rfl) (by rfl) (by first | with_reducible assumption | (simp[*];done)) (by rfl) (by rfl) (by first | with_reducible assumption | (simp[*];done)) fun _ hw=>aa hw SubW.nil ⟨?_,rfl⟩
    rfl
 ·have hit:=kw t
  have hio:=cX Kf.K2.one (Kf.K2.inv t)
  have him:=aF c0 (Kf.K2.add Kf.K2.one (Kf.K2.inv t))
  obtain⟨x1,hxx⟩:∃x1:F2,x1=Kf.K2.mul c0 (Kf.K2.add Kf.K2.one (Kf.K2.inv t)):=⟨_,rfl⟩
  have hx1:x1=iw w1:=hxx.trans (hX0 h).symm
  rw[← hxx]at him
  generalize Kf.K2.add Kf.K2.one (Kf.K2.inv t)=d1 at hio him
  generalize Kf.K2.inv t=d2 at hit hio
  clear hxx hX1 hX0
  repeat (first|refine lj ?_|refine Z81 fun _=>?_|refine Z82 fun _=>?_)
  refine au (by rfl) ?_
  repeat (first|(refine Zqf (by intro _ _ _;(first|refine zL ?_|refine NV ?_|refine fM ?_|refine ft ?_|refine fL ?_|refine Z01 ?_|refine Z02 ?_|refine Z19 ?_|refine Z48 ?_|refine Z77 ?_|refine Z78 ?_|refine Z79 ?_);exact Zq) ?_)|refine nQ ?_|refine bT hit ?_|refine bT hio ?_|refine bT him ?_|refine fw ?_)
  refine Zq0 ?_ (by kernel_rfl)
  have hr1:=fun u=>iA ha he u x1
  rw[hug]at hr1
  obtain⟨r,hr⟩:∃r,r=cV g x1:=⟨_,rfl⟩
  rw[← hr]at hr1
  have hm3:=aF w1 x1
  obtain⟨x2,hx2⟩:∃x2:F2,x2=Kf.K2.mul w1 x1:=⟨_,rfl⟩
  rw[← hx2]at hm3
  have hr2:=fun u=>iA ha he u x2
  rw[hug]at hr2
  obtain⟨s,hs⟩:∃s,s=cV g x2:=⟨_,rfl⟩
  rw[← hs]at hr2
  have hM1:=fun h=>vu hw hx1 (hr.trans (by rw[hgu])) h
  have hM0:=fun h=>vq hw hx1 (hr.trans (by rw[hgu])) h (hs.trans (by rw[hgu,hx2]))
  rw[← hx2]at hM0
  clear hr hx2 hs hw hx1 hug hgu
  obtain⟨r1,r2⟩:=r
  obtain⟨s1,s2⟩:=s
  simp only at hM1 hM0 hr1 hr2
  cases r2 with
  | true=>
   rw[hM1 rfl]
   clear hM1 hM0
   repeat (first|refine lj ?_|refine Z81 fun _=>?_|refine Z82 fun _=>?_)
   repeat (first|(refine bG ?_;intro _)|refine mg (hr1 _) ?_|refine lj ?_|refine Z81 fun _=>?_|refine Z82 fun _=>?_)
   refine R.ag [0,1,2,3] (by rfl) ?_
   refine R.Zpp (by rfl) (by intro _ _ _;(first|refine y_7 ?_);exact Zq) ?_
   refine R.zT [2,3] [1,3] (by rfl) (by rfl) (by intro _ _ _;(first|refine y_7 ?_);exact Zq) (by intro _ _ _;(first|refine nO ?_);exact Zqq) ?_ ?_
   case' refine_1=>refine R.Zps (by rfl) (by intro _ _ _;(first|refine nO ?_);exact Zqq) ?_
   case' refine_2=>refine R.D1 (by rfl) (by intro _ _ _;(first|refine y_7 ?_);exact Zq) ?_
   all_goals refine R.Zps (by rfl) (by intro _ _ _;(first|refine nO ?_);exact Zqq) ?_
   all_goals refine R.Zp0 ?_
   all_goals
    repeat (first|refine lj ?_|refine Z81 fun _=>?_|refine Z82 fun _=>?_)
    refine gF (by rfl) (by rfl) (by rfl) fd fd (by rfl) (by rfl) (by first | with_reducible assumption | (simp[*];done)) (by rfl) (by rfl) (by first | with_reducible assumption | (simp[*];done)) fun _ hw=>aa hw SubW.nil ⟨?_,rfl⟩
    rfl
  | false=>
   rw[hM0 rfl]
   clear hM1 hM0
   repeat (first|refine lj ?_|refine Z81 fun _=>?_|refine Z82 fun _=>?_)
   repeat (first|(refine bG ?_;intro _)|refine mg (hr1 _) ?_|refine y_4 hm3 ?_|refine mg (hr2 _) ?_|refine lj ?_|refine Z81 fun _=>?_|refine Z82 fun _=>?_)
   refine R.ag [0,1,2,3] (by rfl) ?_
   refine R.Zpp (by rfl) (by intro _ _ _;(first|refine y_7 ?_);exact Zq) ?_
   refine R.zT [2,3] [1,3] (by rfl) (by rfl) (by intro _ _ _;(first|refine y_7 ?_);exact Zq) (by intro _ _ _;(first|refine nO ?_);exact Zqq) ?_ ?_
   case' refine_1=>refine R.Zps (by rfl) (by intro _ _ _;(first|refine nO ?_);exact Zqq) ?_
   case' refine_2=>refine R.D1 (by rfl) (by intro _ _ _;(first|refine y_7 ?_);exact Zq) ?_
   all_goals refine R.Zps (by rfl) (by intro _ _ _;(first|refine nO ?_);exact Zqq) ?_
   all_goals refine R.Zp0 ?_
   all_goals
    repeat (first|refine lj ?_|refine Z81 fun _=>?_|refine Z82 fun _=>?_)
    refine gF (by rfl) (by rfl) (by rfl) fd fd (by rfl) (by rfl) (by first | with_reducible assumption | (simp[*];done)) (by rfl) (by rfl) (by first | with_reducible assumption | (simp[*];done)) fun _ hw=>aa hw SubW.nil ⟨?_,rfl⟩
    rfl
end
end Go.Proofs.YtndhfbecpghinaaGreat.L
