/- What the proof of the statement about TopSigns stands on, part G. Conditions: as each statement says. -/
import Derived.Test.YtndhfbecpghinaaGreatTopSignsF
import Derived.Test.YtndhfbecpghinaaGreatProg
namespace Go.Proofs.YtndhfbecpghinaaGreat.L
open Go Go.Proofs
set_option maxRecDepth 100000
section
attribute [local irreducible] Code.wp wpList Af bodyPost L.Go ab
open Num
attribute [local simp] ae
section
variable {P:Program} {c:Cx} {n:Nn} {l:Sl} {W:List Res} {ops:Array Oper} {Q:Exit→Act→World→Prop} {rest:List Oper}
variable {d:Nat} {T:TypeId} {pos:String} {after:Array Edge}
end
def hu(m d:List Nat)(i:Nat):F2:=k2 (bA (((fj m d (128*2)).drop (128*i)).take 64)) (bA ((((fj m d (128*2)).drop (128*i)).take 128).drop 64))
theorem QB(m d:List Nat)(i:Nat):fel ((fj m d (128*2)).drop (128*i))=E2 (hu m d i):=BA _
theorem U3(x y:F2):Spec Tryz.prog 22 [LV .u64 (E2 x),LV .u64 (E2 y)] ai [] (IsV (GV (g6 x y))):=by
 have:=EJ (an x.re) (an x.im) (an y.re) (an y.im);rwa [bq,bq]at this
set_option maxHeartbeats 8000000 in
theorem Lm(s1 s2:Value)(m d:List Nat)(hm:Lt 256 m)(hd:Lt 256 d)(hl1:m.length<1073741824)(h1:1≤d.length)(h2:d.length≤255):
  Spec Tryz.prog 9 [s1,s2] (fun w=>Rd w s1 (m.map (N .u8))∧Rd w s2 (d.map (N .u8))) [] (IsV (.tuple [GV (g6 (hu m d 0) (hu m d 1)),N .i64 0].toArray)):=by
 refine ad Tryz.func9 rfl rfl rfl fun w hr=>?_
 have hr1:=RdC.mk0 hr.1
 have hr2:=RdC.mk0 hr.2
 have hl0:=fun x=>ae 6 x
 have hle:=fun x:F2=>ak x
 have hs:=U3 (hu m d 0) (hu m d 1)
 have hfl:(((jY (fj m d (128*2)) 2).flatten).map (N .u64)).length=2*12:=by rw[List.length_map,sQ,jZ]
 have g0:=qm (fj m d (128*2)) (k:=2) (i:=0) (by decide)
 have g1:=qm (fj m d (128*2)) (k:=2) (i:=1) (by decide)
 rw[QB]at g0 g1
 have hE:=sP (fj m d (128*2)) 2
 obtain⟨x1,y1,i1,hq⟩:∃x1 y1 i1,GV (g6 (hu m d 0) (hu m d 1))=GE x1 y1 i1:=⟨_,_,_,rfl⟩
 rw[hq]at hs ⊢
 generalize hu m d 0=u at *
 generalize hu m d 1=v at *
 repeat (first|(refine cD ?_;intro _)|(refine ax (by rfl) (by rfl) (by rfl) (DP s1 s2 m d 2 hm hd hl1 h1 h2 (by decide) (by decide)) .nil (fun w hw=>⟨RdW.old hr1 w hw,RdW.old hr2 w hw⟩) (by rfl) ?_;rintro _ _ ⟨x,rfl,rfl⟩)|refine y_5 ?_|refine Z01 ?_|refine Z02 ?_|refine Z03 ?_|refine Z04 ?_|refine Z05 ?_|refine Z06 ?_|refine Z07 ?_|refine Z08 ?_|refine Z09 ?_|refine Z10 ?_|refine Z11 ?_|refine Z12 ?_|refine Z13 ?_|refine Z14 ?_|refine Z17 ?_|refine Z18 ?_|refine Z19 ?_|refine Z22 ?_|refine Z23 ?_|refine Z24 ?_|refine Z26 ?_|refine Z27 ?_|refine Z29 ?_|refine Z30 ?_|refine Z31 ?_|refine Z32 ?_|refine Z67 ?_|refine Z82 fun _=>?_)
 generalize jY (fj m d (128*2)) 2=L at *
 refine R.af [0,1,2,3,4,5,6,7,8] (by rfl) ?_
 repeat (first|(refine R.Zpf (by rfl) (by intro _ _ _;(first|refine Z01 ?_|refine Z02 ?_|refine Z17 ?_|refine Z18 ?_|refine Z19 ?_|refine Z22 ?_|refine Z23 ?_);exact Zq) ?_)|(refine R.Zpp (by rfl) (by intro _ _ _;(first|refine S7 ?_);exact Zq) ?_)|(refine R.Zpp (by rfl) (by intro _ _ _;(refine fg (m:=12) (s:=x) (i:=0) (k:=2) (kk:=.i64) (by rfl) (by rfl) (by rfl) (by rfl) (RdW.own fd) (by decide) hfl (by decide) (by rfl) ?_);exact Zq) ?_)|(refine R.Zpp (by rfl) (by intro _ _ _;(refine fg (m:=12) (s:=x) (i:=1) (k:=2) (kk:=.i64) (by rfl) (by rfl) (by rfl) (by rfl) (RdW.own fd) (by decide) hfl (by decide) (by rfl) ?_);exact Zq) ?_)|(refine R.Zpp (by rfl) (by intro _ _ _;(refine eE (m:=12) (s:=wide 12 x) (i:=0) (by rfl) (by rfl) (by rfl) (RdW.own fd) hE g0 (by decide) (by rfl) ?_);exact Zq) ?_)|(refine R.Zpp (by rfl) (by intro _ _ _;(refine eE (m:=12) (s:=wide 12 x) (i:=1) (by rfl) (by rfl) (by rfl) (RdW.own fd) hE g1 (by decide) (by rfl) ?_);exact Zq) ?_)|refine ag hs ?_|refine gb ?_|(refine A6 ?_;intro _))
 refine R.Zp0 ?_
 repeat (first|refine Z01 ?_|refine Z02 ?_|refine Z03 ?_|refine Z04 ?_|refine Z05 ?_|refine Z06 ?_|refine Z07 ?_|refine Z08 ?_|refine Z09 ?_|refine Z10 ?_|refine Z11 ?_|refine Z12 ?_|refine Z13 ?_|refine Z14 ?_|refine Z17 ?_|refine Z18 ?_|refine Z19 ?_|refine Z22 ?_|refine Z23 ?_|refine Z24 ?_|refine Z26 ?_|refine Z27 ?_|refine Z29 ?_|refine Z30 ?_|refine Z31 ?_|refine Z32 ?_|refine Z67 ?_|refine Z82 fun _=>?_)
 refine bF (m:=24) (by rfl) (by rfl) (by rfl) fd (by rfl) (by rfl) (by first|with_reducible assumption|simp) fun _ hw=>aa hw SubW.nil ⟨?_,rfl⟩
 rfl
end
end Go.Proofs.YtndhfbecpghinaaGreat.L
namespace Go.Proofs.YtndhfbecpghinaaGreat.L.Pr
structure AG (G:Type) where
 add:G→G→G
 zero:G
 neg:G→G
 assoc:∀a b c,add (add a b) c=add a (add b c)
 comm:∀a b,add a b=add b a
 zadd:∀a,add zero a=a
 nadd:∀a,add (neg a) a=zero
namespace AG
variable {G:Type} (A:AG G)
theorem addz(a:G):A.add a A.zero=a:=by rw[A.comm,A.zadd]
theorem addn(a:G):A.add a (A.neg a)=A.zero:=by rw[A.comm,A.nadd]
theorem can{a b c:G}(h:A.add a b=A.add a c):b=c:=by
 rw[← A.zadd b,← A.nadd a,A.assoc,h,← A.assoc,A.nadd,A.zadd]
theorem four(a b c d:G):A.add (A.add a b) (A.add c d)=A.add (A.add a c) (A.add b d):=by
 rw[A.assoc,A.assoc,← A.assoc b c d,A.comm b c,A.assoc c b d]
def mul(a:G):Nat→G
 | 0=>A.zero
 | k+1=>A.add (mul a k) a
theorem B1(a:G)(k:Nat):A.mul a (k+1)=A.add (A.mul a k) a:=rfl
theorem mul_one(a:G):A.mul a 1=a:=A.zadd a
theorem mul_add(a:G)(j k:Nat):A.mul a (j+k)=A.add (A.mul a j) (A.mul a k):=by
 induction k with
 | zero=>exact(A.addz _).symm
 | succ k ih=>rw[← Nat.add_assoc,B1,ih,B1,A.assoc]
theorem mul_mul(a:G)(j k:Nat):A.mul a (j*k)=A.mul (A.mul a j) k:=by
 induction k with
 | zero=>rfl
 | succ k ih=>rw[Nat.mul_succ,mul_add,ih,B1]
theorem mul_zero(k:Nat):A.mul A.zero k=A.zero:=by
 induction k with
 | zero=>rfl
 | succ k ih=>rw[B1,ih,A.zadd]
theorem neg_eq{a b:G}(h:A.add a b=A.zero):A.neg b=a:=by
 apply A.can (a:=b)
 rw[A.addn,A.comm,h]
theorem lagrange{H:List G}(hn:H.Nodup)(h0:A.zero∈H)(hs:∀a∈H,∀b∈H,A.add a (A.neg b)∈H):
  ∀(n:Nat)(L:List G),L.length=n→L.Nodup→(∀x∈L,∀h∈H,A.add x h∈L)→H.length∣L.length:=by
 intro n
 induction n using Nat.strongRecOn with
 | ind n ih=>
  intro L hL hd hc
  cases L with
  | nil=>exact Nat.dvd_zero _
  | cons g r=>
   obtain⟨C,hC⟩:∃C,C=H.map (A.add g):=⟨_,rfl⟩
   have hCn:C.Nodup:=by
    rw[hC];exact List.pairwise_map.2 (hn.imp fun h e=>h (A.can e))
   have hm:∀x,x∈C↔∃h∈H,A.add g h=x:=fun x=>by rw[hC];exact List.mem_map
   haveI:DecidablePred (fun x=>x∈C):=fun _=>Classical.propDecidable _
   obtain⟨L',hL'⟩:∃L',L'=(g::r).filter (fun x=>!decide (x∈C)):=⟨_,rfl⟩
   have hm':∀x,x∈L'↔x∈g::r∧x∉C:=fun x=>by rw[hL',List.mem_filter];simp
   have hn':L'.Nodup:=by rw[hL'];exact hd.filter _
   have hp:(C++L').Perm (g::r):=by
    refine(List.perm_ext_iff_of_nodup ?_ hd).2 fun x=>?_
    ·rw[List.nodup_append]
     exact⟨hCn,hn',fun a ha b hb e=>((hm' b).1 hb).2 (e ▸ ha)⟩
    ·rw[List.mem_append,hm' x]
     constructor
     ·rintro(h | h)
      ·obtain⟨y,hy,rfl⟩:=(hm x).1 h
       exact hc g (List.mem_cons_self ..) y hy
      ·exact h.1
     ·intro h
      by_cases hx:x∈C
      ·exact .inl hx
      ·exact .inr ⟨h,hx⟩
   have hlen:=hp.length_eq
   rw[List.length_append,show C.length=H.length by rw[hC,List.length_map]]at hlen
   have hH:0<H.length:=List.length_pos_of_mem h0
   have:=ih L'.length (by omega) L' rfl hn' (fun x hx h hh=>by
    have hx':=(hm' x).1 hx
    refine(hm' _).2 ⟨hc x hx'.1 h hh,fun hin=>hx'.2 ?_⟩
    obtain⟨y,hy,he⟩:=(hm _).1 hin
    refine(hm x).2 ⟨A.add y (A.neg h),hs y hy h hh,?_⟩
    rw[← A.assoc,he,A.assoc,A.addn,A.addz])
   rw[← hlen]
   exact Nat.dvd_add (Nat.dvd_refl _) this
structure All (L:List G):Prop where
 nd:L.Nodup
 all:∀x,x∈L
theorem kh{f:Nat→G}{n:Nat}(h:∀i j,i<j→j<n→f i≠f j):((List.range n).map f).Nodup:=by
 refine List.pairwise_map.2 ?_
 refine List.Pairwise.imp_of_mem ?_ List.pairwise_lt_range
 intro i j hi hj hij
 exact h i j hij (List.mem_range.1 hj)
theorem mul_sub0{a:G}{i j:Nat}(hij:i≤j)(h:A.mul a i=A.mul a j):A.mul a (j-i)=A.zero:=by
 apply A.can (a:=A.mul a i)
 rw[← A.mul_add,A.addz,Nat.add_sub_cancel' hij,h]
theorem yx:∀{l L:List G},l.Nodup→(∀x∈l,x∈L)→l.length≤L.length
 | [],_,_,_=>Nat.zero_le _
 | x::l,L,hl,hs=>by
  haveI:DecidableEq G:=fun _ _=>Classical.propDecidable _
  have hx:=hs x (List.mem_cons_self ..)
  have hn:=List.nodup_cons.1 hl
  have:=yx (l:=l) (L:=L.erase x) hn.2 (fun y hy=>(List.mem_erase_of_ne (show y≠x from fun e=>hn.1 (e ▸ hy))).2 (hs y (List.mem_cons_of_mem _ hy)))
  rw[List.length_erase_of_mem hx]at this
  have:=List.length_pos_of_mem hx
  rw[List.length_cons]
  omega
theorem uW{p j:Nat}(hp:aU p)(hj:¬p∣j):∃t,j*t%p=1:=by
 have h1:=hp.1
 have:=zQ hp hj
 obtain⟨q,rfl⟩:∃q,p=q+2:=⟨p-2,by omega⟩
 refine⟨j^q,?_⟩
 rwa [show q+2-1=q+1 by omega,Nat.pow_succ,Nat.mul_comm]at this
theorem order{L:List G}(hL:All L)(a:G):∃d,0<d∧A.mul a d=A.zero∧(∀m,A.mul a m=A.zero→d∣m)∧d∣L.length:=by
 have hex:∃d,0<d∧A.mul a d=A.zero:=by
  apply Classical.byContradiction
  intro hc
  have:=yx (L:=L) (l:=(List.range (L.length+1)).map (A.mul a)) (kh fun i j hij _ e=>hc ⟨j-i,by omega,A.mul_sub0 (Nat.le_of_lt hij) e⟩) (fun x _=>hL.all x)
  rw[List.length_map,List.length_range]at this
  omega
 have hmin:∃d,(0<d∧A.mul a d=A.zero)∧∀m,m<d→¬(0<m∧A.mul a m=A.zero):=by
  obtain⟨d,hd⟩:=hex
  induction d using Nat.strongRecOn with
  | ind d ih=>
   by_cases h:∃m,m<d∧0<m∧A.mul a m=A.zero
   ·obtain⟨m,hm,h2⟩:=h
    exact ih m hm h2
   ·exact⟨d,hd,fun m hm h2=>h ⟨m,hm,h2⟩⟩
 obtain⟨d,⟨hd0,hd⟩,hlt⟩:=hmin
 have hdiv:∀m,A.mul a m=A.zero→d∣m:=by
  intro m hm
  have h1:A.mul a (m%d)=A.zero:=by
   have h2:A.mul a (d*(m/d)+m%d)=A.zero:=by rw[Nat.div_add_mod];exact hm
   rwa [A.mul_add,A.mul_mul,hd,A.mul_zero,A.zadd]at h2
  apply Nat.dvd_of_mod_eq_zero
  apply Classical.byContradiction
  intro h0
  exact hlt _ (Nat.mod_lt _ hd0) ⟨by omega,h1⟩
 refine⟨d,hd0,hd,hdiv,?_⟩
 have hH:((List.range d).map (A.mul a)).Nodup:=kh fun i j hij hj e=>hlt (j-i) (by omega) ⟨by omega,A.mul_sub0 (Nat.le_of_lt hij) e⟩
 have hmem:∀k,A.mul a k∈(List.range d).map (A.mul a):=fun k=>List.mem_map.2 ⟨k%d,List.mem_range.2 (Nat.mod_lt _ hd0),by
  have:A.mul a (d*(k/d)+k%d)=A.mul a (k%d):=by rw[A.mul_add,A.mul_mul,hd,A.mul_zero,A.zadd]
  rw[← this,Nat.div_add_mod]⟩
 have:=A.lagrange hH (hmem 0) (by
  intro x hx y hy
  obtain⟨i,_,rfl⟩:=List.mem_map.1 hx
  obtain⟨j,hj,rfl⟩:=List.mem_map.1 hy
  have hj:=List.mem_range.1 hj
  have e:A.neg (A.mul a j)=A.mul a (d-j):=A.neg_eq (by rw[← A.mul_add,Nat.sub_add_cancel (Nat.le_of_lt hj),hd])
  rw[e,← A.mul_add]
  exact hmem _) L.length L rfl hL.nd (fun x _ h _=>hL.all _)
 rwa [List.length_map,List.length_range]at this
theorem mul_all{L:List G}(hL:All L)(a:G):A.mul a L.length=A.zero:=by
 obtain⟨d,_,h1,_,e,he⟩:=A.order hL a
 rw[he,A.mul_mul,h1,A.mul_zero]
theorem prime_dvd{L:List G}(hL:All L){a:G}{p:Nat}(hp:aU p)(ha:a≠A.zero)(h:A.mul a p=A.zero):p∣L.length:=by
 obtain⟨d,_,h1,h2,h3⟩:=A.order hL a
 rcases hp.2 d (h2 p h)with rfl | rfl
 ·exact absurd (by rw[← A.mul_one a];exact h1) ha
 ·exact h3
theorem square_dvd{L:List G}(hL:All L){a b:G}{p:Nat}(hp:aU p)(ha:a≠A.zero)(h1:A.mul a p=A.zero)(h2:A.mul b p=A.zero)
  (hb:∀i,i<p→b≠A.mul a i):p*p∣L.length:=by
 have hp0:=hp.pos
 have hmod:∀(c:G),A.mul c p=A.zero→∀k,A.mul c k=A.mul c (k%p):=fun c hc k=>by
  have:A.mul c (p*(k/p)+k%p)=A.mul c (k%p):=by rw[A.mul_add,A.mul_mul,hc,A.mul_zero,A.zadd]
  rw[← this,Nat.div_add_mod]
 have hneg:∀(c:G),A.mul c p=A.zero→∀j,A.neg (A.mul c j)=A.mul c (p*j-j):=fun c hc j=>A.neg_eq (by
  rw[← A.mul_add,Nat.sub_add_cancel (Nat.le_mul_of_pos_left j hp0),A.mul_mul,hc,A.mul_zero])
 have hord:∀(c:G),c≠A.zero→A.mul c p=A.zero→∀k,A.mul c k=A.zero→p∣k:=fun c hc hcp k hk=>by
  obtain⟨d,_,e1,e2,_⟩:=A.order hL c
  rcases hp.2 d (e2 p hcp)with rfl | rfl
  ·exact absurd (by rw[← A.mul_one c];exact e1) hc
  ·exact e2 k hk
 have hb0:b≠A.zero:=hb 0 hp0
 have key:∀i j,A.mul b j=A.mul a i→p∣j:=by
  intro i j hij
  apply Classical.byContradiction
  intro hj
  obtain⟨t,ht⟩:=uW hp hj
  have e1:A.mul b (j*t)=b:=by rw[hmod b h2,ht,A.mul_one]
  rw[A.mul_mul,hij,← A.mul_mul,hmod a h1]at e1
  exact hb _ (Nat.mod_lt _ hp0) e1.symm
 let f:Nat→G:=fun k=>A.add (A.mul a (k/p)) (A.mul b (k%p))
 have hlin:∀i j i' j',A.add (A.mul a i) (A.mul b j)=A.add (A.mul a i') (A.mul b j')→p∣(i+(p*i'-i'))∧p∣(j+(p*j'-j')):=by
  intro i j i' j' h
  have e1:A.add (A.mul a (i+(p*i'-i'))) (A.mul b (j+(p*j'-j')))=A.zero:=by
   rw[A.mul_add,A.mul_add,A.four,h,A.four,← A.mul_add,← A.mul_add,Nat.add_sub_cancel' (Nat.le_mul_of_pos_left i' hp0),Nat.add_sub_cancel' (Nat.le_mul_of_pos_left j' hp0),A.mul_mul,A.mul_mul,h1,h2,A.mul_zero,A.mul_zero,A.zadd]
  have e2:A.mul b (j+(p*j'-j'))=A.neg (A.mul a (i+(p*i'-i'))):=(A.neg_eq (by rw[A.comm];exact e1)).symm
  have e3:=key _ _ (e2.trans (hneg a h1 _))
  refine⟨?_,e3⟩
  obtain⟨m,hm⟩:=e3
  rw[hm,A.mul_mul,h2,A.mul_zero,A.addz]at e1
  exact hord a ha h1 _ e1
 have hmodeq:∀x y,x<p→y<p→p∣(x+(p*y-y))→x=y:=by
  intro x y hx hy h
  obtain⟨q,rfl⟩:∃q,p=q+1:=⟨p-1,by omega⟩
  rw[show(q+1)*y-y=q*y by rw[Nat.add_mul,Nat.one_mul,Nat.add_sub_cancel]]at h
  have e:(x+q*y+y)%(q+1)=y%(q+1):=by
   obtain⟨m,hm⟩:=h
   rw[hm,Nat.mul_add_mod]
  rw[show x+q*y+y=x+(q+1)*y by rw[Nat.add_mul,Nat.one_mul,Nat.add_assoc],Nat.add_mul_mod_self_left,Nat.mod_eq_of_lt hx,Nat.mod_eq_of_lt hy]at e
  exact e
 have hH:((List.range (p*p)).map f).Nodup:=kh fun k k' hk hk' e=>by
  have hlt:k/p<p:=Nat.div_lt_of_lt_mul (by omega)
  have hlt':k'/p<p:=Nat.div_lt_of_lt_mul hk'
  obtain⟨e1,e2⟩:=hlin _ _ _ _ e
  have e1:=hmodeq _ _ hlt hlt' e1
  have e2:=hmodeq _ _ (Nat.mod_lt _ hp0) (Nat.mod_lt _ hp0) e2
  have:=Nat.div_add_mod k p
  have:=Nat.div_add_mod k' p
  rw[e1,e2]at *
  omega
 have hmem:∀i j,A.add (A.mul a i) (A.mul b j)∈(List.range (p*p)).map f:=fun i j=>List.mem_map.2 ⟨p*(i%p)+j%p,List.mem_range.2 (by
  have h3:=Nat.mod_lt i hp0
  have h4:=Nat.mod_lt j hp0
  calc p*(i%p)+j%p<p*(i%p)+p:=by omega
   _=p*(i%p+1):=by rw[Nat.mul_add,Nat.mul_one]
   _≤p*p:=Nat.mul_le_mul_left _ h3),by
  show A.add (A.mul a ((p*(i%p)+j%p)/p)) (A.mul b ((p*(i%p)+j%p)%p))=_
  rw[Nat.mul_add_div hp0,Nat.div_eq_of_lt (Nat.mod_lt j hp0),Nat.add_zero,Nat.mul_add_mod,Nat.mod_mod,← hmod a h1,← hmod b h2]⟩
 have:=A.lagrange hH (by have:=hmem 0 0;rwa [show A.add (A.mul a 0) (A.mul b 0)=A.zero from A.zadd _]at this) (by
  intro x hx y hy
  obtain⟨k,_,rfl⟩:=List.mem_map.1 hx
  obtain⟨k',_,rfl⟩:=List.mem_map.1 hy
  show A.add (A.add (A.mul a (k/p)) (A.mul b (k%p))) (A.neg (A.add (A.mul a (k'/p)) (A.mul b (k'%p))))∈_
  have e:A.neg (A.add (A.mul a (k'/p)) (A.mul b (k'%p)))=A.add (A.mul a (p*(k'/p)-k'/p)) (A.mul b (p*(k'%p)-k'%p)):=A.neg_eq (by
   rw[A.four,← A.mul_add,← A.mul_add,Nat.sub_add_cancel (Nat.le_mul_of_pos_left _ hp0),Nat.sub_add_cancel (Nat.le_mul_of_pos_left _ hp0),A.mul_mul,A.mul_mul,h1,h2,A.mul_zero,A.mul_zero,A.zadd])
  rw[e,A.four,← A.mul_add,← A.mul_add]
  exact hmem _ _) L.length L rfl hL.nd (fun x _ h _=>hL.all _)
 rwa [List.length_map,List.length_range]at this
end AG
theorem Wz{α:Type}(l:List α):∃m:List α,m.Nodup∧(∀x,x∈m↔x∈l)∧m.length≤l.length:=by
 induction l with
 | nil=>exact⟨[],List.nodup_nil,fun _=>Iff.rfl,Nat.le_refl _⟩
 | cons x l ih=>
  obtain⟨m,h1,h2,h3⟩:=ih
  by_cases h:x∈m
  ·exact⟨m,h1,fun y=>by
    rw[List.mem_cons,h2 y]
    exact⟨.inr,fun hy=>hy.elim (fun e=>e ▸ (h2 x).1 h) id⟩,Nat.le_succ_of_le h3⟩
  ·exact⟨x::m,List.nodup_cons.2 ⟨h,h1⟩,fun y=>by rw[List.mem_cons,List.mem_cons,h2 y],Nat.succ_le_succ h3⟩
end Go.Proofs.YtndhfbecpghinaaGreat.L.Pr
namespace Go.Proofs.YtndhfbecpghinaaGreat.L.Kf
open Pr
namespace K2
variable {n:Nat} [NeZero n]
attribute [local irreducible] add mul sub neg zero one inv
abbrev Cu(b:K2 n):={q:Pt n // Onc b q}
section
variable (hp:P3 n) {b:K2 n} (h2:No2 b)
def cg:AG (Cu b) where
 add P Q:=⟨pa P.1 Q.1,dh hp P.2 Q.2⟩
 zero:=⟨none,trivial⟩
 neg P:=⟨pn P.1,cF P.2⟩
 assoc P Q R:=Subtype.ext (fZ hp h2 P.2 Q.2 R.2)
 comm P Q:=Subtype.ext (dI hp P.2 Q.2)
 zadd _:=Subtype.ext rfl
 nadd P:=Subtype.ext (mU hp P.1)
theorem FV(P:Cu b)(k:Nat):((cg hp h2).mul P k).1=tim P.1 k:=by
 induction k with
 | zero=>rfl
 | succ k ih=>show pa ((cg hp h2).mul P k).1 P.1=pa (tim P.1 k) P.1;rw[ih]
theorem uy{P:Cu b}:P=(cg hp h2).zero↔P.1=none:=⟨fun e=>congrArg Subtype.val e,fun e=>Subtype.ext e⟩
theorem pq{P:Cu b}{k:Nat}:(cg hp h2).mul P k=(cg hp h2).zero↔tim P.1 k=none:=by
 rw[uy,FV]
end
def FM(n:Nat)[NeZero n]:List (K2 n):=(List.range (n*n)).map fun k=>⟨κ n (k/n),κ n (k%n)⟩
theorem FN(x:K2 n):x∈FM n:=by
 have h0:0<n:=Nat.pos_of_ne_zero (NeZero.ne n)
 refine List.mem_map.2 ⟨n*x.re.val+x.im.val,List.mem_range.2 ?_,?_⟩
 ·have h1:=x.re.isLt
  have h3:=x.im.isLt
  calc n*x.re.val+x.im.val<n*x.re.val+n:=by omega
   _=n*(x.re.val+1):=by rw[Nat.mul_add,Nat.mul_one]
   _≤n*n:=Nat.mul_le_mul_left _ h1
 ·refine ext' ?_ ?_
  ·show κ n ((n*x.re.val+x.im.val)/n)=x.re
   rw[Nat.mul_add_div h0,Nat.div_eq_of_lt x.im.isLt,Nat.add_zero,iK]
  ·show κ n ((n*x.re.val+x.im.val)%n)=x.im
   rw[Nat.mul_add_mod,lZ,iK]
theorem wV{α β:Type}(f:α→List β)(h:∀x,(f x).length≤2):∀l:List α,(l.flatMap f).length≤2*l.length
 | []=>Nat.le_refl _
 | x::l=>by
  rw[List.flatMap_cons,List.length_append,List.length_cons]
  have:=h x
  have:=wV f h l
  omega
open Classical in
noncomputable def over(b x:K2 n):List (Cu b):=
 if h:∃y,Onc b (some (x,y))then[⟨some (x,h.choose),h.choose_spec⟩,⟨some (x,neg h.choose),cF h.choose_spec⟩]else[]
theorem In(b x:K2 n):(over b x).length≤2:=by
 unfold over
 split
 ·exact Nat.le_refl _
 ·exact Nat.zero_le _
theorem Im(hp:P3 n){b x y:K2 n}(h:Onc b (some (x,y))):(⟨some (x,y),h⟩:Cu b)∈over b x:=by
 unfold over
 have hex:∃y,Onc b (some (x,y)):=⟨y,h⟩
 rw[dif_pos hex]
 have hz:mul hex.choose hex.choose=mul y y:=(bK hex.choose_spec).trans (bK h).symm
 rcases aW hp (Cw hz)with e | e
 ·have e:=aE e
  refine List.mem_cons.2 (.inl (Subtype.ext ?_))
  show some (x,y)=some (x,hex.choose)
  rw[e]
 ·have e:=aP e
  refine List.mem_cons_of_mem _ (List.mem_singleton.2 (Subtype.ext ?_))
  show some (x,y)=some (x,neg hex.choose)
  rw[e,br]
theorem IF(hp:P3 n)(b:K2 n):∃L:List (Cu b),AG.All L∧L.length≤2*(n*n)+1:=by
 obtain⟨L,h1,h2,h3⟩:=Wz ((⟨none,trivial⟩:Cu b)::(FM n).flatMap (over b))
 refine⟨L,⟨h1,fun P=>(h2 P).2 ?_⟩,Nat.le_trans h3 ?_⟩
 ·obtain⟨P,hP⟩:=P
  cases P with
  | none=>exact List.mem_cons_self ..
  | some q=>exact List.mem_cons_of_mem _ (List.mem_flatMap.2 ⟨q.1,FN _,Im hp hP⟩)
 ·rw[List.length_cons]
  have:=wV (over b) (In b) (FM n)
  rw[show(FM n).length=n*n by unfold FM;rw[List.length_map,List.length_range]]at this
  exact Nat.succ_le_succ this
theorem AW{b:K2 n}(h2:No2 b){q:Pt n}(ho:Onc b q)(h:pa q q=none):q=none:=by
 cases q with
 | none=>rfl
 | some q=>
  have hy:=gF h2 (bK ho)
  exfalso
  have:pa (some q) (some q)=some (cx (f6 q.1 q.2) q.1 q.1,cy (f6 q.1 q.2) q.1 q.2 q.1):=by
   show(if q.1=q.1 then if q.2=q.2∧q.2≠zero then _ else _ else _)=_
   rw[if_pos rfl,if_pos ⟨rfl,hy⟩]
  rw[this]at h
  cases h
theorem Up(hp:P3 n){b:K2 n}(h2:No2 b){M:Nat}(hM:∀L:List (Cu b),AG.All L→M∣L.length)(hb:2*(n*n)+1<3*M){q:Pt n}(ho:Onc b q):tim q M=none:=by
 obtain⟨L,hL,hlen⟩:=IF hp b
 obtain⟨k,hk⟩:=hM L hL
 have h0:0<L.length:=List.length_pos_of_mem (hL.all (⟨none,trivial⟩:Cu b))
 have h:=(cg hp h2).mul_all hL ⟨q,ho⟩
 rw[pq]at h
 rw[hk]at h h0 hlen
 have hk3:k<3:=by
  apply Classical.byContradiction
  intro hc
  have:=Nat.mul_le_mul_left M (Nat.le_of_not_lt hc)
  omega
 have hk0:k≠0:=by rintro rfl;rw[Nat.mul_zero]at h0;omega
 rcases(show k=1∨k=2 by omega)with rfl | rfl
 ·rwa [Nat.mul_one]at h
 ·rw[Nat.mul_two]at h
  have h3:pa (tim q M) (tim q M)=none:=by rw[← fi hp h2 ho];exact h
  exact AW h2 (cW hp ho M) h3
theorem rs(hp:P3 n){b:K2 n}(h2:No2 b){q:Pt n}(ho:Onc b q)(hq:q≠none){l:Nat}(hl:aU l)(h:tim q l=none):∀L:List (Cu b),AG.All L→l∣L.length:=fun _ hL=>
 (cg hp h2).prime_dvd hL (a:=⟨q,ho⟩) hl (fun e=>hq ((uy hp h2).1 e)) ((pq hp h2).2 h)
theorem vE(hp:P3 n){b:K2 n}(h2:No2 b){q s:Pt n}(ho:Onc b q)(hs:Onc b s)(hq:q≠none){l:Nat}(hl:aU l)(h:tim q l=none)(h':tim s l=none)(hn:∀i,i<l→s≠tim q i):∀L:List (Cu b),AG.All L→l*l∣L.length:=fun _ hL=>
 (cg hp h2).square_dvd hL (a:=⟨q,ho⟩) (b:=⟨s,hs⟩) hl (fun e=>hq ((uy hp h2).1 e)) ((pq hp h2).2 h) ((pq hp h2).2 h') (fun i hi e=>hn i hi (by rw[← FV hp h2 ⟨q,ho⟩];exact congrArg Subtype.val e))
end K2
end Go.Proofs.YtndhfbecpghinaaGreat.L.Kf
namespace Go.Proofs.YtndhfbecpghinaaGreat.L.Pr
set_option maxRecDepth 100000
theorem Iw:aU 13:=jL 2 (by decide +kernel)
theorem Ix:aU 23:=jL 2 (by decide +kernel)
theorem Av:aU 2713:=jL 6 (by decide +kernel)
theorem xJ:aU 11953:=jL 7 (by decide +kernel)
theorem vA:aU 262069:=jL 9 (by decide +kernel)
theorem sv:aU 1367711:=jL 11 (by decide +kernel)
theorem Ep:aU 541:=jL 5 (by decide +kernel)
theorem Iy:aU 12192593745179:=lN (f:=44) [(1367711,0,2),(541,0,2)] (by
 intro x hx
 simp only[List.mem_cons,List.not_mem_nil,or_false]at hx
 rcases hx with rfl | rfl
 ·exact sv
 ·exact Ep) (by decide +kernel)
theorem Iz:aU 512088937297519:=lN (f:=49) [(12192593745179,0,2)] (by
 intro x hx
 simp only[List.mem_cons,List.not_mem_nil,or_false]at hx
 rcases hx with rfl
 ·exact Iy) (by decide +kernel)
theorem Er:aU 1857858664515398933:=lN (f:=61) [(512088937297519,0,2)] (by
 intro x hx
 simp only[List.mem_cons,List.not_mem_nil,or_false]at hx
 rcases hx with rfl
 ·exact Iz) (by decide +kernel)
theorem Es:aU 22294303974184787197:=lN (f:=65) [(1857858664515398933,0,2)] (by
 intro x hx
 simp only[List.mem_cons,List.not_mem_nil,or_false]at hx
 rcases hx with rfl
 ·exact Er) (by decide +kernel)
theorem Et:aU 19931107752921199754119:=lN (f:=75) [(22294303974184787197,0,2)] (by
 intro x hx
 simp only[List.mem_cons,List.not_mem_nil,or_false]at hx
 rcases hx with rfl
 ·exact Es) (by decide +kernel)
theorem Eu:aU 81162125843606155545104998607900118769099783:=lN (f:=146) [(19931107752921199754119,0,2)] (by
 intro x hx
 simp only[List.mem_cons,List.not_mem_nil,or_false]at hx
 rcases hx with rfl
 ·exact Et) (by decide +kernel)
theorem Ev:aU 26935696298915610574513298451669528361624243820491956655650666425177:=lN (f:=224) [(81162125843606155545104998607900118769099783,0,2)] (by
 intro x hx
 simp only[List.mem_cons,List.not_mem_nil,or_false]at hx
 rcases hx with rfl
 ·exact Eu) (by decide +kernel)
theorem Ew:aU 4638704574076146691498289350639807119782054683906549022985642612861209609656189848749536921852444848596916990932297:=lN (f:=381) [(26935696298915610574513298451669528361624243820491956655650666425177,0,2)] (by
 intro x hx
 simp only[List.mem_cons,List.not_mem_nil,or_false]at hx
 rcases hx with rfl
 ·exact Ev) (by decide +kernel)
theorem Mi:aU 402096035359507321594726366720466575392706800671181159425656785868777272553337714697862511267018014931937703598282857976535744623203249:=lN (f:=448) [(4638704574076146691498289350639807119782054683906549022985642612861209609656189848749536921852444848596916990932297,0,2)] (by
 intro x hx
 simp only[List.mem_cons,List.not_mem_nil,or_false]at hx
 rcases hx with rfl
 ·exact Ew) (by decide +kernel)
end Go.Proofs.YtndhfbecpghinaaGreat.L.Pr
namespace Go.Proofs.YtndhfbecpghinaaGreat.L
open Go Go.Proofs
set_option maxRecDepth 100000
section
attribute [local irreducible] Code.wp wpList Af bodyPost L.Go
open Num
theorem Ru{S:Kf.K2.St}{P:Kf.K2.Pt p}{x:Kf.K2.PN}{y:F2}(h:Kf.K2.Stands S P)(hd:(Kf.K2.isz S.z || !Kf.K2.isz (Kf.K2.plH p S x))=true):(some (Kf.K2.red p x,y):Kf.K2.Pt p)≠P:=by
 intro e
 have hz:Kf.K2.isz S.z=false:=by
  cases hz:Kf.K2.isz S.z with
  | false=>rfl
  | true=>rw[h.none_iff.1 hz]at e;cases e
 rw[hz,Bool.false_or]at hd
 have z0:Kf.K2.red p S.z≠Kf.K2.zero:=fun e=>by rw[(Kf.K2.dV h.z).2 e]at hz;cases hz
 rw[← h.e,Kf.K2.pd z0]at e
 have e1:Kf.K2.red p x=Kf.K2.jx (Kf.K2.red p S.x) (Kf.K2.red p S.z):=congrArg (fun o:Kf.K2.Pt p=>match o with | none=>Kf.K2.zero | some q=>q.1) e
 have hi:=(Kf.K2.aI p_3 z0).trans Kf.K2.dK.symm
 have e2:=Kf.K2.Oh hi e1.symm
 have hn:=Nat.dvd_refl p
 have h0:=bX
 have e3:Kf.K2.red p (Kf.K2.plH p S x)=Kf.K2.zero:=by
  rw[← e2]
  simp only[Kf.K2.plH,Kf.K2.dX hn h0,Kf.K2.cZ hn h0,Kf.K2.pH]
 have e4:=(Kf.K2.dV (Kf.K2.jo h0 _ _)).2 e3
 rw[show Kf.K2.dq p (Kf.K2.aO p x (Kf.K2.aO p S.z S.z)) S.x=Kf.K2.plH p S x from rfl]at e4
 rw[e4]at hd
 cases hd
theorem H4{a b x:Kf.K2.PN}{y:F2}{l f:Nat}(ha:Kf.K2.ltP p a)(hb:Kf.K2.ltP p b)(ho:Kf.K2.Onc b2c (some (Kf.K2.red p a,Kf.K2.red p b)))(hl:l≤2^f)
  (h:(List.range l).all (fun i=>(Kf.K2.jgo p a b i f Kf.K2.vj).g&&(Kf.K2.isz (Kf.K2.jgo p a b i f Kf.K2.vj).z || !Kf.K2.isz (Kf.K2.plH p (Kf.K2.jgo p a b i f Kf.K2.vj) x)))=true):
  ∀i,i<l→(some (Kf.K2.red p x,y):Kf.K2.Pt p)≠Kf.K2.tim (some (Kf.K2.red p a,Kf.K2.red p b)) i:=by
 intro i hi
 have:=List.all_eq_true.1 h i (List.mem_range.2 hi)
 rw[Bool.and_eq_true]at this
 exact Ru (Kf.K2.kQ p_3 no2 ha hb ho (Nat.lt_of_lt_of_le hi hl) this.1) this.2
theorem gB{a b:Kf.K2.PN}{l f:Nat}(ha:Kf.K2.ltP p a)(hb:Kf.K2.ltP p b)(ho:Kf.K2.Onc b2c (some (Kf.K2.red p a,Kf.K2.red p b)))(hl:l<2^f)
  (h:((Kf.K2.jgo p a b l f Kf.K2.vj).g&&Kf.K2.isz (Kf.K2.jgo p a b l f Kf.K2.vj).z)=true):Kf.K2.tim (some (Kf.K2.red p a,Kf.K2.red p b)) l=none:=by
 rw[Bool.and_eq_true]at h
 exact(Kf.K2.kQ p_3 no2 ha hb ho hl h.1).none_iff.1 h.2
def e0x:Kf.K2.PN:=(2732930528131101971611217246881750180683106134772116261772097223311611715341772080980349520485631927061565093082500,1624804182323061415002419486356893015843508388518757766191076390287001054493882962454462225453782815125112967330584)
def e0y:Kf.K2.PN:=(3893467846353003864083661299790087060260354055047221126513507759929187214484574158304677596688901387144120631851774,2873576094645233262270805484403102892230821419438861944784945239971798137977557654440842298211373996744583467941995)
theorem TJ:Kf.K2.ltP p e0x:=by unfold Kf.K2.ltP;decide +kernel
theorem TK:Kf.K2.ltP p e0y:=by unfold Kf.K2.ltP;decide +kernel
theorem NG:Kf.K2.Onc b2c (some (Kf.K2.red p e0x,Kf.K2.red p e0y)):=show Kf.K2.mul (Kf.K2.red p e0y) (Kf.K2.red p e0y)=Kf.K2.add (Kf.K2.mul (Kf.K2.mul (Kf.K2.red p e0x) (Kf.K2.red p e0x)) (Kf.K2.red p e0x)) b2c by decide +kernel
theorem V9:Kf.K2.tim (some (Kf.K2.red p e0x,Kf.K2.red p e0y)) 2713=none:=gB (f:=12) TJ TK NG (by decide +kernel) (by decide +kernel)
def e1x:Kf.K2.PN:=(1854247552200671796290762094682081485062549137983414518419843264824777516848488982835075644141168762016099863964496,2453262726586132397845514920992038643697890559672297260083862336800848889493047522898371412514810404361560560182806)
def e1y:Kf.K2.PN:=(631050874728479091129663852256436773847489913836429807617462696769036715252939950774471986733361765681933794962003,3319851878711540555087758712995160246069763043719470346209582337524366152400752646724264963790353006193191809034212)
theorem TP:Kf.K2.ltP p e1x:=by unfold Kf.K2.ltP;decide +kernel
theorem TQ:Kf.K2.ltP p e1y:=by unfold Kf.K2.ltP;decide +kernel
theorem NI:Kf.K2.Onc b2c (some (Kf.K2.red p e1x,Kf.K2.red p e1y)):=show Kf.K2.mul (Kf.K2.red p e1y) (Kf.K2.red p e1y)=Kf.K2.add (Kf.K2.mul (Kf.K2.mul (Kf.K2.red p e1x) (Kf.K2.red p e1x)) (Kf.K2.red p e1x)) b2c by decide +kernel
theorem Wd:Kf.K2.tim (some (Kf.K2.red p e1x,Kf.K2.red p e1y)) 11953=none:=gB (f:=14) TP TQ NI (by decide +kernel) (by decide +kernel)
def e2x:Kf.K2.PN:=(3585882940940123013268656861893695144087016218084638877734548085628496539673708874517800297462173798022978434573316,3249695541147246801462394281019803944823620003741077476887539079277689246216854906768188995244707190556741090520591)
def e2y:Kf.K2.PN:=(1351827535497653296159023728595899920703594823441352227036821938812534411340809485437529542203114709240362216682344,2134882000594129960028861217504277504257556173374576646915278154221857029512890132494487016649875117503216456548496)
theorem TR:Kf.K2.ltP p e2x:=by unfold Kf.K2.ltP;decide +kernel
theorem TS:Kf.K2.ltP p e2y:=by unfold Kf.K2.ltP;decide +kernel
theorem NJ:Kf.K2.Onc b2c (some (Kf.K2.red p e2x,Kf.K2.red p e2y)):=show Kf.K2.mul (Kf.K2.red p e2y) (Kf.K2.red p e2y)=Kf.K2.add (Kf.K2.mul (Kf.K2.mul (Kf.K2.red p e2x) (Kf.K2.red p e2x)) (Kf.K2.red p e2x)) b2c by decide +kernel
theorem Wf:Kf.K2.tim (some (Kf.K2.red p e2x,Kf.K2.red p e2y)) 262069=none:=gB (f:=18) TR TS NJ (by decide +kernel) (by decide +kernel)
def e3x:Kf.K2.PN:=(221936139291288489439513367527481495057882256099240953159569289799120704596728113827679483911795605698084286051573,3415555305535896194370153360405012379594754145007175298728826366042527546586477148490156050006251723613414992878937)
def e3y:Kf.K2.PN:=(3077596325830596161068317882852825580913622505477201261085323465694381487244631311082363101032370366548699883569914,951286233704538839119986282443269760452142569860253286581374505157382986650620546008451758486869596980584371380856)
theorem TU:Kf.K2.ltP p e3x:=by unfold Kf.K2.ltP;decide +kernel
theorem TV:Kf.K2.ltP p e3y:=by unfold Kf.K2.ltP;decide +kernel
theorem NL:Kf.K2.Onc b2c (some (Kf.K2.red p e3x,Kf.K2.red p e3y)):=show Kf.K2.mul (Kf.K2.red p e3y) (Kf.K2.red p e3y)=Kf.K2.add (Kf.K2.mul (Kf.K2.mul (Kf.K2.red p e3x) (Kf.K2.red p e3x)) (Kf.K2.red p e3x)) b2c by decide +kernel
theorem Wg:Kf.K2.tim (some (Kf.K2.red p e3x,Kf.K2.red p e3y)) 402096035359507321594726366720466575392706800671181159425656785868777272553337714697862511267018014931937703598282857976535744623203249=none:=gB (f:=448) TU TV NL (by decide +kernel) (by decide +kernel)
def e4x:Kf.K2.PN:=(3724786844502180167891558729416129449000115420642389737248204246659523970410542797357533898368708494837061665677680,1141335301852042111109904309412722578402802990019776025308351928836484500914601819891608123758423149595378570951794)
def e4y:Kf.K2.PN:=(3659199057390176532242870202066124952884786772473267866939750082073367303377577444236085326897248847277067207759400,1458838372592766091508702817080480380647037193169483027221674853013145380294636776981066911163277917352681107466967)
theorem NM:Kf.K2.ltP p e4x:=by unfold Kf.K2.ltP;decide +kernel
theorem NN:Kf.K2.ltP p e4y:=by unfold Kf.K2.ltP;decide +kernel
theorem oF:Kf.K2.Onc b2c (some (Kf.K2.red p e4x,Kf.K2.red p e4y)):=show Kf.K2.mul (Kf.K2.red p e4y) (Kf.K2.red p e4y)=Kf.K2.add (Kf.K2.mul (Kf.K2.mul (Kf.K2.red p e4x) (Kf.K2.red p e4x)) (Kf.K2.red p e4x)) b2c by decide +kernel
theorem K9:Kf.K2.tim (some (Kf.K2.red p e4x,Kf.K2.red p e4y)) 52435875175126190479447740508185965837690552500527637822603658699938581184513=none:=gB (f:=255) NM NN oF (by decide +kernel) (by decide +kernel)
def DM:Kf.K2.PN:=(249367334142669963646324981136200765326260363708790066858131337966551089777386290072409819006724137548003034317840,630214770544375407070343935183851022115778996321952592597513998296250362306921804284466551526689698439285130190803)
def Gz:Kf.K2.PN:=(3255931259487654311761675973442790385748961685389911941626630586830515265085259697684420727150124840128609202119395,3805088508598071439828456387093867998299269280435293096449769375317715796189840460067869641218405040002254200256628)
theorem Gx:Kf.K2.ltP p DM:=by unfold Kf.K2.ltP;decide +kernel
theorem Gy:Kf.K2.ltP p Gz:=by unfold Kf.K2.ltP;decide +kernel
theorem zN:Kf.K2.Onc b2c (some (Kf.K2.red p DM,Kf.K2.red p Gz)):=show Kf.K2.mul (Kf.K2.red p Gz) (Kf.K2.red p Gz)=Kf.K2.add (Kf.K2.mul (Kf.K2.mul (Kf.K2.red p DM) (Kf.K2.red p DM)) (Kf.K2.red p DM)) b2c by decide +kernel
theorem T4:Kf.K2.tim (some (Kf.K2.red p DM,Kf.K2.red p Gz)) 13=none:=gB (f:=4) Gx Gy zN (by decide +kernel) (by decide +kernel)
def DV:Kf.K2.PN:=(3302811696236693048817432710937200207154146062888472244124401231088541568825880779436480055488906969507825521497988,2159161761998572029827115715135251648516413537530764144546098409415901214338605707709859368308445700024446995204964)
def G1:Kf.K2.PN:=(918272763181459299777785049801485251739425764325067183332904369815332912808088109486288125688779618627172051883901,1520342217214845708397311524493951876842629938360259965595483298367599583510590171163992542460916921937176980633828)
theorem QL:Kf.K2.ltP p DV:=by unfold Kf.K2.ltP;decide +kernel
theorem QM:Kf.K2.ltP p G1:=by unfold Kf.K2.ltP;decide +kernel
theorem G0:Kf.K2.Onc b2c (some (Kf.K2.red p DV,Kf.K2.red p G1)):=show Kf.K2.mul (Kf.K2.red p G1) (Kf.K2.red p G1)=Kf.K2.add (Kf.K2.mul (Kf.K2.mul (Kf.K2.red p DV) (Kf.K2.red p DV)) (Kf.K2.red p DV)) b2c by decide +kernel
theorem Ud:Kf.K2.tim (some (Kf.K2.red p DV,Kf.K2.red p G1)) 13=none:=gB (f:=4) QL QM G0 (by decide +kernel) (by decide +kernel)
def DN:Kf.K2.PN:=(2100989141674736290334623335377785686341226648588822499472792282048962536451111251404132830159345397652384226341187,3840522637552796655335982991642318043474496655907274714563720532856438633635476919160308843927093044748568693045924)
def GC:Kf.K2.PN:=(199154094337164924625675979139541069878298196429898264448916972753328318735204784864697614111604578469428835674533,1275072922746497953683575457784634997213136127181158649310296974027492714454889277511457129178967738291649294335720)
theorem GA:Kf.K2.ltP p DN:=by unfold Kf.K2.ltP;decide +kernel
theorem GB:Kf.K2.ltP p GC:=by unfold Kf.K2.ltP;decide +kernel
theorem zO:Kf.K2.Onc b2c (some (Kf.K2.red p DN,Kf.K2.red p GC)):=show Kf.K2.mul (Kf.K2.red p GC) (Kf.K2.red p GC)=Kf.K2.add (Kf.K2.mul (Kf.K2.mul (Kf.K2.red p DN) (Kf.K2.red p DN)) (Kf.K2.red p DN)) b2c by decide +kernel
theorem T5:Kf.K2.tim (some (Kf.K2.red p DN,Kf.K2.red p GC)) 23=none:=gB (f:=5) GA GB zO (by decide +kernel) (by decide +kernel)
def DW:Kf.K2.PN:=(1958017204391899394539162206591781961608870984938316392030853326152268775835027896430372983811689995677676747072868,1850899225844837626114930600540447784016769379102227377138527684896245565298183789770612318797852436809847033533128)
def G3:Kf.K2.PN:=(453219839902191911911834952005864423867881091105845164171390316115950752220286130881322572399315885808516372185458,2884609588929288605226694121021975550067649551179596463553381328192507286764160491648258213571772038164332954648007)
theorem QN:Kf.K2.ltP p DW:=by unfold Kf.K2.ltP;decide +kernel
theorem QO:Kf.K2.ltP p G3:=by unfold Kf.K2.ltP;decide +kernel
theorem G2:Kf.K2.Onc b2c (some (Kf.K2.red p DW,Kf.K2.red p G3)):=show Kf.K2.mul (Kf.K2.red p G3) (Kf.K2.red p G3)=Kf.K2.add (Kf.K2.mul (Kf.K2.mul (Kf.K2.red p DW) (Kf.K2.red p DW)) (Kf.K2.red p DW)) b2c by decide +kernel
theorem Ue:Kf.K2.tim (some (Kf.K2.red p DW,Kf.K2.red p G3)) 23=none:=gB (f:=5) QN QO G2 (by decide +kernel) (by decide +kernel)
theorem Cg(L:List (Kf.K2.Cu b2c))(hL:Pr.AG.All L):16019282247729705411943748644318972617695120099330552659862384536985976748491357143400656079302193429974954385540174732940659106207100323726025938325193045129788127168347624263893040187112659960846674086295148469572963088890738917∣L.length:=by
 have h0:2713∣L.length:=Kf.K2.rs p_3 no2 NG (by intro h;cases h) Pr.Av V9 L hL
 have h1:11953∣L.length:=Kf.K2.rs p_3 no2 NI (by intro h;cases h) Pr.xJ Wd L hL
 have k1:32428489∣L.length:=by
  have:=Nat.Coprime.mul_dvd_of_dvd_of_dvd (show Nat.Coprime 2713 11953 by decide +kernel) h0 h1
  rwa [show 2713*11953=32428489 by decide +kernel]at this
 have h2:262069∣L.length:=Kf.K2.rs p_3 no2 NJ (by intro h;cases h) Pr.vA Wf L hL
 have k2:8498501683741∣L.length:=by
  have:=Nat.Coprime.mul_dvd_of_dvd_of_dvd (show Nat.Coprime 32428489 262069 by decide +kernel) k1 h2
  rwa [show 32428489*262069=8498501683741 by decide +kernel]at this
 have h3:402096035359507321594726366720466575392706800671181159425656785868777272553337714697862511267018014931937703598282857976535744623203249∣L.length:=Kf.K2.rs p_3 no2 NL (by intro h;cases h) Pr.Mi Wg L hL
 have k3:3417213833528353644824999196800052619260030863795574352274180747220585946275454234589181635096475183139252053545727862789966597950563999243361674509∣L.length:=by
  have:=Nat.Coprime.mul_dvd_of_dvd_of_dvd (show Nat.Coprime 8498501683741 402096035359507321594726366720466575392706800671181159425656785868777272553337714697862511267018014931937703598282857976535744623203249 by decide +kernel) k2 h3
  rwa [show 8498501683741*402096035359507321594726366720466575392706800671181159425656785868777272553337714697862511267018014931937703598282857976535744623203249=3417213833528353644824999196800052619260030863795574352274180747220585946275454234589181635096475183139252053545727862789966597950563999243361674509 by decide +kernel]at this
 have h4:52435875175126190479447740508185965837690552500527637822603658699938581184513∣L.length:=Kf.K2.rs p_3 no2 oF (by intro h;cases h) Pr.pL K9 L hL
 have k4:179184598021607201395328336867808778623227034365729160298681049842686063338121018147455353735441364525843719707164066765927216767229676667218777623574602578604133367281659313250333219842201540931831568844813240003724377679117∣L.length:=by
  have:=Nat.Coprime.mul_dvd_of_dvd_of_dvd (show Nat.Coprime 3417213833528353644824999196800052619260030863795574352274180747220585946275454234589181635096475183139252053545727862789966597950563999243361674509 52435875175126190479447740508185965837690552500527637822603658699938581184513 by decide +kernel) k3 h4
  rwa [show 3417213833528353644824999196800052619260030863795574352274180747220585946275454234589181635096475183139252053545727862789966597950563999243361674509*52435875175126190479447740508185965837690552500527637822603658699938581184513=179184598021607201395328336867808778623227034365729160298681049842686063338121018147455353735441364525843719707164066765927216767229676667218777623574602578604133367281659313250333219842201540931831568844813240003724377679117 by decide +kernel]at this
 have h5:169∣L.length:=Kf.K2.vE p_3 no2 zN G0 (by intro h;cases h) Pr.Iw T4 Ud (H4 (f:=4) Gx Gy zN (by decide) (by decide +kernel)) L hL
 have k5:30282197065651617035810488930659683587325368807808228090477097423413944704142452066919954781289590604867588630510727283441699633661815356759973418384107835784098539070600423939306314153332060417479535134773437560629419827770773∣L.length:=by
  have:=Nat.Coprime.mul_dvd_of_dvd_of_dvd (show Nat.Coprime 179184598021607201395328336867808778623227034365729160298681049842686063338121018147455353735441364525843719707164066765927216767229676667218777623574602578604133367281659313250333219842201540931831568844813240003724377679117 169 by decide +kernel) k4 h5
  rwa [show 179184598021607201395328336867808778623227034365729160298681049842686063338121018147455353735441364525843719707164066765927216767229676667218777623574602578604133367281659313250333219842201540931831568844813240003724377679117*169=30282197065651617035810488930659683587325368807808228090477097423413944704142452066919954781289590604867588630510727283441699633661815356759973418384107835784098539070600423939306314153332060417479535134773437560629419827770773 by decide +kernel]at this
 have h6:529∣L.length:=Kf.K2.vE p_3 no2 zO G2 (by intro h;cases h) Pr.Ix T5 Ue (H4 (f:=5) GA GB zO (by decide) (by decide +kernel)) L hL
 have k6:16019282247729705411943748644318972617695120099330552659862384536985976748491357143400656079302193429974954385540174732940659106207100323726025938325193045129788127168347624263893040187112659960846674086295148469572963088890738917∣L.length:=by
  have:=Nat.Coprime.mul_dvd_of_dvd_of_dvd (show Nat.Coprime 30282197065651617035810488930659683587325368807808228090477097423413944704142452066919954781289590604867588630510727283441699633661815356759973418384107835784098539070600423939306314153332060417479535134773437560629419827770773 529 by decide +kernel) k5 h6
  rwa [show 30282197065651617035810488930659683587325368807808228090477097423413944704142452066919954781289590604867588630510727283441699633661815356759973418384107835784098539070600423939306314153332060417479535134773437560629419827770773*529=16019282247729705411943748644318972617695120099330552659862384536985976748491357143400656079302193429974954385540174732940659106207100323726025938325193045129788127168347624263893040187112659960846674086295148469572963088890738917 by decide +kernel]at this
 exact k6
theorem IG{q:Kf.K2.Pt p}(ho:Kf.K2.Onc b2c q):Kf.K2.tim q 16019282247729705411943748644318972617695120099330552659862384536985976748491357143400656079302193429974954385540174732940659106207100323726025938325193045129788127168347624263893040187112659960846674086295148469572963088890738917=none:=Kf.K2.Up p_3 no2 Cg (by decide +kernel) ho
theorem Wo:V hC*52435875175126190479447740508185965837690552500527637822603658699938581184513=16019282247729705411943748644318972617695120099330552659862384536985976748491357143400656079302193429974954385540174732940659106207100323726025938325193045129788127168347624263893040187112659960846674086295148469572963088890738917*686966430457948734194560730881182400509:=by decide +kernel
theorem KZ{q:Kf.K2.Pt p}(ho:Kf.K2.Onc b2c q):Kf.K2.tim (Kf.K2.tim q (V hC)) 52435875175126190479447740508185965837690552500527637822603658699938581184513=none:=by
 rw[← Kf.K2.iA p_3 no2 ho,Wo,Kf.K2.iA p_3 no2 ho,IG ho,Kf.K2.f7]
end
section
attribute [local irreducible] Code.wp wpList Af bodyPost L.Go ab
open Num
attribute [local simp] ae
def rL:List Nat:=[18446744069414584321,6034159408538082302,3691218898639771653,8353516859464449352]
theorem Oo:Lt 18446744073709551616 rL:=by unfold Lt rL;decide
theorem RX:rL.length=4:=rfl
theorem UX:V rL=52435875175126190479447740508185965837690552500527637822603658699938581184513:=by decide +kernel
theorem GU:Spec Tryz.prog 121 [] ai [] (IsV (LV .u64 rL)):=by
 refine ad Tryz.func121 rfl rfl rfl fun w _=>?_
 repeat (first|(refine sG ?_;intro _)|(refine ot (m:=4) (kk:=.u64) (by rfl) (by rfl) (by rfl) (by rfl) (by rfl) (by rfl) (by rfl) (by rfl) ?_;rw[show[18446744069414584321,6034159408538082302,3691218898639771653,8353516859464449352]++List.replicate (4-[18446744069414584321,6034159408538082302,3691218898639771653,8353516859464449352].length) 0=rL from rfl])|refine S4 ?_|refine Z82 fun _=>?_)
 refine Zec fun _ hw=>aa hw SubW.nil ⟨?_,rfl⟩
 rfl
theorem Hu(x y:F2)(i:Bool):Spec Tryz.prog 116 [GE x y i] ai [] (IsV (.bool i)):=by
 refine ad Tryz.func116 rfl rfl rfl fun w _=>?_
 have hl0:=fun x=>ae 6 x
 have hle:=fun x:F2=>ak x
 repeat (first|refine eK ?_|refine bI ?_|refine eP ?_|refine Z02 ?_|refine Z03 ?_|refine Z04 ?_|refine Z05 ?_|refine Z06 ?_|refine Z07 ?_|refine Z08 ?_|refine Z09 ?_|refine Z10 ?_|refine Z11 ?_|refine Z12 ?_|refine Z13 ?_|refine Z14 ?_|refine Z24 ?_|refine Z26 ?_|refine Z27 ?_|refine Z67 ?_|refine Z81 fun _=>?_)
 refine Ze1 fun _ hw=>aa hw SubW.nil ⟨?_,rfl⟩
 rfl
theorem OL{a b:Prop}(k:b)(h:Rm b→a:=by intro k;(first|refine ah (by rfl) (by rfl) (by rfl) (GU) (fun _ _=>trivial) (by rfl) ?_|refine Z01 ?_|refine Z02 ?_|refine Z03 ?_|refine Z04 ?_|refine Z05 ?_|refine Z06 ?_|refine Z07 ?_|refine Z08 ?_|refine Z09 ?_|refine Z10 ?_|refine Z11 ?_|refine Z12 ?_|refine Z13 ?_|refine Z14 ?_|refine Z17 ?_|refine Z18 ?_|refine Z19 ?_|refine Z24 ?_|refine Z26 ?_|refine Z27 ?_|refine Z29 ?_|refine Z30 ?_|refine Z31 ?_|refine Z32 ?_|refine Z49 ?_|refine Z50 ?_|refine Z51 ?_|refine Z52 ?_|refine Z62 ?_|refine Z63 ?_|refine Z67 ?_);exact k.h):a:=h ⟨k⟩
theorem OM{a b:Prop}(k:b)(h:Rm b→a:=by intro k;(first|refine Z01 ?_|refine Z02 ?_|refine Z17 ?_|refine Z18 ?_|refine Z19 ?_|refine Z49 ?_|refine Z50 ?_|refine Z62 ?_|refine Z63 ?_);exact k.h):a:=h ⟨k⟩
theorem ON{S1 a b:Prop}(s1:S1)(k:b)(h:S1→Rm b→a:=by intro s1 k;refine R.Zpp (by rfl) (by intro _ _ _;refine ah (by rfl) (by rfl) (by rfl) s1 (RdW.arrAll (m:=4) fd RX) (by rfl) ?_;exact Zq) ?_;exact k.h):a:=h s1 ⟨k⟩
theorem Pq{a b:Prop}(k:b)(h:Rm b→a:=by intro k;(first|refine y_8 ?_|refine Z01 ?_|refine Z02 ?_|refine Z03 ?_|refine Z04 ?_|refine Z05 ?_|refine Z06 ?_|refine Z07 ?_|refine Z08 ?_|refine Z09 ?_|refine Z10 ?_|refine Z11 ?_|refine Z12 ?_|refine Z13 ?_|refine Z14 ?_|refine Z17 ?_|refine Z18 ?_|refine Z19 ?_|refine Z24 ?_|refine Z26 ?_|refine Z27 ?_|refine Z29 ?_|refine Z30 ?_|refine Z31 ?_|refine Z32 ?_|refine Z49 ?_|refine Z50 ?_|refine Z51 ?_|refine Z52 ?_|refine Z62 ?_|refine Z63 ?_|refine Z67 ?_);exact k.h):a:=h ⟨k⟩
set_option maxHeartbeats 8000000 in
theorem Il{P:Kf.K2.Pt p}(h:Kf.K2.Onc b2c P)(hr:Kf.K2.tim P 52435875175126190479447740508185965837690552500527637822603658699938581184513=none):
  Spec Tryz.prog 115 [GV P,.func (.func 37) #[] #[],.func (.func 116) #[] #[]] ai [] (IsV (.bool true)):=by
 refine ad Tryz.func115 rfl rfl rfl fun w _=>?_
 have hl0:=fun x=>ae 6 x
 have hle:=fun x:F2=>ak x
 have hm:∀s,Spec Tryz.prog 37 [s,GV P] (fun w=>Rd w s (rL.map (N .u64))) [] (IsV (.tuple [GV (Kf.K2.tim P (V rL)),N .i64 0].toArray)):=fun s=>
  uU h (an (gx P).re) (an (gx P).im) (an (gy P).re) (an (gy P).im) (gi P) (by rw[bq,bq,oh]) s rL Oo (by decide)
 rw[UX,hr,mc]at hm
 obtain⟨x1,y1,i1,hq⟩:∃x1 y1 i1,GV P=GE x1 y1 i1:=⟨_,_,_,rfl⟩
 rw[hq]at hm ⊢
 have hi:=Hu Kf.K2.zero Kf.K2.zero true
 repeat (first|(refine cD ?_;intro _)|(refine sG ?_;intro _)|refine OL ?_|refine Z81 fun _=>?_|refine Z82 fun _=>?_)
 refine R.af [0,1,2,3,4,5,6,7,8,9] (by rfl) ?_
 repeat (first|(refine R.Zpf (by rfl) (by intro _ _ _;(first|refine OM ?_);exact Zq) ?_)|refine ul ?_|refine yK ?_|refine ON (hm _) ?_|refine gb ?_|(refine J1 ?_;intro _)|(refine aV ?_;intro _))
 refine R.Zp0 ?_
 repeat (first|refine dM ?_|refine y_4 hi ?_|refine Pq ?_|refine Z81 fun _=>?_|refine Z82 fun _=>?_)
 refine Ze1 fun _ hw=>aa hw SubW.nil ⟨?_,rfl⟩
 rfl
theorem OO{a b:Prop}(k:b)(h:Rm b→a:=by intro k;(first|refine Z02 ?_|refine Z03 ?_|refine Z04 ?_|refine Z05 ?_|refine Z06 ?_|refine Z07 ?_|refine Z08 ?_|refine Z09 ?_|refine Z10 ?_|refine Z11 ?_|refine Z12 ?_|refine Z13 ?_|refine Z14 ?_|refine Z24 ?_|refine Z26 ?_|refine Z27 ?_|refine Z67 ?_);exact k.h):a:=h ⟨k⟩
theorem Q7{P:Kf.K2.Pt p}(h:Kf.K2.Onc b2c P)(hr:Kf.K2.tim P 52435875175126190479447740508185965837690552500527637822603658699938581184513=none):Spec Tryz.prog 61 [GV P] ai [] (IsV (.bool true)):=by
 refine ad Tryz.func61 rfl rfl rfl fun w _=>?_
 have hl0:=fun x=>ae 6 x
 have hle:=fun x:F2=>ak x
 have ho:=Il h hr
 obtain⟨x1,y1,i1,hq⟩:∃x1 y1 i1,GV P=GE x1 y1 i1:=⟨_,_,_,rfl⟩
 rw[hq]at ho ⊢
 repeat (first|refine dM ?_|refine y_4 ho ?_|refine OO ?_|refine Z81 fun _=>?_)
 refine Ze1 fun _ hw=>aa hw SubW.nil ⟨?_,rfl⟩
 rfl
theorem Sc(u v:F2):Kf.K2.tim (g6 u v) 52435875175126190479447740508185965837690552500527637822603658699938581184513=none:=KZ (Kf.K2.dh p_3 (fS u) (fS v))
end
end Go.Proofs.YtndhfbecpghinaaGreat.L
namespace Go.Proofs.YtndhfbecpghinaaGreat.L.Kf
namespace T6
variable {n:Nat} [NeZero n]
def cr(a b c d e f:K2 n):K2 n:=K2.sub (K2.mul (K2.add a b) (K2.add c d)) (K2.add e f)
attribute [local irreducible] K2.add K2.mul K2.sub K2.neg K2.zero K2.one K2.inv K2.xi
theorem q9(x y:T6 n):(⟨K2.add (K2.mul x.a y.a) (K2.mul K2.xi (cr x.b x.c y.b y.c (K2.mul x.b y.b) (K2.mul x.c y.c))),K2.add (cr x.a x.b y.a y.b (K2.mul x.a y.a) (K2.mul x.b y.b)) (K2.mul K2.xi (K2.mul x.c y.c)),K2.add (cr x.a x.c y.a y.c (K2.mul x.a y.a) (K2.mul x.c y.c)) (K2.mul x.b y.b)⟩:T6 n)=mul x y:=by
 unfold cr
 exact ext'
  (CR.aH (x:=(.a (.m (.v 0) (.v 3)) (.m (.v 6) (.s (.m (.a (.v 1) (.v 2)) (.a (.v 4) (.v 5))) (.a (.m (.v 1) (.v 4)) (.m (.v 2) (.v 5))))))) (y:=(.a (.m (.v 0) (.v 3)) (.m (.v 6) (.a (.m (.v 1) (.v 5)) (.m (.v 2) (.v 4)))))) (by decide +kernel) [x.a,x.b,x.c,y.a,y.b,y.c,K2.xi])
  (CR.aH (x:=(.a (.s (.m (.a (.v 0) (.v 1)) (.a (.v 3) (.v 4))) (.a (.m (.v 0) (.v 3)) (.m (.v 1) (.v 4)))) (.m (.v 6) (.m (.v 2) (.v 5))))) (y:=(.a (.a (.m (.v 0) (.v 4)) (.m (.v 1) (.v 3))) (.m (.v 6) (.m (.v 2) (.v 5))))) (by decide +kernel) [x.a,x.b,x.c,y.a,y.b,y.c,K2.xi])
  (CR.aH (x:=(.a (.s (.m (.a (.v 0) (.v 2)) (.a (.v 3) (.v 5))) (.a (.m (.v 0) (.v 3)) (.m (.v 2) (.v 5)))) (.m (.v 1) (.v 4)))) (y:=(.a (.a (.m (.v 0) (.v 5)) (.m (.v 1) (.v 4))) (.m (.v 2) (.v 3)))) (by decide +kernel) [x.a,x.b,x.c,y.a,y.b,y.c,K2.xi])
theorem Rs(x:T6 n)(k:K2 n):mul x (em k)=⟨K2.mul x.a k,K2.mul x.b k,K2.mul x.c k⟩:=by
 unfold mul em
 simp only[K2.aj,K2.add_zero',K2.aM]
theorem Vb(x:T6 n):(⟨K2.mul K2.xi x.c,x.a,x.b⟩:T6 n)=mul vv x:=by
 unfold mul vv
 simp only[K2.aj,K2.aG,K2.add_zero',K2.aM,K2.aR]
end T6
namespace T12
variable {n:Nat} [NeZero n]
attribute [local irreducible] T6.add T6.mul T6.sub T6.neg T6.zero T6.one T6.inv T6.vv
theorem q9(x y:T12 n):(⟨T6.add (T6.mul x.a y.a) (T6.mul T6.vv (T6.mul x.b y.b)),T6.sub (T6.mul (T6.add x.a x.b) (T6.add y.a y.b)) (T6.add (T6.mul x.a y.a) (T6.mul x.b y.b))⟩:T12 n)=mul x y:=
 ext' rfl (CR.aH (x:=(.s (.m (.a (.v 0) (.v 1)) (.a (.v 2) (.v 3))) (.a (.m (.v 0) (.v 2)) (.m (.v 1) (.v 3))))) (y:=(.a (.m (.v 0) (.v 3)) (.m (.v 1) (.v 2)))) (by decide +kernel) [x.a,x.b,y.a,y.b])
end T12
end Go.Proofs.YtndhfbecpghinaaGreat.L.Kf
namespace Go.Proofs.YtndhfbecpghinaaGreat.L
open Go Go.Proofs
set_option maxRecDepth 100000
section
attribute [local irreducible] Code.wp wpList Af bodyPost L.Go ab
open Num
attribute [local simp] ae
abbrev F6:=Kf.T6 p
abbrev E6(x:F6):List Nat:=E2 x.a++(E2 x.b++E2 x.c)
theorem dg(x:F6):(E6 x).length=36:=by simp
theorem SS(x:F2):(⟨x.re-x.im,x.re+x.im⟩:F2)=Kf.K2.mul Kf.K2.xi x:=by
 unfold Kf.K2.mul Kf.K2.xi
 exact Kf.K2.ext' (by grind) (by grind)
theorem E7(x:F2):Spec Tryz.prog 165 [LV .u64 (E2 x)] ai [] (IsV (LV .u64 (E2 (Kf.K2.mul Kf.K2.xi x)))):=by
 have:=WR x;rwa [SS]at this
theorem fw{m:Nat}{xss:List (List Nat)}(h:∀v∈xss,v.length=m):xss.flatten.length=xss.length*m:=by
 induction xss with
 | nil=>simp
 | cons x r ih=>
  rw[List.flatten_cons,List.length_append,h x (by simp),ih fun v hv=>h v (by simp[hv]),List.length_cons,Nat.succ_mul,Nat.add_comm]
def pg(l:List F2):F2:=l.foldl Kf.K2.add Kf.K2.zero
theorem SF{l:List F2}{i:Nat}{x:F2}(h:l[i]?=some x):Kf.K2.add (pg (l.take i)) x=pg (l.take (i+1)):=by
 rw[List.take_add_one,h]
 simp only[pg,Option.toList,List.foldl_append,List.foldl_cons,List.foldl_nil]
def E2s(l:List F2):List (List Nat):=l.map E2
theorem KL(l:List F2):∀v∈E2s l,v.length=12:=by
 intro v hv
 obtain⟨x,_,rfl⟩:=List.mem_map.1 hv
 exact ak x
attribute [local irreducible] pg E2s
theorem ue{a b:Prop}(k:b)(h:Rm b→a:=by intro k;(first|refine Z01 ?_|refine Z03 ?_|refine Z04 ?_|refine Z05 ?_|refine Z06 ?_|refine Z07 ?_|refine Z08 ?_|refine Z09 ?_|refine Z10 ?_|refine Z11 ?_|refine Z12 ?_|refine Z13 ?_|refine Z14 ?_|refine Z15 ?_|refine Z17 ?_|refine Z18 ?_|refine Z20 ?_|refine Z21 ?_|refine Z22 ?_|refine Z23 ?_|refine Z24 ?_|refine Z26 ?_|refine Z27 ?_|refine Z29 ?_|refine Z30 ?_|refine Z31 ?_|refine Z32 ?_|refine Z67 ?_);exact k.h):a:=h ⟨k⟩
set_option maxHeartbeats 2000000 in
theorem Fg(s:Value)(xs:List F2)(hl:xs.length<1000000):Spec Tryz.prog 164 [s] (fun w=>Rd w (wide 12 s) ((E2s xs).flatten.map (N .u64))) [] (IsV (LV .u64 (E2 (pg xs)))):=by
 refine ad Tryz.func164 rfl rfl rfl fun w hr=>?_
 have h1:=RdC.mk0 hr
 have hE:=KL xs
 have el:(E2s xs).length=xs.length:=by unfold E2s;simp
 have hxl:((E2s xs).flatten.map (N .u64)).length=xs.length*12:=by rw[List.length_map,fw hE,el]
 have e0:pg (xs.take 0)=Kf.K2.zero:=by unfold pg;rfl
 have hz12:List.replicate 12 0=E2 (pg (xs.take 0)):=by rw[e0,wh]
 repeat (first|(refine bG ?_;intro _)|refine ib (m:=12) (k:=xs.length) (s:=s) (by rfl) (by rfl) (RdW.old h1) (by decide) hxl (by rfl) ?_|refine ue ?_|refine Z82 fun _=>?_)
 rw[hz12]
 rename_i p2
 refine ay (ι:=Nat) (fun i=>i≤xs.length) (fun i=>[(5,s),(6,N .i64 xs.length),(7,N .i64 i),(2,pt p2 0)]) (fun i=>[.blk p2 (LV .u64 (E2 (pg (xs.take i)))) 34]) (fun i=>xs.length-i) 0 (by omega) sbq sw ?_
 intro i hi
 repeat (first|refine ue ?_|refine Z82 fun _=>?_)
 refine ao (by rfl) (fun h=>?_) (fun h=>?_)
 ·obtain⟨x,hx⟩:∃x,xs[i]?=some x:=⟨_,List.getElem?_eq_getElem h⟩
  have hz:(E2s xs)[i]?=some (E2 x):=by unfold E2s;rw[List.getElem?_map,hx];rfl
  have hs:=cV (pg (xs.take i)) x
  rw[SF hx]at hs
  repeat (first|(refine bG ?_;intro _)|refine fg (m:=12) (s:=s) (i:=i) (k:=xs.length) (by rfl) (by rfl) (by rfl) (by rfl) (RdW.old h1) (by decide) hxl h (by rfl) ?_|refine eE (m:=12) (s:=wide 12 s) (i:=i) (by rfl) (by rfl) (by rfl) (RdW.old h1) hE hz (by decide) (by rfl) ?_|refine eP ?_|refine y_4 hs ?_|refine ue ?_|refine Z82 fun _=>?_)
  exact ap (i+1) (by omega) (by omega) sbq sw
 ·have hi':i=xs.length:=by omega
  subst hi'
  rw[List.take_length]
  repeat (first|refine eP ?_|refine Z01 ?_|refine Z03 ?_|refine Z04 ?_|refine Z05 ?_|refine Z06 ?_|refine Z07 ?_|refine Z08 ?_|refine Z09 ?_|refine Z10 ?_|refine Z11 ?_|refine Z12 ?_|refine Z13 ?_|refine Z14 ?_|refine Z15 ?_|refine Z17 ?_|refine Z18 ?_|refine Z20 ?_|refine Z21 ?_|refine Z22 ?_|refine Z23 ?_|refine Z24 ?_|refine Z26 ?_|refine Z27 ?_|refine Z29 ?_|refine Z30 ?_|refine Z31 ?_|refine Z32 ?_|refine Z67 ?_|refine Z82 fun _=>?_)
  refine Zec fun _ hw=>aa hw SubW.nil ⟨?_,rfl⟩
  rfl
abbrev LE2(x:F2):Value:=LV .u64 (E2 x)
abbrev LE6(x:F6):Value:=LV .u64 (E6 x)
def KN(w:World)(o:List (Nat×F2)):Prop:=∀q∈o,eL w q.1 (LV .u64 (E2 q.2)) 34
def V1(c:Cx)(o:List (Nat×F2)):Prop:=∀q∈o,OldB c q.1 (LV .u64 (E2 q.2)) 34
theorem lw{a b:Prop}(k:b)(h:Rm b→a:=by intro k;refine aq (v:=LV .u64 (List.replicate 36 0)) (by rfl) (by rfl) ?_;exact k.h):a:=h ⟨k⟩
theorem OP{a b:Prop}(k:b)(h:Rm b→a:=by intro k;(first|refine Z01 ?_|refine Z03 ?_|refine Z04 ?_|refine Z05 ?_|refine Z06 ?_|refine Z07 ?_|refine Z08 ?_|refine Z09 ?_|refine Z10 ?_|refine Z11 ?_|refine Z12 ?_|refine Z13 ?_|refine Z14 ?_|refine Z24 ?_|refine Z26 ?_|refine Z27 ?_|refine Z29 ?_|refine Z30 ?_|refine Z31 ?_|refine Z32 ?_|refine Z67 ?_);exact k.h):a:=h ⟨k⟩
set_option maxHeartbeats 2000000 in
theorem lX{F:FuncId}{caps:List Value}{o:List (Nat×F2)}{g:F2→F2}(hF:∀x,Spec Tryz.prog F ([LV .u64 (E2 x)]++caps) (fun w=>KN w o) [] (IsV (LV .u64 (E2 (g x)))))(x y z:F2):
  Spec Tryz.prog 168 [LV .u64 (E2 x++(E2 y++E2 z)),.func (.func F) #[] caps.toArray] (fun w=>KN w o) [] (IsV (LV .u64 (E2 (g x)++(E2 (g y)++E2 (g z))))):=by
 refine ad Tryz.func168 rfl rfl rfl fun w hr=>?_
 have ho:V1 ⟨w,fps []⟩ o:=fun q hq=>OldB.mk0 (hr q hq)
 have hl0:=fun x=>ae 6 x
 have hle:=fun x:F2=>ak x
 have a1:=hF x
 have a2:=hF y
 have a3:=hF z
 repeat (first|(refine lw ?_;intro _)|refine OP ?_|refine Z81 fun _=>?_|refine Z82 fun _=>?_)
 refine R.af [0,1,2,3,4,5,6,7,8,9,10,11,12,13] (by rfl) ?_
 repeat (first|(refine R.Zpf (by rfl) (by intro _ _ _;(first|refine bI ?_|refine jc ?_|refine rZ ?_|refine Z01 ?_);exact Zq) ?_)|refine aL ?_|refine jM ?_|refine jN ?_|refine jO ?_|refine cw ?_|(refine R.Zpp (by rfl) (by intro _ _ _;refine ah (by rfl) (by rfl) (by rfl) (a1) (fun w hw q hq=>((ho q hq).shift (by assumption)).now w hw) (by rfl) ?_;exact Zq) ?_)|(refine R.Zpp (by rfl) (by intro _ _ _;refine ah (by rfl) (by rfl) (by rfl) (a2) (fun w hw q hq=>((ho q hq).shift (by assumption)).now w hw) (by rfl) ?_;exact Zq) ?_)|(refine R.Zpp (by rfl) (by intro _ _ _;refine ah (by rfl) (by rfl) (by rfl) (a3) (fun w hw q hq=>((ho q hq).shift (by assumption)).now w hw) (by rfl) ?_;exact Zq) ?_)|refine lx ?_|(refine aV ?_;intro _))
 refine R.Zp0 ?_
 repeat (first|refine OP ?_|refine Z81 fun _=>?_|refine Z82 fun _=>?_)
 refine Zec fun _ hw=>aa hw SubW.nil ⟨?_,rfl⟩
 rfl
end
section
attribute [local irreducible] Code.wp wpList Af bodyPost L.Go ab
open Num
attribute [local simp] ae
theorem noL(w:World):KN w []:=fun _ h=>by cases h
theorem oA(x:F6):Spec Tryz.prog 157 [LE6 x] ai [] (IsV (LE6 x)):=by
  refine ad Tryz.func157 rfl rfl rfl fun w hr=>?_
  have hle:=dg x
  repeat (first|(refine lw ?_;intro _)|refine ah (by rfl) (by rfl) (by rfl) (lX (caps:=[]) (o:=[]) (g:=id) (fun y=>⟨(Cy y).call,fun w _=>(Cy y).run w trivial⟩) x.a x.b x.c) (fun w _=>noL w) (by rfl) ?_|refine bU ?_|refine Z81 fun _=>?_|refine Z82 fun _=>?_)
  refine Zec fun _ hw=>aa hw SubW.nil ⟨?_,rfl⟩
  rfl
theorem t8(x:F6):Spec Tryz.prog 158 [LE6 x] ai [] (IsV (LE6 (Kf.T6.neg x))):=by
  refine ad Tryz.func158 rfl rfl rfl fun w hr=>?_
  have hle:=dg x
  repeat (first|(refine lw ?_;intro _)|refine ah (by rfl) (by rfl) (by rfl) (lX (caps:=[]) (o:=[]) (g:=Kf.K2.neg) (fun y=>⟨(oV y).call,fun w _=>(oV y).run w trivial⟩) x.a x.b x.c) (fun w _=>noL w) (by rfl) ?_|refine bU ?_|refine Z81 fun _=>?_|refine Z82 fun _=>?_)
  refine Zec fun _ hw=>aa hw SubW.nil ⟨?_,rfl⟩
  rfl
theorem VE{a b:Prop}(k:b)(h:Rm b→a:=by intro k;(first|refine bI ?_|refine jc ?_|refine rZ ?_);exact k.h):a:=h ⟨k⟩
theorem VM{a b:Prop}(k:b)(h:Rm b→a:=by intro k;refine R.Zpf (by rfl) (by intro _ _ _;(first|refine VE ?_);exact Zq) ?_;exact k.h):a:=h ⟨k⟩
theorem Du{a b:Prop}(k:b)(h:Rm b→a:=by intro k;(first|refine VM ?_|refine aL ?_|refine jM ?_|refine jN ?_|refine jO ?_|refine cw ?_);exact k.h):a:=h ⟨k⟩
theorem kT(x y:F6):Spec Tryz.prog 148 [LE6 x,LE6 y] ai [] (IsV (LE6 (Kf.T6.add x y))):=by
  refine ad Tryz.func148 rfl rfl rfl fun w hr=>?_
  have hl0:=fun x=>ae 6 x
  have hle:=fun x:F2=>ak x
  have a1:=cV x.a y.a
  have a2:=cV x.b y.b
  have a3:=cV x.c y.c
  repeat (first|(refine lw ?_;intro _)|refine bU ?_|refine Z81 fun _=>?_|refine Z82 fun _=>?_)
  refine R.af [0,1,2,3,4,5,6,7,8,9,10,11,12,13,14,15,16] (by rfl) ?_
  repeat (first|refine Du ?_|refine ag a1 ?_|refine ag a2 ?_|refine ag a3 ?_|refine lx ?_|(refine aV ?_;intro _))
  refine R.Zp0 ?_
  repeat (first|refine bU ?_|refine Z81 fun _=>?_|refine Z82 fun _=>?_)
  refine Zec fun _ hw=>aa hw SubW.nil ⟨?_,rfl⟩
  rfl
theorem t9(x y:F6):Spec Tryz.prog 150 [LE6 x,LE6 y] ai [] (IsV (LE6 (Kf.T6.sub x y))):=by
  refine ad Tryz.func150 rfl rfl rfl fun w hr=>?_
  have hl0:=fun x=>ae 6 x
  have hle:=fun x:F2=>ak x
  have a1:=bE x.a y.a
  have a2:=bE x.b y.b
  have a3:=bE x.c y.c
  repeat (first|(refine lw ?_;intro _)|refine bU ?_|refine Z81 fun _=>?_|refine Z82 fun _=>?_)
  refine R.af [0,1,2,3,4,5,6,7,8,9,10,11,12,13,14,15,16] (by rfl) ?_
  repeat (first|refine Du ?_|refine ag a1 ?_|refine ag a2 ?_|refine ag a3 ?_|refine lx ?_|(refine aV ?_;intro _))
  refine R.Zp0 ?_
  repeat (first|refine bU ?_|refine Z81 fun _=>?_|refine Z82 fun _=>?_)
  refine Zec fun _ hw=>aa hw SubW.nil ⟨?_,rfl⟩
  rfl
theorem Nm(x:F6):Spec Tryz.prog 149 [LE6 x] ai [] (IsV (LE6 ⟨Kf.K2.mul Kf.K2.xi x.c,x.a,x.b⟩)):=by
 refine ad Tryz.func149 rfl rfl rfl fun w hr=>?_
 have hl0:=fun x=>ae 6 x
 have hle:=fun x:F2=>ak x
 have a1:=E7 x.c
 have a2:=Cy x.a
 have a3:=Cy x.b
 repeat (first|(refine lw ?_;intro _)|refine bU ?_|refine Z81 fun _=>?_|refine Z82 fun _=>?_)
 refine R.af [0,1,2,3,4,5,6,7,8,9,10] (by rfl) ?_
 repeat (first|refine Du ?_|refine ag a1 ?_|refine ag a2 ?_|refine ag a3 ?_|refine lx ?_|(refine aV ?_;intro _))
 refine R.Zp0 ?_
 repeat (first|refine bU ?_|refine Z81 fun _=>?_|refine Z82 fun _=>?_)
 refine Zec fun _ hw=>aa hw SubW.nil ⟨?_,rfl⟩
 rfl
def jj(a b c d e f:F2):F2:=Kf.K2.sub (Kf.K2.mul (Kf.K2.add a b) (Kf.K2.add c d)) (Kf.K2.add e f)
theorem kx(a b c d e f:F2):Spec Tryz.prog 163 [LE2 a,LE2 b,LE2 c,LE2 d,LE2 e,LE2 f] ai [] (IsV (LE2 (jj a b c d e f))):=by
 refine ad Tryz.func163 rfl rfl rfl fun w hr=>?_
 have hl0:=fun x=>ae 6 x
 have hle:=fun x:F2=>ak x
 have a1:=cV a b
 have a2:=cV c d
 have a3:=cV e f
 have a4:=aF (Kf.K2.add a b) (Kf.K2.add c d)
 have a5:=bE (Kf.K2.mul (Kf.K2.add a b) (Kf.K2.add c d)) (Kf.K2.add e f)
 repeat (first|(refine bG ?_;intro _)|refine bU ?_|refine Z81 fun _=>?_|refine Z82 fun _=>?_)
 refine R.af [0,1,2,3,4,5,6,7,8,9,10,11] (by rfl) ?_
 repeat (first|(refine R.Zpf (by rfl) (by intro _ _ _;(first|contradiction);exact Zq) ?_)|refine aL ?_|refine cw ?_|refine ag a1 ?_|refine ag a2 ?_|refine ag a3 ?_|refine ag a4 ?_|refine ag a5 ?_|refine aA ?_|(refine aV ?_;intro _))
 refine R.Zp0 ?_
 repeat (first|refine bU ?_|refine Z81 fun _=>?_|refine Z82 fun _=>?_)
 refine Zec fun _ hw=>aa hw SubW.nil ⟨?_,rfl⟩
 rfl
theorem Fs(k x:F2)(b:Nat):Spec Tryz.prog 172 [LE2 x,pt b 0] (fun w=>KN w [(b,k)]) [] (IsV (LE2 (Kf.K2.mul x k))):=by
 refine ad Tryz.func172 rfl rfl rfl fun w hr=>?_
 have h1:=OldB.mk0 (hr _ (List.mem_singleton.2 rfl))
 have hl0:=fun x=>ae 6 x
 have hle:=fun x:F2=>ak x
 have a1:=aF x k
 repeat (first|(refine bG ?_;intro _)|refine Te h1 ?_|refine eP ?_|refine y_4 a1 ?_|refine bU ?_|refine Z81 fun _=>?_|refine Z82 fun _=>?_)
 refine Zec fun _ hw=>aa hw SubW.nil ⟨?_,rfl⟩
 rfl
theorem OQ{a b:Prop}(k:b)(h:Rm b→a:=by intro k;(first|refine Z03 ?_|refine Z04 ?_|refine Z05 ?_|refine Z06 ?_|refine Z07 ?_|refine Z08 ?_|refine Z09 ?_|refine Z10 ?_|refine Z11 ?_|refine Z12 ?_|refine Z13 ?_|refine Z14 ?_|refine Z24 ?_|refine Z26 ?_|refine Z27 ?_|refine Z29 ?_|refine Z30 ?_|refine Z31 ?_|refine Z32 ?_|refine Z48 ?_|refine Z67 ?_);exact k.h):a:=h ⟨k⟩
theorem yH(x:F6)(k:F2):Spec Tryz.prog 169 [LE6 x,LE2 k] ai [] (IsV (LE6 ⟨Kf.K2.mul x.a k,Kf.K2.mul x.b k,Kf.K2.mul x.c k⟩)):=by
 refine ad Tryz.func169 rfl rfl rfl fun w hr=>?_
 have hl0:=fun x=>ae 6 x
 have hle:=fun x:F2=>ak x
 have hl6:=dg x
 repeat (first|(refine lw ?_;intro _)|refine OQ ?_|refine Z81 fun _=>?_|refine Z82 fun _=>?_)
 repeat (first|(refine ah (by rfl) (by rfl) (by rfl) (lX (caps:=[pt _ 0]) (o:=[(_,k)]) (g:=fun y=>Kf.K2.mul y k) (fun y=>Fs k y _) x.a x.b x.c) (fun w hw q hq=>by rw[List.mem_singleton.1 hq];exact eL.own fd w hw) (by rfl) ?_)|refine OQ ?_|refine Z81 fun _=>?_|refine Z82 fun _=>?_)
 refine Zec fun _ hw=>aa hw SubW.nil ⟨?_,rfl⟩
 rfl
end
section
attribute [local irreducible] Code.wp wpList Af bodyPost L.Go ab
open Num
attribute [local simp] ae
abbrev sl2(x y:F2):List (List Nat):=[E2 x,E2 y]
theorem jz(x y:F2):∀v∈sl2 x y,v.length=12:=by
 intro v hv
 rcases List.mem_cons.1 hv with rfl | hv
 ·exact ak x
 ·rw[List.mem_singleton.1 hv];exact ak y
theorem WQ(x y:F2):pg [x,y]=Kf.K2.add x y:=by
 unfold pg
 show Kf.K2.add (Kf.K2.add Kf.K2.zero x) y=_
 rw[Kf.K2.aM]
theorem ij(s:Value)(x y:F2):Spec Tryz.prog 164 [s] (fun w=>Rd w (wide 12 s) ((sl2 x y).flatten.map (N .u64))) [] (IsV (LE2 (Kf.K2.add x y))):=by
 have:=Fg s [x,y] (by simp)
 rw[WQ]at this
 unfold E2s at this
 exact this
theorem Se(x y:F2):(sl2 x y).flatten.length=2*12:=by simp
attribute [local irreducible] jj
theorem uf{a b:Prop}(k:b)(h:Rm b→a:=by intro k;(first|refine Z01 ?_|refine Z02 ?_|refine Z03 ?_|refine Z04 ?_|refine Z05 ?_|refine Z06 ?_|refine Z07 ?_|refine Z08 ?_|refine Z09 ?_|refine Z10 ?_|refine Z11 ?_|refine Z12 ?_|refine Z13 ?_|refine Z14 ?_|refine Z24 ?_|refine Z26 ?_|refine Z27 ?_|refine Z29 ?_|refine Z30 ?_|refine Z31 ?_|refine Z32 ?_|refine Z67 ?_);exact k.h):a:=h ⟨k⟩
theorem yQ{S1 a b:Prop}(s1:S1)(k:b)(h:S1→Rm b→a:=by intro s1 k;refine R.Zpp (by rfl) (by intro _ _ _;refine ah (by rfl) (by rfl) (by rfl) s1 (RdW.slv fd (Se _ _)) (by rfl) ?_;exact Zq) ?_;exact k.h):a:=h s1 ⟨k⟩
theorem Ko{a b:Prop}(k:b)(h:Rm b→a:=by intro k;(first|refine jM ?_|refine jN ?_|refine jO ?_|refine cw ?_);exact k.h):a:=h ⟨k⟩
set_option maxHeartbeats 4000000 in
theorem JO(x y:F6):Spec Tryz.prog 146 [LE6 x,LE6 y] ai [] (IsV (LE6 ⟨Kf.K2.add (Kf.K2.mul x.a y.a) (Kf.K2.mul Kf.K2.xi (jj x.b x.c y.b y.c (Kf.K2.mul x.b y.b) (Kf.K2.mul x.c y.c))),
  Kf.K2.add (jj x.a x.b y.a y.b (Kf.K2.mul x.a y.a) (Kf.K2.mul x.b y.b)) (Kf.K2.mul Kf.K2.xi (Kf.K2.mul x.c y.c)),Kf.K2.add (jj x.a x.c y.a y.c (Kf.K2.mul x.a y.a) (Kf.K2.mul x.c y.c)) (Kf.K2.mul x.b y.b)⟩)):=by
 refine ad Tryz.func146 rfl rfl rfl fun w hr=>?_
 have hl0:=fun x=>ae 6 x
 have hle:=fun x:F2=>ak x
 obtain⟨x0,x1,x2⟩:=x
 obtain⟨y0,y1,y2⟩:=y
 have a1:=aF x0 y0
 have a2:=aF x1 y1
 have a3:=aF x2 y2
 have c1:=kx x1 x2 y1 y2 (Kf.K2.mul x1 y1) (Kf.K2.mul x2 y2)
 have c2:=kx x0 x1 y0 y1 (Kf.K2.mul x0 y0) (Kf.K2.mul x1 y1)
 have c3:=kx x0 x2 y0 y2 (Kf.K2.mul x0 y0) (Kf.K2.mul x2 y2)
 show Go _ _ [(0,LV .u64 (E2 x0++(E2 x1++E2 x2))),(1,LV .u64 (E2 y0++(E2 y1++E2 y2)))] _ _
 show Go _ _ _ _ (_)
 generalize jj x1 x2 y1 y2 (Kf.K2.mul x1 y1) (Kf.K2.mul x2 y2)=k1 at *
 generalize jj x0 x1 y0 y1 (Kf.K2.mul x0 y0) (Kf.K2.mul x1 y1)=k2 at *
 generalize jj x0 x2 y0 y2 (Kf.K2.mul x0 y0) (Kf.K2.mul x2 y2)=k3 at *
 have e1:=E7 k1
 have e2:=E7 (Kf.K2.mul x2 y2)
 generalize Kf.K2.mul x0 y0=z0 at *
 generalize Kf.K2.mul x1 y1=z1 at *
 generalize Kf.K2.mul x2 y2=z2 at *
 generalize Kf.K2.mul Kf.K2.xi k1=v1 at *
 generalize Kf.K2.mul Kf.K2.xi z2=v2 at *
 have s1:=fun b=>ij (slv b 2) z0 v1
 have s2:=fun b=>ij (slv b 2) k2 v2
 have s3:=fun b=>ij (slv b 2) k3 z1
 generalize Kf.K2.add z0 v1=t1 at *
 generalize Kf.K2.add k2 v2=t2 at *
 generalize Kf.K2.add k3 z1=t3 at *
 repeat (first|(refine lw ?_;intro _)|refine uf ?_|refine Z81 fun _=>?_|refine Z82 fun _=>?_|refine Z85 fun _=>?_)
 rename_i p2 p3 p4
 refine MN (fun a b d=>[(2,pt p2 0),(3,pt p3 0),(4,pt p4 0),(5,pt a 0),(6,pt b 0),(7,pt d 0)]) (fun a b d=>[.blk a (LE2 z0) 34,.blk b (LE2 z1) 34,.blk d (LE2 z2) 34,.blk p4 (LV .u64 (List.replicate 36 0)) 136,.blk p3 (LV .u64 (E2 y0++(E2 y1++E2 y2))) 136,.blk p2 (LV .u64 (E2 x0++(E2 x1++E2 x2))) 136]) (fun p5 p6 p7=>?_) (fun hK=>?_)
 case refine_2=>
  refine R.af [0,1,2,3,4,5,6,7,8,9,10,11,12,13,14,15,16,17,18,19,20] (by rfl) ?_
  repeat' (first|(refine R.Zpf (by rfl) (by intro _ _ _;(first|refine bI ?_|refine jc ?_|refine Z01 ?_|refine Z02 ?_);exact Zq) ?_)|refine aL ?_|refine jM ?_|refine jN ?_|refine jO ?_|refine cw ?_|refine ag a1 ?_|refine ag a2 ?_|refine ag a3 ?_|refine aA ?_|(refine R.TA (R.Mks.mk (R.Mk.mk' (by rfl) (by intro _ _ _;refine aq (v:=LV .u64 (List.replicate 12 0)) (by rfl) (by rfl) fun _=>?_;first|exact R.iD|exact R.dO|exact R.iE)) (fun _=>?_)) (R.Mks.mk (R.Mk.mk' (by rfl) (by intro _ _ _;refine aq (v:=LV .u64 (List.replicate 12 0)) (by rfl) (by rfl) fun _=>?_;first|exact R.iD|exact R.dO|exact R.iE)) (fun _=>?_)) (R.Mks.mk (R.Mk.mk' (by rfl) (by intro _ _ _;refine aq (v:=LV .u64 (List.replicate 12 0)) (by rfl) (by rfl) fun _=>?_;first|exact R.iD|exact R.dO|exact R.iE)) (fun _=>?_)))|(refine R.FJ (R.Mks.mk (R.Mk.mk' (by rfl) (by intro _ _ _;refine aq (v:=LV .u64 (List.replicate 12 0)) (by rfl) (by rfl) fun _=>?_;first|exact R.iD|exact R.dO|exact R.iE)) (fun _=>?_)) (R.Mks.mk (R.Mk.mk' (by rfl) (by intro _ _ _;refine aq (v:=LV .u64 (List.replicate 12 0)) (by rfl) (by rfl) fun _=>?_;first|exact R.iD|exact R.dO|exact R.iE)) (fun _=>?_)))|(refine fK ?_;intro _)|(refine sn ?_;intro _))
  all_goals refine R.Zp0 ?_
  all_goals exact dY sbq sw (hK _ _ _)
 case refine_1=>
  repeat (first|refine uf ?_|refine Z81 fun _=>?_|refine Z82 fun _=>?_|refine Z85 fun _=>?_)
  refine R.af [0,1,2,3,4,5,6,7,8,9,10,11,16,17,18,19,20,21,22,23,24,25,26,28,32,33,34,35,36,37,38,39,40,41,42,44,12,13,14,15,27,29,30,31,43,45,46,47,48] (by rfl) ?_
  repeat (first|(refine R.Zpf (by rfl) (by intro _ _ _;(first|refine bI ?_|refine jc ?_|refine rZ ?_|refine Z01 ?_|refine Z02 ?_);exact Zq) ?_)|refine aL ?_|refine yQ (s1 _) ?_|refine yQ (s2 _) ?_|refine yQ (s3 _) ?_|refine Ko ?_|refine ag c1 ?_|refine ag c2 ?_|refine ag c3 ?_|refine ag e1 ?_|refine ag e2 ?_|refine lx ?_|(refine R.Zpd (by rfl) (by intro _ _ _;(refine av (m:=12) (kk:=.u64) (vss:=sl2 z0 v1) (by rfl) (by rfl) (by rfl) (by rfl) (by rfl) (by rfl) (by rfl) (jz _ _) (by rfl) (by rfl) fun _=>?_);exact R.dO) fun _=>?_)|(refine R.Zpd (by rfl) (by intro _ _ _;(refine av (m:=12) (kk:=.u64) (vss:=sl2 k2 v2) (by rfl) (by rfl) (by rfl) (by rfl) (by rfl) (by rfl) (by rfl) (jz _ _) (by rfl) (by rfl) fun _=>?_);exact R.dO) fun _=>?_)|(refine R.Zpd (by rfl) (by intro _ _ _;(refine av (m:=12) (kk:=.u64) (vss:=sl2 k3 z1) (by rfl) (by rfl) (by rfl) (by rfl) (by rfl) (by rfl) (by rfl) (jz _ _) (by rfl) (by rfl) fun _=>?_);exact R.dO) fun _=>?_)|(refine sn ?_;intro _))
  refine R.Zp0 ?_
  repeat (first|refine uf ?_|refine Z81 fun _=>?_|refine Z82 fun _=>?_|refine Z85 fun _=>?_)
  refine Zec fun _ hw=>aa hw SubW.nil ⟨?_,rfl⟩
  rfl
end
section
attribute [local irreducible] Code.wp wpList Af bodyPost L.Go ab
open Num
attribute [local simp] ae
theorem fH(x y:F6):Spec Tryz.prog 146 [LE6 x,LE6 y] ai [] (IsV (LE6 (Kf.T6.mul x y))):=by
 have:=JO x y
 have e:=Kf.T6.q9 x y
 unfold jj at this
 unfold Kf.T6.cr at e
 rwa [e]at this
theorem yI(x:F6):Spec Tryz.prog 149 [LE6 x] ai [] (IsV (LE6 (Kf.T6.mul Kf.T6.vv x))):=by
 have:=Nm x
 rwa [Kf.T6.Vb]at this
theorem Ft(x:F6)(k:F2):Spec Tryz.prog 169 [LE6 x,LE2 k] ai [] (IsV (LE6 (Kf.T6.mul x (Kf.T6.em k)))):=by
 have:=yH x k
 rwa [← Kf.T6.Rs]at this
theorem J2{a b:Prop}(k:b)(h:Rm b→a:=by intro k;refine R.Zpb (by rfl) (by intro _ _ _;refine aq (v:=LV .u64 (List.replicate 36 0)) (by rfl) (by rfl) fun _=>?_;exact R.eM) ?_;exact k.h):a:=h ⟨k⟩
set_option maxHeartbeats 4000000 in
theorem Fm(x:F6):Spec Tryz.prog 159 [LE6 x] ai [] (IsV (LE6 (Kf.T6.inv x))):=by
 refine ad Tryz.func159 rfl rfl rfl fun w hr=>?_
 have hl0:=fun x=>ae 6 x
 have hle:=fun x:F2=>ak x
 have e0:Kf.T6.inv x=Kf.T6.mul (Kf.T6.cof x) (Kf.T6.em (Kf.K2.inv (Kf.T6.nrm x))):=rfl
 have e1:Kf.T6.nrm x=Kf.K2.add (Kf.K2.mul x.a (Kf.T6.cof x).a) (Kf.K2.mul Kf.K2.xi (Kf.K2.add (Kf.K2.mul x.c (Kf.T6.cof x).b) (Kf.K2.mul x.b (Kf.T6.cof x).c))):=rfl
 have c0:(Kf.T6.cof x).a=Kf.K2.sub (Kf.K2.mul x.a x.a) (Kf.K2.mul Kf.K2.xi (Kf.K2.mul x.b x.c)):=rfl
 have c1:(Kf.T6.cof x).b=Kf.K2.sub (Kf.K2.mul Kf.K2.xi (Kf.K2.mul x.c x.c)) (Kf.K2.mul x.a x.b):=rfl
 have c2:(Kf.T6.cof x).c=Kf.K2.sub (Kf.K2.mul x.b x.b) (Kf.K2.mul x.a x.c):=rfl
 have s9:=Ft (Kf.T6.cof x) (Kf.K2.inv (Kf.T6.nrm x))
 rw[← e0]at s9
 have s8:=kq (Kf.T6.nrm x)
 generalize Kf.T6.inv x=r at *
 generalize Kf.K2.inv (Kf.T6.nrm x)=i at *
 generalize Kf.T6.cof x=z at *
 obtain⟨z0,z1,z2⟩:=z
 obtain⟨x0,x1,x2⟩:=x
 simp only at c0 c1 c2 e1
 have a1:=aF x0 x0
 have a2:=aF x1 x2
 have a3:=E7 (Kf.K2.mul x1 x2)
 have a4:=bE (Kf.K2.mul x0 x0) (Kf.K2.mul Kf.K2.xi (Kf.K2.mul x1 x2))
 have b1:=aF x2 x2
 have b2:=E7 (Kf.K2.mul x2 x2)
 have b3:=aF x0 x1
 have b4:=bE (Kf.K2.mul Kf.K2.xi (Kf.K2.mul x2 x2)) (Kf.K2.mul x0 x1)
 have d1:=aF x1 x1
 have d2:=aF x0 x2
 have d3:=bE (Kf.K2.mul x1 x1) (Kf.K2.mul x0 x2)
 rw[← c0]at a4
 rw[← c1]at b4
 rw[← c2]at d3
 have n1:=aF x0 z0
 have n2:=aF x2 z1
 have n3:=aF x1 z2
 have n4:=fun b=>ij (slv b 2) (Kf.K2.mul x2 z1) (Kf.K2.mul x1 z2)
 have n5:=E7 (Kf.K2.add (Kf.K2.mul x2 z1) (Kf.K2.mul x1 z2))
 have n6:=fun b=>ij (slv b 2) (Kf.K2.mul x0 z0) (Kf.K2.mul Kf.K2.xi (Kf.K2.add (Kf.K2.mul x2 z1) (Kf.K2.mul x1 z2)))
 rw[← e1]at n6
 generalize Kf.K2.mul Kf.K2.xi (Kf.K2.add (Kf.K2.mul x2 z1) (Kf.K2.mul x1 z2))=m1 at *
 generalize Kf.K2.add (Kf.K2.mul x2 z1) (Kf.K2.mul x1 z2)=m2 at *
 generalize Kf.K2.mul x0 z0=m3 at *
 generalize Kf.K2.mul x2 z1=m4 at *
 generalize Kf.K2.mul x1 z2=m5 at *
 generalize Kf.T6.nrm ⟨x0,x1,x2⟩=nn at *
 clear e0 e1 c0 c1 c2
 generalize Kf.K2.mul Kf.K2.xi (Kf.K2.mul x1 x2)=k1 at *
 generalize Kf.K2.mul Kf.K2.xi (Kf.K2.mul x2 x2)=k2 at *
 generalize Kf.K2.mul x0 x0=k3 at *
 generalize Kf.K2.mul x1 x2=k4 at *
 generalize Kf.K2.mul x2 x2=k5 at *
 generalize Kf.K2.mul x0 x1=k6 at *
 generalize Kf.K2.mul x1 x1=k7 at *
 generalize Kf.K2.mul x0 x2=k8 at *
 have hz:(E2 z0++(E2 z1++E2 z2)).length=36:=eQ _ _ _
 repeat (first|(refine lw ?_;intro _)|refine bU ?_|refine Z81 fun _=>?_|refine Z82 fun _=>?_|refine Z85 fun _=>?_)
 refine R.af [0,1,2,3,4,5,6,7,8,9,10,11,12,13,14,15,16,17,18,19,20,21,22,23,24,25,26,27,28,29,30,31,32,33,34,35,36,37] (by rfl) ?_
 repeat (first|refine Du ?_|refine ag a1 ?_|refine ag a2 ?_|refine ag a3 ?_|refine ag a4 ?_|refine ag b1 ?_|refine ag b2 ?_|refine ag b3 ?_|refine ag b4 ?_|refine ag d1 ?_|refine ag d2 ?_|refine ag d3 ?_|refine lx ?_|(refine J2 ?_;intro _)|(refine sn ?_;intro _))
 refine R.Zp0 ?_
 repeat (first|refine bU ?_|refine Z81 fun _=>?_|refine Z82 fun _=>?_|refine Z85 fun _=>?_)
 rename_i p1 p2 p3
 refine nj (fun a=>[(1,pt p1 0),(2,pt p2 0),(3,pt p3 0),(4,pt a 0)]) (fun a=>[.blk a (LE2 nn) 34,.blk p3 (LV .u64 (E2 z0++(E2 z1++E2 z2))) 136,.blk p2 (LV .u64 (List.replicate 36 0)) 136]) (fun p4=>?_) (fun hK=>?_)
 case refine_2=>
  refine R.af [0,1,2,3,5,6,7,8,10,11,12,13,4,9,14,15,20,16,17,18,19,21] (by rfl) ?_
  repeat' (first|(refine R.Zpf (by rfl) (by intro _ _ _;(first|refine bI ?_|refine jc ?_);exact Zq) ?_)|refine aL ?_|refine yQ (n4 _) ?_|refine yQ (n6 _) ?_|refine Ko ?_|refine ag n1 ?_|refine ag n2 ?_|refine ag n3 ?_|refine ag n5 ?_|refine aA ?_|(refine R.Zpd (by rfl) (by intro _ _ _;(refine av (m:=12) (kk:=.u64) (vss:=sl2 m4 m5) (by rfl) (by rfl) (by rfl) (by rfl) (by rfl) (by rfl) (by rfl) (jz _ _) (by rfl) (by rfl) fun _=>?_);exact R.dO) fun _=>?_)|(refine R.Zpd (by rfl) (by intro _ _ _;(refine av (m:=12) (kk:=.u64) (vss:=sl2 m3 m1) (by rfl) (by rfl) (by rfl) (by rfl) (by rfl) (by rfl) (by rfl) (jz _ _) (by rfl) (by rfl) fun _=>?_);exact R.dO) fun _=>?_)|(refine R.zn (i:=15) (j:=20) [16,17,18,20,19,21] [15,16,17,18,19,21] (R.Mks.mk (R.Mk.mk' (by rfl) (by intro _ _ _;(refine av (m:=12) (kk:=.u64) (vss:=sl2 m4 m5) (by rfl) (by rfl) (by rfl) (by rfl) (by rfl) (by rfl) (by rfl) (jz _ _) (by rfl) (by rfl) fun _=>?_);first|exact R.iD|exact R.dO|exact R.iE)) (fun _=>?_)) (R.Mks.mk (R.Mk.mk' (by rfl) (by intro _ _ _;refine aq (v:=LV .u64 (List.replicate 12 0)) (by rfl) (by rfl) fun _=>?_;first|exact R.iD|exact R.dO|exact R.iE)) (fun _=>?_)))|(refine R.zn (i:=18) (j:=20) [19,20,21] [18,19,21] (R.Mks.mk (R.Mk.mk' (by rfl) (by intro _ _ _;(refine av (m:=12) (kk:=.u64) (vss:=sl2 m3 m1) (by rfl) (by rfl) (by rfl) (by rfl) (by rfl) (by rfl) (by rfl) (jz _ _) (by rfl) (by rfl) fun _=>?_);first|exact R.iD|exact R.dO|exact R.iE)) (fun _=>?_)) (R.Mks.mk (R.Mk.mk' (by rfl) (by intro _ _ _;refine aq (v:=LV .u64 (List.replicate 12 0)) (by rfl) (by rfl) fun _=>?_;first|exact R.iD|exact R.dO|exact R.iE)) (fun _=>?_)))|(refine fK ?_;intro _)|(refine sn ?_;intro _))
  all_goals refine R.Zp0 ?_
  all_goals exact dY sbq sw (hK _)
 case refine_1=>
  repeat (first|refine bU ?_|refine Z81 fun _=>?_|refine Z82 fun _=>?_|refine Z85 fun _=>?_)
  refine R.af [0,1,2,3,4] (by rfl) ?_
  repeat (first|(refine R.Zpf (by rfl) (by intro _ _ _;(first|refine bI ?_);exact Zq) ?_)|refine aL ?_|(refine R.Zpp (by rfl) (by intro _ _ _;(refine bH (by rfl) fd (by rfl) (by rfl) (ab.all hz) (by rfl) ?_);exact Zq) ?_)|refine Ko ?_|refine ag s8 ?_|refine ag s9 ?_|refine lx ?_|(refine sn ?_;intro _))
  refine R.Zp0 ?_
  repeat (first|refine bU ?_|refine Z81 fun _=>?_|refine Z82 fun _=>?_|refine Z85 fun _=>?_)
  refine Zec fun _ hw=>aa hw SubW.nil ⟨?_,rfl⟩
  rfl
abbrev F12:=Kf.T12 p
abbrev E12(x:F12):List Nat:=E6 x.a++E6 x.b
abbrev bL(x:F12):Value:=LV .u64 (E12 x)
theorem be(x:F12):(E12 x).length=72:=by rw[List.length_append,dg,dg]
theorem ab.h0(x:F12):ab (E12 x) 0 36 (E6 x.a):=ab.l (dg _)
theorem ab.h1(x:F12):ab (E12 x) 36 36 (E6 x.b):=ab.r (dg _) (dg _)
theorem ab.k0(x:F12):ab (E12 x) 0 12 (E2 x.a.a):=ab.inl (ab.t0 (ak _))
theorem ab.k1(x:F12):ab (E12 x) 12 12 (E2 x.a.b):=ab.inl (ab.t1 (ak _) (ak _))
theorem ab.k2(x:F12):ab (E12 x) 24 12 (E2 x.a.c):=ab.inl (ab.t2 (ak _) (ak _) (ak _))
theorem ab.k3(x:F12):ab (E12 x) 36 12 (E2 x.b.a):=by
 have h:=ab.inr (xs:=E6 x.a) (show ab (E6 x.b) 0 12 (E2 x.b.a)from ab.t0 (ak x.b.a))
 rwa [dg]at h
theorem ab.k4(x:F12):ab (E12 x) 48 12 (E2 x.b.b):=by
 have h:=ab.inr (xs:=E6 x.a) (show ab (E6 x.b) 12 12 (E2 x.b.b)from ab.t1 (ak x.b.a) (ak x.b.b))
 rwa [dg]at h
theorem ab.k5(x:F12):ab (E12 x) 60 12 (E2 x.b.c):=by
 have h:=ab.inr (xs:=E6 x.a) (show ab (E6 x.b) 24 12 (E2 x.b.c)from ab.t2 (ak x.b.a) (ak x.b.b) (ak x.b.c))
 rwa [dg]at h
theorem ab.whole(x:F12):ab (E12 x) 0 72 (E12 x):=ab.all (be x)
theorem ab.whole6(x:F6):ab (E6 x) 0 36 (E6 x):=ab.all (dg x)
theorem cL{a b:Prop}(k:b)(h:Rm b→a:=by intro k;refine aq (v:=LV .u64 (List.replicate 72 0)) (by rfl) (by rfl) ?_;exact k.h):a:=h ⟨k⟩
theorem yR{a b:Prop}(k:b)(h:Rm b→a:=by intro k;refine ov (by rfl) (by first | exact(show _=some (0,36)from rfl) | exact(show _=some (36,36)from rfl) | exact(show _=some (0,12)from rfl) | exact(show _=some (12,12)from rfl) | exact(show _=some (24,12)from rfl)) (by rfl) (by rfl) ?_;exact k.h):a:=h ⟨k⟩
theorem OR{a b:Prop}(k:b)(h:Rm b→a:=by intro k;refine cz (m:=36) (by rfl) (by rfl) (by rfl) (by rfl) (dg _) (dg _) (by rfl) ?_;exact k.h):a:=h ⟨k⟩
theorem yT{a b:Prop}(k:b)(h:Rm b→a:=by intro k;refine R.Zpp (by rfl) (by intro _ _ _;(refine bH (by rfl) fd (by rfl) (by rfl) (ab.k0 _) (by rfl) ?_);exact Zq) ?_;exact k.h):a:=h ⟨k⟩
theorem yU{a b:Prop}(k:b)(h:Rm b→a:=by intro k;refine R.Zpp (by rfl) (by intro _ _ _;(refine bH (by rfl) fd (by rfl) (by rfl) (ab.k1 _) (by rfl) ?_);exact Zq) ?_;exact k.h):a:=h ⟨k⟩
theorem yV{a b:Prop}(k:b)(h:Rm b→a:=by intro k;refine R.Zpp (by rfl) (by intro _ _ _;(refine bH (by rfl) fd (by rfl) (by rfl) (ab.k2 _) (by rfl) ?_);exact Zq) ?_;exact k.h):a:=h ⟨k⟩
theorem yW{a b:Prop}(k:b)(h:Rm b→a:=by intro k;refine R.Zpp (by rfl) (by intro _ _ _;(refine bH (by rfl) fd (by rfl) (by rfl) (ab.k3 _) (by rfl) ?_);exact Zq) ?_;exact k.h):a:=h ⟨k⟩
theorem yX{a b:Prop}(k:b)(h:Rm b→a:=by intro k;refine R.Zpp (by rfl) (by intro _ _ _;(refine bH (by rfl) fd (by rfl) (by rfl) (ab.k4 _) (by rfl) ?_);exact Zq) ?_;exact k.h):a:=h ⟨k⟩
theorem yY{a b:Prop}(k:b)(h:Rm b→a:=by intro k;refine R.Zpp (by rfl) (by intro _ _ _;(refine bH (by rfl) fd (by rfl) (by rfl) (ab.k5 _) (by rfl) ?_);exact Zq) ?_;exact k.h):a:=h ⟨k⟩
theorem yZ{a b:Prop}(k:b)(h:Rm b→a:=by intro k;refine R.Zpp (by rfl) (by intro _ _ _;(refine bH (by rfl) fd (by rfl) (by rfl) (ab.h0 _) (by rfl) ?_);exact Zq) ?_;exact k.h):a:=h ⟨k⟩
theorem za{a b:Prop}(k:b)(h:Rm b→a:=by intro k;refine R.Zpp (by rfl) (by intro _ _ _;(refine bH (by rfl) fd (by rfl) (by rfl) (ab.h1 _) (by rfl) ?_);exact Zq) ?_;exact k.h):a:=h ⟨k⟩
theorem C7{a b:Prop}(k:b)(h:Rm b→a:=by intro k;refine R.Zps (by rfl) (by intro _ _ _;(refine aX (m:=72) (by rfl) (by rfl) fd (by rfl) (by simp) (be _) ?_);exact Zqq) ?_;exact k.h):a:=h ⟨k⟩
theorem Pv{a b:Prop}(k:b)(h:Rm b→a:=by intro k;refine R.Zpf (by rfl) (by intro _ _ _;(first|refine yR ?_|refine OR ?_);exact Zq) ?_;exact k.h):a:=h ⟨k⟩
theorem PJ{a b:Prop}(k:b)(h:Rm b→a:=by intro k;(first|refine Pv ?_|refine aL ?_|refine yT ?_|refine yU ?_|refine yV ?_|refine yW ?_|refine yX ?_|refine yY ?_|refine yZ ?_|refine za ?_);exact k.h):a:=h ⟨k⟩
theorem nE{a b:Prop}(k:b)(h:Rm b→a:=by intro k;(first|refine aA ?_|refine C7 ?_);exact k.h):a:=h ⟨k⟩
theorem Fl(x:F12):Spec Tryz.prog 160 [bL x] ai [] (IsV (bL x)):=by
  refine ad Tryz.func160 rfl rfl rfl fun w hr=>?_
  have a1:=oA x.a
  have a2:=oA x.b
  repeat (first|(refine cL ?_;intro _)|refine bU ?_|refine Z81 fun _=>?_|refine Z82 fun _=>?_)
  refine R.af [0,1,2,3,4,5,6,7] (by rfl) ?_
  repeat (first|refine PJ ?_|refine ag a1 ?_|refine ag a2 ?_|refine nE ?_|(refine aV ?_;intro _))
  refine R.Zp0 ?_
  repeat (first|refine bU ?_|refine Z81 fun _=>?_|refine Z82 fun _=>?_)
  refine Zec fun _ hw=>aa hw SubW.nil ⟨?_,rfl⟩
  rfl
theorem jF(x:F12):Spec Tryz.prog 142 [bL x] ai [] (IsV (bL (Kf.T12.conj x))):=by
  refine ad Tryz.func142 rfl rfl rfl fun w hr=>?_
  have a1:=oA x.a
  have a2:=t8 x.b
  repeat (first|(refine cL ?_;intro _)|refine bU ?_|refine Z81 fun _=>?_|refine Z82 fun _=>?_)
  refine R.af [0,1,2,3,4,5,6,7] (by rfl) ?_
  repeat (first|refine PJ ?_|refine ag a1 ?_|refine ag a2 ?_|refine nE ?_|(refine aV ?_;intro _))
  refine R.Zp0 ?_
  repeat (first|refine bU ?_|refine Z81 fun _=>?_|refine Z82 fun _=>?_)
  refine Zec fun _ hw=>aa hw SubW.nil ⟨?_,rfl⟩
  rfl
theorem J3{a b:Prop}(k:b)(h:Rm b→a:=by intro k;refine R.Zps (by rfl) (by intro _ _ _;(refine aX (m:=36) (by rfl) (by rfl) fd (by rfl) (by simp) (dg _) ?_);exact Zqq) ?_;exact k.h):a:=h ⟨k⟩
theorem Fi(u v:Nat)(x y:F12):Spec Tryz.prog 147 [pt u 0,pt v 0] (fun w=>eL w u (bL x) 138∧eL w v (bL y) 138) [] (IsV (LE6 (Kf.T6.mul (Kf.T6.add x.a x.b) (Kf.T6.add y.a y.b)))):=by
 refine ad Tryz.func147 rfl rfl rfl fun w hr=>?_
 have h1:=OldB.mk0 hr.1
 have h2:=OldB.mk0 hr.2
 have a1:=kT x.a x.b
 have a2:=kT y.a y.b
 have a3:=fH (Kf.T6.add x.a x.b) (Kf.T6.add y.a y.b)
 repeat (first|(refine lw ?_;intro _)|refine bU ?_|refine Z82 fun _=>?_)
 refine R.af [0,1,2,3,4,5,6,7,8,9,10,11] (by rfl) ?_
 repeat (first|(refine R.Zpf (by rfl) (by intro _ _ _;(first|refine yR ?_);exact Zq) ?_)|refine aL ?_|(refine R.Zpp (by rfl) (by intro _ _ _;(refine en (by rfl) (h1.shift (by assumption)) (by rfl) (by rfl) (ab.h0 x) (by rfl) ?_);exact Zq) ?_)|(refine R.Zpp (by rfl) (by intro _ _ _;(refine en (by rfl) (h1.shift (by assumption)) (by rfl) (by rfl) (ab.h1 x) (by rfl) ?_);exact Zq) ?_)|(refine R.Zpp (by rfl) (by intro _ _ _;(refine en (by rfl) (h2.shift (by assumption)) (by rfl) (by rfl) (ab.h0 y) (by rfl) ?_);exact Zq) ?_)|(refine R.Zpp (by rfl) (by intro _ _ _;(refine en (by rfl) (h2.shift (by assumption)) (by rfl) (by rfl) (ab.h1 y) (by rfl) ?_);exact Zq) ?_)|refine ag a1 ?_|refine ag a2 ?_|refine ag a3 ?_|refine aA ?_|refine J3 ?_|(refine A6 ?_;intro _))
 refine R.Zp0 ?_
 repeat (first|refine bU ?_|refine Z82 fun _=>?_)
 refine Zec fun _ hw=>aa hw SubW.nil ⟨?_,rfl⟩
 rfl
theorem OS{a b:Prop}(k:b)(h:Rm b→a:=by intro k;refine R.Zpp (by rfl) (by intro _ _ _;(refine bH (by rfl) fd (by rfl) (by rfl) (ab.whole6 _) (by rfl) ?_);exact Zq) ?_;exact k.h):a:=h ⟨k⟩
set_option maxHeartbeats 2000000 in
theorem jb(x y:F12):Spec Tryz.prog 129 [bL x,bL y] ai [] (IsV (bL (Kf.T12.mul x y))):=by
 refine ad Tryz.func129 rfl rfl rfl fun w hr=>?_
 rw[← Kf.T12.q9]
 have a1:=fH x.a y.a
 have a2:=fH x.b y.b
 have a3:=yI (Kf.T6.mul x.b y.b)
 have a4:=kT (Kf.T6.mul x.a y.a) (Kf.T6.mul Kf.T6.vv (Kf.T6.mul x.b y.b))
 have a5:=fun u v=>Fi u v x y
 have a6:=kT (Kf.T6.mul x.a y.a) (Kf.T6.mul x.b y.b)
 have a7:=t9 (Kf.T6.mul (Kf.T6.add x.a x.b) (Kf.T6.add y.a y.b)) (Kf.T6.add (Kf.T6.mul x.a y.a) (Kf.T6.mul x.b y.b))
 generalize Kf.T6.sub (Kf.T6.mul (Kf.T6.add x.a x.b) (Kf.T6.add y.a y.b)) (Kf.T6.add (Kf.T6.mul x.a y.a) (Kf.T6.mul x.b y.b))=k1 at *
 generalize Kf.T6.mul (Kf.T6.add x.a x.b) (Kf.T6.add y.a y.b)=k2 at *
 generalize Kf.T6.add (Kf.T6.mul x.a y.a) (Kf.T6.mul Kf.T6.vv (Kf.T6.mul x.b y.b))=k3 at *
 generalize Kf.T6.mul Kf.T6.vv (Kf.T6.mul x.b y.b)=k4 at *
 generalize Kf.T6.add (Kf.T6.mul x.a y.a) (Kf.T6.mul x.b y.b)=k5 at *
 generalize Kf.T6.mul x.a y.a=k6 at *
 generalize Kf.T6.mul x.b y.b=k7 at *
 repeat (first|(refine cL ?_;intro _)|refine zf ?_|refine Z81 fun _=>?_|refine Z82 fun _=>?_)
 rename_i p2 p3 p4
 refine CA (fun a b=>[(2,pt p2 0),(3,pt p3 0),(4,pt p4 0),(5,pt a 0),(6,pt b 0)]) (fun a b=>[.blk a (LE6 k6) 136,.blk b (LE6 k7) 136,.blk p4 (LV .u64 (List.replicate 72 0)) 138,.blk p3 (bL y) 138,.blk p2 (bL x) 138]) (fun p5 p6=>?_) (fun hK=>?_)
 case refine_2=>
  refine R.af [0,1,2,3,4,5,6,7,8,9,10,11,12,13] (by rfl) ?_
  repeat' (first|(refine R.Zpf (by rfl) (by intro _ _ _;(first|refine yR ?_|refine Z01 ?_|refine Z02 ?_|refine Z48 ?_);exact Zq) ?_)|refine aL ?_|refine yT ?_|refine yU ?_|refine yV ?_|refine yW ?_|refine yX ?_|refine yY ?_|refine yZ ?_|refine za ?_|refine ag a1 ?_|refine ag a2 ?_|refine aA ?_|refine J3 ?_|(refine R.FJ (R.Mks.mk (R.Mk.mk' (by rfl) (by intro _ _ _;refine aq (v:=LV .u64 (List.replicate 36 0)) (by rfl) (by rfl) fun _=>?_;first|exact R.iD|exact R.dO|exact R.iE)) (fun _=>?_)) (R.Mks.mk (R.Mk.mk' (by rfl) (by intro _ _ _;refine aq (v:=LV .u64 (List.replicate 36 0)) (by rfl) (by rfl) fun _=>?_;first|exact R.iD|exact R.dO|exact R.iE)) (fun _=>?_)))|(refine J2 ?_;intro _)|(refine aV ?_;intro _))
  all_goals refine R.Zp0 ?_
  all_goals exact dY sbq sw (hK _ _)
 case refine_1=>
  repeat (first|refine zf ?_|refine Z81 fun _=>?_|refine Z82 fun _=>?_)
  refine R.af [0,1,2,3,4,5,6,7,8,9,10,11] (by rfl) ?_
  repeat (first|(refine R.Zpf (by rfl) (by intro _ _ _;(first|refine OR ?_|refine Z01 ?_|refine Z02 ?_|refine Z48 ?_);exact Zq) ?_)|refine aL ?_|refine OS ?_|refine ag a3 ?_|refine ag a4 ?_|(refine R.Zpp (by rfl) (by intro _ _ _;refine ah (by rfl) (by rfl) (by rfl) (a5 _ _) (fun w hw=>⟨eL.own fd w hw,eL.own fd w hw⟩) (by rfl) ?_;exact Zq) ?_)|refine ag a6 ?_|refine ag a7 ?_|refine nE ?_|(refine aV ?_;intro _))
  refine R.Zp0 ?_
  repeat (first|refine zf ?_|refine Z81 fun _=>?_|refine Z82 fun _=>?_)
  refine Zec fun _ hw=>aa hw SubW.nil ⟨?_,rfl⟩
  rfl
set_option maxHeartbeats 2000000 in
theorem Fh(x:F12):Spec Tryz.prog 143 [bL x] ai [] (IsV (bL (Kf.T12.inv x))):=by
 refine ad Tryz.func143 rfl rfl rfl fun w hr=>?_
 have e:Kf.T12.inv x=⟨Kf.T6.mul x.a (Kf.T6.inv (Kf.T6.sub (Kf.T6.mul x.a x.a) (Kf.T6.mul Kf.T6.vv (Kf.T6.mul x.b x.b)))),Kf.T6.neg (Kf.T6.mul x.b (Kf.T6.inv (Kf.T6.sub (Kf.T6.mul x.a x.a) (Kf.T6.mul Kf.T6.vv (Kf.T6.mul x.b x.b)))))⟩:=rfl
 rw[e]
 have a1:=fH x.a x.a
 have a2:=fH x.b x.b
 have a3:=yI (Kf.T6.mul x.b x.b)
 have a4:=t9 (Kf.T6.mul x.a x.a) (Kf.T6.mul Kf.T6.vv (Kf.T6.mul x.b x.b))
 generalize Kf.T6.sub (Kf.T6.mul x.a x.a) (Kf.T6.mul Kf.T6.vv (Kf.T6.mul x.b x.b))=k1 at *
 have a5:=Fm k1
 generalize Kf.T6.inv k1=i at *
 have a6:=fH x.a i
 have a7:=fH x.b i
 have a8:=t8 (Kf.T6.mul x.b i)
 generalize Kf.T6.neg (Kf.T6.mul x.b i)=k2 at *
 generalize Kf.T6.mul x.b i=k3 at *
 generalize Kf.T6.mul x.a i=k4 at *
 generalize Kf.T6.mul Kf.T6.vv (Kf.T6.mul x.b x.b)=k5 at *
 generalize Kf.T6.mul x.b x.b=k6 at *
 generalize Kf.T6.mul x.a x.a=k7 at *
 repeat (first|(refine cL ?_;intro _)|refine bU ?_|refine Z81 fun _=>?_|refine Z82 fun _=>?_)
 refine R.af [0,1,2,3,4,5,6,7,8,9,10,11,12,13,14] (by rfl) ?_
 repeat (first|(refine R.Zpf (by rfl) (by intro _ _ _;(first|refine yR ?_);exact Zq) ?_)|refine aL ?_|refine yT ?_|refine yU ?_|refine yV ?_|refine yW ?_|refine yX ?_|refine yY ?_|refine yZ ?_|refine za ?_|refine ag a1 ?_|refine ag a2 ?_|refine ag a3 ?_|refine ag a4 ?_|refine ag a5 ?_|refine aA ?_|refine J3 ?_|(refine J2 ?_;intro _)|(refine aV ?_;intro _))
 refine R.Zp0 ?_
 repeat (first|refine bU ?_|refine Z81 fun _=>?_|refine Z82 fun _=>?_)
 refine R.af [0,1,2,3,4,5,6,7,8,9,10] (by rfl) ?_
 repeat (first|refine Pv ?_|refine aL ?_|refine yT ?_|refine yU ?_|refine yV ?_|refine yW ?_|refine yX ?_|refine yY ?_|refine yZ ?_|refine za ?_|refine OS ?_|refine ag a6 ?_|refine ag a7 ?_|refine ag a8 ?_|refine nE ?_|(refine aV ?_;intro _))
 refine R.Zp0 ?_
 repeat (first|refine bU ?_|refine Z81 fun _=>?_|refine Z82 fun _=>?_)
 refine Zec fun _ hw=>aa hw SubW.nil ⟨?_,rfl⟩
 rfl
end
section
attribute [local irreducible] Code.wp wpList Af bodyPost L.Go ab
open Num
attribute [local simp] ae
section
variable {P:Program} {c:Cx} {n:Nn} {l:Sl} {W:List Res} {ops:Array Oper} {Q:Exit→Act→World→Prop} {rest:List Oper}
variable {d:Nat} {T:TypeId} {pos:String} {after:Array Edge}
theorem AJ{t:TypeId}{fs:Array Field}{m:Nat}{k:IntKind}{xs:List Nat}{x:Operand}(ht:P.underlying t=some (.struct fs))(hpl:jR P fs.toList=some [(0,m),(m,m),(m+m,m)])(hz:cE P t=some (LV k (List.replicate (m+(m+m)) 0)))
  (hv:evs l [x]=some [LV k xs]) (h1:xs.length=m) (hn:Nat.blt d n.sz=true)
  (hk:Go c n ((d,LV k (xs++(List.replicate m 0++List.replicate m 0)))::l) W (wpList P ops Q rest)):Go c n l W (wpList P ops Q (⟨some d,.build t #[(0,x)],T,pos,after,none⟩::rest)):=
 eD (is:=[0]) (xs:=[x]) (vs:=[xs]) ht hpl hz hv (by
  have e:List.replicate (m+(m+m)) 0=[]++List.replicate m 0++(List.replicate m 0++List.replicate m 0):=by rw[List.nil_append,List.replicate_append_replicate,List.replicate_append_replicate]
  rw[e]
  exact .cons (by simp) (by simpa using h1) .nil) hn hk
theorem AK{t:TypeId}{fs:Array Field}{m:Nat}{k:IntKind}{xs:List Nat}{x:Operand}(ht:P.underlying t=some (.struct fs))(hpl:jR P fs.toList=some [(0,m),(m,m),(m+m,m)])(hz:cE P t=some (LV k (List.replicate (m+(m+m)) 0)))
  (hv:evs l [x]=some [LV k xs]) (h1:xs.length=m) (hn:Nat.blt d n.sz=true)
  (hk:Go c n ((d,LV k (List.replicate m 0++(xs++List.replicate m 0)))::l) W (wpList P ops Q rest)):Go c n l W (wpList P ops Q (⟨some d,.build t #[(1,x)],T,pos,after,none⟩::rest)):=
 eD (is:=[1]) (xs:=[x]) (vs:=[xs]) ht hpl hz hv (by
  have e:List.replicate (m+(m+m)) 0=List.replicate m 0++List.replicate m 0++List.replicate m 0:=by rw[List.replicate_append_replicate,List.replicate_append_replicate,Nat.add_assoc]
  rw[e,← List.append_assoc]
  exact .cons (by simp) (by simpa using h1) .nil) hn hk
theorem x9{t:TypeId}{fs:Array Field}{m:Nat}{k:IntKind}{xs ys:List Nat}{x y:Operand}(ht:P.underlying t=some (.struct fs))(hpl:jR P fs.toList=some [(0,m),(m,m),(m+m,m)])(hz:cE P t=some (LV k (List.replicate (m+(m+m)) 0)))
  (hv:evs l [x,y]=some [LV k xs,LV k ys]) (h1:xs.length=m) (h2:ys.length=m) (hn:Nat.blt d n.sz=true)
  (hk:Go c n ((d,LV k (xs++(ys++List.replicate m 0)))::l) W (wpList P ops Q rest)):Go c n l W (wpList P ops Q (⟨some d,.build t #[(0,x),(1,y)],T,pos,after,none⟩::rest)):=
 eD (is:=[0,1]) (xs:=[x,y]) (vs:=[xs,ys]) ht hpl hz hv (by
  have e:List.replicate (m+(m+m)) 0=[]++List.replicate m 0++(List.replicate m 0++List.replicate m 0):=by rw[List.nil_append,List.replicate_append_replicate,List.replicate_append_replicate]
  rw[e]
  refine .cons (by simp) (by simpa using h1) ?_
  rw[List.nil_append,← List.append_assoc,← List.append_assoc]
  exact .cons (by simp[h1]) (by simpa using h2) .nil) hn hk
end
theorem KH:(List.replicate 12 0:List Nat)=E2 (Kf.K2.zero:F2):=wh
theorem PM:(List.replicate 36 0:List Nat)=E6 Kf.T6.zero:=A8
theorem UB:E2 (Kf.K2.one:F2)++(List.replicate 12 0++List.replicate 12 0)=E6 (Kf.T6.one:F6):=by rw[KH];rfl
theorem UD:E6 (Kf.T6.one:F6)++List.replicate 36 0=E12 (Kf.T12.one:F12):=by rw[PM];rfl
attribute [local irreducible] Kf.T12.mul Kf.T12.one CR.pw
theorem WK(x:F12)(m:Nat):Kf.T12.mul (CR.pw x m) (CR.pw x m)=CR.pw x (m+m):=(CR.dP x m m).symm
theorem WL(x:F12)(m:Nat):Kf.T12.mul (CR.pw x m) x=CR.pw x (m+1):=(CR.kW x m).symm
theorem Vp{a b:Prop}(k:b)(h:Rm b→a:=by intro k;refine AJ (m:=12) (by rfl) (by rfl) (by kernel_rfl) (by rfl) (ak _) (by rfl) ?_;rw[UB];exact k.h):a:=h ⟨k⟩
theorem Vq{a b:Prop}(k:b)(h:Rm b→a:=by intro k;refine ek (m:=36) (by rfl) (by rfl) (by kernel_rfl) (by rfl) (dg _) (by rfl) ?_;rw[UD];exact k.h):a:=h ⟨k⟩
theorem ug{a b:Prop}(k:b)(h:Rm b→a:=by intro k;(first|refine Z01 ?_|refine Z02 ?_|refine Z03 ?_|refine Z04 ?_|refine Z05 ?_|refine Z06 ?_|refine Z07 ?_|refine Z08 ?_|refine Z09 ?_|refine Z10 ?_|refine Z11 ?_|refine Z12 ?_|refine Z13 ?_|refine Z14 ?_|refine Z15 ?_|refine Z16 ?_|refine Z17 ?_|refine Z18 ?_|refine Z20 ?_|refine Z21 ?_|refine Z22 ?_|refine Z23 ?_|refine Z24 ?_|refine Z26 ?_|refine Z27 ?_|refine Z29 ?_|refine Z30 ?_|refine Z31 ?_|refine Z32 ?_|refine Z36 ?_|refine Z37 ?_|refine Z38 ?_|refine Z40 ?_|refine Z42 ?_|refine Z67 ?_|refine Z71 ?_);exact k.h):a:=h ⟨k⟩
theorem f9{a b:Prop}(k:b)(h:Rm b→a:=by intro k;refine bH (by rfl) fd (by rfl) (by rfl) (ab.whole _) (by rfl) ?_;exact k.h):a:=h ⟨k⟩
theorem r9{a b:Prop}(k:b)(h:Rm b→a:=by intro k;refine aX (m:=72) (by rfl) (by rfl) fd (by rfl) (be _) (be _) ?_;exact k.h):a:=h ⟨k⟩
theorem jP{a b:Prop}(k:b)(h:Rm b→a:=by intro k;refine aX (m:=72) (by rfl) (by rfl) fd (by rfl) (by simp) (be _) ?_;exact k.h):a:=h ⟨k⟩
theorem Kp{a b:Prop}(k:b)(h:Rm b→a:=by intro k;(first|refine zd ?_|refine Nu ?_|refine Vp ?_|refine Vq ?_);exact k.h):a:=h ⟨k⟩
theorem Pw{a b:Prop}(k:b)(h:Rm b→a:=by intro k;(first|refine r9 ?_|refine Z01 ?_|refine Z02 ?_|refine Z03 ?_|refine Z04 ?_|refine Z05 ?_|refine Z06 ?_|refine Z07 ?_|refine Z08 ?_|refine Z09 ?_|refine Z10 ?_|refine Z11 ?_|refine Z12 ?_|refine Z13 ?_|refine Z14 ?_|refine Z15 ?_|refine Z16 ?_|refine Z17 ?_|refine Z18 ?_|refine Z20 ?_|refine Z21 ?_|refine Z22 ?_|refine Z23 ?_|refine Z24 ?_|refine Z26 ?_|refine Z27 ?_|refine Z29 ?_|refine Z30 ?_|refine Z31 ?_|refine Z32 ?_|refine Z36 ?_|refine Z37 ?_|refine Z38 ?_|refine Z40 ?_|refine Z42 ?_|refine Z67 ?_|refine Z71 ?_);exact k.h):a:=h ⟨k⟩
set_option maxHeartbeats 4000000 in
theorem oy(x:F12)(s:Value)(xs:List Nat)(hx:Lt 18446744073709551616 xs)(hl:xs.length<65536):
  Spec Tryz.prog 92 [bL x,s] (fun w=>Rd w s (xs.map (N .u64))) [] (IsV (bL (CR.pw x (V xs)))):=by
 refine ad Tryz.func92 rfl rfl rfl fun w hr=>?_
 have hr:=RdC.mk0 hr
 have hl0:=fun x=>ae 6 x
 have hle:=fun x:F2=>ak x
 have hz:V xs/2^(64*xs.length)=0:=Nat.div_eq_of_lt (by rw[Nat.pow_mul,← W_2];exact uu hx)
 have h0:(Kf.T12.one:F12)=CR.pw x (V xs/2^(64*xs.length-0)):=by rw[Nat.sub_zero,hz];exact(CR.RP x).symm
 repeat (first|refine Kp ?_|(refine cL ?_;intro _)|refine ug ?_|refine Z81 fun _=>?_|refine Z82 fun _=>?_)
 rw[h0]
 rename_i p2 p4 p5
 refine ay (ι:=Nat×Bool) (fun q=>q.1≤64*xs.length∧(q.2=false→V xs/2^(64*xs.length-q.1)=0)) (fun q=>[(1,s),(2,pt p2 0),(4,pt p4 0),(5,pt p5 0),(6,.bool q.2),(15,N .i64 (64*xs.length)),(16,N .i64 q.1)])
  (fun q=>[.blk p5 (bL (CR.pw x (V xs/2^(64*xs.length-q.1)))) 138,.blk p4 (LV .u64 (List.replicate 72 0)) 138,.blk p2 (bL x) 138]) (fun q=>64*xs.length-q.1) (0,false) ⟨Nat.zero_le _,fun _=>by rw[Nat.sub_zero];exact hz⟩ sbq sw ?_
 rintro⟨i,bg⟩ ⟨hi,hb⟩
 simp only at hi hb ⊢
 repeat (first|refine ug ?_|refine Z81 fun _=>?_|refine Z82 fun _=>?_)
 refine ao (by rfl) (fun hc=>?_) (fun hc=>?_)
 ·have hc':i<64*xs.length:=hc
  obtain⟨k,hk⟩:∃k,64*xs.length=i+k+1:=⟨64*xs.length-i-1,by omega⟩
  have hkl:k<64*xs.length:=by omega
  have e1:64*xs.length-i=k+1:=by omega
  have e2:64*xs.length-(i+1)=k:=by omega
  have e3:64*xs.length-1-i=k:=by omega
  rw[e1]at hb ⊢
  have hst:=ml (V xs) k
  have hbt:=mj hx k
  have n1:=jb (CR.pw x (V xs/2^(k+1))) (CR.pw x (V xs/2^(k+1)))
  rw[WK]at n1
  have n2:=jb (CR.pw x (V xs/2^(k+1)+V xs/2^(k+1))) x
  rw[WL]at n2
  generalize V xs/2^(k+1)=m at *
  cases bg with
  | false=>
   have hq:CR.pw x m=CR.pw x (m+m):=by rw[hb rfl]
   rw[hq]
   clear n1
   repeat (first|refine f9 ?_|refine y_4 n1 ?_|refine r9 ?_|refine ie (by rfl) (by rfl) (show k%64≤64 by omega) (by rfl) ?_|rw[hbt]|rw[e3]|refine ug ?_|refine Z81 fun _=>?_|refine Z82 fun _=>?_)
   refine ao (by rfl) (fun hb1=>?_) (fun hb1=>?_)
   ·have hx1:V xs/2^k=m+m+1:=by omega
    repeat (first|refine f9 ?_|refine y_4 n2 ?_|refine Pw ?_|refine Z81 fun _=>?_|refine Z82 fun _=>?_)
    rw[← hx1]
    exact ap (i+1,true) ⟨by simp only;omega,fun h=>by cases h⟩ (by simp only;omega) sbq (by simp only;rw[e2];exact sw)
   ·have hx1:V xs/2^k=m+m:=by omega
    repeat (first|refine ug ?_|refine Z81 fun _=>?_|refine Z82 fun _=>?_)
    rw[← hx1]
    exact ap (i+1,false) ⟨by simp only;omega,fun h=>by have:=hb rfl;simp only[e2];omega⟩ (by simp only;omega) sbq (by simp only;rw[e2];exact sw)
  | true=>
   clear hb
   repeat (first|refine f9 ?_|refine y_4 n1 ?_|refine r9 ?_|refine ie (by rfl) (by rfl) (show k%64≤64 by omega) (by rfl) ?_|rw[hbt]|rw[e3]|refine ug ?_|refine Z81 fun _=>?_|refine Z82 fun _=>?_)
   refine ao (by rfl) (fun hb1=>?_) (fun hb1=>?_)
   ·have hx1:V xs/2^k=m+m+1:=by omega
    repeat (first|refine f9 ?_|refine y_4 n2 ?_|refine Pw ?_|refine Z81 fun _=>?_|refine Z82 fun _=>?_)
    rw[← hx1]
    exact ap (i+1,true) ⟨by simp only;omega,fun h=>by cases h⟩ (by simp only;omega) sbq (by simp only;rw[e2];exact sw)
   ·have hx1:V xs/2^k=m+m:=by omega
    repeat (first|refine ug ?_|refine Z81 fun _=>?_|refine Z82 fun _=>?_)
    rw[← hx1]
    exact ap (i+1,true) ⟨by simp only;omega,fun h=>by cases h⟩ (by simp only;omega) sbq (by simp only;rw[e2];exact sw)
 ·have hi':i=64*xs.length:=by omega
  subst hi'
  rw[Nat.sub_self,Nat.pow_zero,Nat.div_one]
  repeat (first|refine f9 ?_|refine jP ?_|refine Z01 ?_|refine Z02 ?_|refine Z03 ?_|refine Z04 ?_|refine Z05 ?_|refine Z06 ?_|refine Z07 ?_|refine Z08 ?_|refine Z09 ?_|refine Z10 ?_|refine Z11 ?_|refine Z12 ?_|refine Z13 ?_|refine Z14 ?_|refine Z15 ?_|refine Z16 ?_|refine Z17 ?_|refine Z18 ?_|refine Z20 ?_|refine Z21 ?_|refine Z22 ?_|refine Z23 ?_|refine Z24 ?_|refine Z26 ?_|refine Z27 ?_|refine Z29 ?_|refine Z30 ?_|refine Z31 ?_|refine Z32 ?_|refine Z36 ?_|refine Z37 ?_|refine Z38 ?_|refine Z40 ?_|refine Z42 ?_|refine Z67 ?_|refine Z71 ?_|refine Z81 fun _=>?_|refine Z82 fun _=>?_)
  refine Zec fun _ hw=>aa hw SubW.nil ⟨?_,rfl⟩
  rfl
end
section
attribute [local irreducible] Code.wp wpList Af bodyPost L.Go ab
open Num
attribute [local simp] ae
def gK:F2:=k2 0x1904d3bf02bb0667c231beb4202c0d1f0fd603fd3cbd5f4f7b2443d784bab9c4f67ea53d63e7813d8d0775ed92235fb8 0x00fc3e2b36c4e03288e9e902231f9fb854a14787b6c7b36fec0c8ec971f63c5f282d5ac14d6c7ec22cf78a126ddc4af3
def ql:List (List Nat):=(List.range 6).map fun k=>E2 (Kf.K2.pw gK k)
theorem GG:∀v∈ql,v.length=12:=by
 intro v hv
 obtain⟨k,_,rfl⟩:=List.mem_map.1 hv
 exact ak _
theorem GF{k:Nat}(h:k<6):ql[k]?=some (E2 (Kf.K2.pw gK k)):=by
 unfold ql
 rw[List.getElem?_map,List.getElem?_range h];rfl
theorem uN:([0x1,0x0,0x0,0x0,0x0,0x0,0x0,0x0,0x0,0x0,0x0,0x0,
 0x8d0775ed92235fb8,0xf67ea53d63e7813d,0x7b2443d784bab9c4,0xfd603fd3cbd5f4f,0xc231beb4202c0d1f,0x1904d3bf02bb0667,0x2cf78a126ddc4af3,0x282d5ac14d6c7ec2,0xec0c8ec971f63c5f,0x54a14787b6c7b36f,0x88e9e902231f9fb8,0xfc3e2b36c4e032,
 0x0,0x0,0x0,0x0,0x0,0x0,0x8bfd00000000aaac,0x409427eb4f49fffd,0x897d29650fb85f9b,0xaa0d857d89759ad4,0xec02408663d4de85,0x1a0111ea397fe699,
 0xc81084fbede3cc09,0xee67992f72ec05f4,0x77f76e17009241c5,0x48395dabc2d3435e,0x6831e36d6bd17ffe,0x6af0e0437ff400b,0xc81084fbede3cc09,0xee67992f72ec05f4,0x77f76e17009241c5,0x48395dabc2d3435e,0x6831e36d6bd17ffe,0x6af0e0437ff400b,
 0x8bfd00000000aaad,0x409427eb4f49fffd,0x897d29650fb85f9b,0xaa0d857d89759ad4,0xec02408663d4de85,0x1a0111ea397fe699,0x0,0x0,0x0,0x0,0x0,0x0,
 0x9b18fae980078116,0xc63a3e6e257f8732,0x8beadf4d8e9c0566,0xf39816240c0b8fee,0xdf47fa6b48b1e045,0x5b2cfd9013a5fd8,0x1ee605167ff82995,0x5871c1908bd478cd,0xdb45f3536814f0bd,0x70df3560e77982d0,0x6bd3ad4afa99cc91,0x144e4211384586c1]:List Nat)=ql.flatten:=by decide +kernel
set_option maxHeartbeats 2000000 in
theorem uO:Spec Tryz.prog 170 [] ai [] (IsV (LV .u64 ql.flatten)):=by
 refine ad Tryz.func170 rfl rfl rfl fun w hr=>?_
 have hlen:(ql.flatten).length=72:=by rw[← uN];rfl
 repeat (first|(refine cL ?_;intro _)|refine CX ?_|refine eO ?_|refine ET (k:=6) (m:=12) (kk:=.u64) (vss:=[_,_,_,_,_,_]) (by rfl) (by rfl) (by rfl) (by rfl) (by rfl) (by rfl) (by decide) (by rfl) ?_|refine aX (m:=72) (by rfl) (by rfl) fd (by rfl) (by simp) (by rfl) ?_|refine Z03 ?_|refine Z04 ?_|refine Z05 ?_|refine Z06 ?_|refine Z07 ?_|refine Z08 ?_|refine Z09 ?_|refine Z10 ?_|refine Z11 ?_|refine Z12 ?_|refine Z13 ?_|refine Z14 ?_|refine Z29 ?_|refine Z30 ?_|refine Z31 ?_|refine Z32 ?_|refine Z82 fun _=>?_)
 refine Zec fun _ hw=>aa hw SubW.nil ⟨?_,rfl⟩
 rw[← uN];rfl
def Tl(w:World)(b:Nat):Prop:=eL w b (LV .u64 ql.flatten) 204
theorem OT{a b:Prop}(k:b)(h:Rm b→a:=by intro k;(first|refine Z01 ?_|refine Z03 ?_|refine Z04 ?_|refine Z05 ?_|refine Z06 ?_|refine Z07 ?_|refine Z08 ?_|refine Z09 ?_|refine Z10 ?_|refine Z11 ?_|refine Z12 ?_|refine Z13 ?_|refine Z14 ?_|refine Z22 ?_|refine Z23 ?_|refine Z24 ?_|refine Z26 ?_|refine Z27 ?_|refine Z29 ?_|refine Z30 ?_|refine Z31 ?_|refine Z32 ?_|refine Z67 ?_);exact k.h):a:=h ⟨k⟩
theorem fy(x:F2){k:Nat}(hk:k<6)(b:Nat):Spec Tryz.prog 171 [LE2 x,N .i64 k,pt b 0] (fun w=>Tl w b) [] (IsV (LE2 (Kf.K2.mul (Kf.K2.conj x) (Kf.K2.pw gK k)))):=by
 refine ad Tryz.func171 rfl rfl rfl fun w hr=>?_
 have h1:OldB _ b (LV .u64 ql.flatten) _:=OldB.mk0 hr
 have hl0:=fun x=>ae 6 x
 have hle:=fun x:F2=>ak x
 have hp:ab ql.flatten (0+k*12) 12 (E2 (Kf.K2.pw gK k)):=by rw[Nat.zero_add];exact ab.nth GG (GF hk)
 have a1:=Sb x
 have a2:=aF (Kf.K2.conj x) (Kf.K2.pw gK k)
 repeat (first|(refine bG ?_;intro _)|refine OT ?_|refine Z81 fun _=>?_|refine Z82 fun _=>?_)
 refine R.af [0,1,2,3,4,5,6] (by rfl) ?_
 repeat (first|(refine R.Zpf (by rfl) (by intro _ _ _;(first|refine tR (m:=6) (sz:=12) (i:=k) (by rfl) (by rfl) (by rfl) (by rfl) hk (by rfl) ?_|refine Z01 ?_|refine Z22 ?_|refine Z23 ?_);exact Zq) ?_)|(refine R.Zpp (by rfl) (by intro _ _ _;(first|refine S7 ?_);exact Zq) ?_)|refine cw ?_|refine ag a1 ?_|(refine R.Zpp (by rfl) (by intro _ _ _;(refine en (by rfl) (h1.shift (by assumption)) (by rfl) (by rfl) hp (by rfl) ?_);exact Zq) ?_)|refine ag a2 ?_|refine aA ?_|(refine aV ?_;intro _))
 refine R.Zp0 ?_
 repeat (first|refine OT ?_|refine Z81 fun _=>?_|refine Z82 fun _=>?_)
 refine Zec fun _ hw=>aa hw SubW.nil ⟨?_,rfl⟩
 rfl
theorem DU(x:F12):Kf.T12.frb gK x=⟨⟨Kf.K2.mul (Kf.K2.conj x.a.a) (Kf.K2.pw gK 0),Kf.K2.mul (Kf.K2.conj x.a.b) (Kf.K2.pw gK 2),Kf.K2.mul (Kf.K2.conj x.a.c) (Kf.K2.pw gK 4)⟩,⟨Kf.K2.mul (Kf.K2.conj x.b.a) (Kf.K2.pw gK 1),Kf.K2.mul (Kf.K2.conj x.b.b) (Kf.K2.pw gK 3),Kf.K2.mul (Kf.K2.conj x.b.c) (Kf.K2.pw gK 5)⟩⟩:=by
 have h0:Kf.K2.pw gK 0=Kf.K2.one:=rfl
 rw[h0,Kf.K2.mul_one',Kf.K2.Ax];rfl
theorem OU{a b:Prop}(k:b)(h:Rm b→a:=by intro k;refine cz (m:=36) (by rfl) (by rfl) (by rfl) (by rfl) (eQ _ _ _) (eQ _ _ _) (by rfl) ?_;exact k.h):a:=h ⟨k⟩
theorem C8{a b:Prop}(k:b)(h:Rm b→a:=by intro k;refine R.Zps (by rfl) (by intro _ _ _;(refine aX (m:=72) (by rfl) (by rfl) fd (by rfl) (by simp) (be ⟨⟨_,_,_⟩,⟨_,_,_⟩⟩) ?_);exact Zqq) ?_;exact k.h):a:=h ⟨k⟩
set_option maxHeartbeats 2000000 in
theorem zX(x:F12):Spec Tryz.prog 162 [bL x] ai [] (IsV (bL (Kf.T12.frb gK x))):=by
 refine ad Tryz.func162 rfl rfl rfl fun w hr=>?_
 have hl0:=fun x=>ae 6 x
 have hle:=fun x:F2=>ak x
 have hfl:ql.flatten.length=72:=by rw[← uN];rfl
 rw[DU]
 have a0:=fun b=>fy x.a.a (k:=0) (by decide) b
 have a1:=fun b=>fy x.b.a (k:=1) (by decide) b
 have a2:=fun b=>fy x.a.b (k:=2) (by decide) b
 have a3:=fun b=>fy x.b.b (k:=3) (by decide) b
 have a4:=fun b=>fy x.a.c (k:=4) (by decide) b
 have a5:=fun b=>fy x.b.c (k:=5) (by decide) b
 unfold Tl at a0 a1 a2 a3 a4 a5
 have ff:=uO
 generalize Kf.K2.mul (Kf.K2.conj x.a.a) (Kf.K2.pw gK 0)=k0 at *
 generalize Kf.K2.mul (Kf.K2.conj x.b.a) (Kf.K2.pw gK 1)=k1 at *
 generalize Kf.K2.mul (Kf.K2.conj x.a.b) (Kf.K2.pw gK 2)=k2 at *
 generalize Kf.K2.mul (Kf.K2.conj x.b.b) (Kf.K2.pw gK 3)=k3 at *
 generalize Kf.K2.mul (Kf.K2.conj x.a.c) (Kf.K2.pw gK 4)=k4 at *
 generalize Kf.K2.mul (Kf.K2.conj x.b.c) (Kf.K2.pw gK 5)=k5 at *
 generalize ql.flatten=fv at *
 repeat (first|(refine cL ?_;intro _)|refine y_4 ff ?_|refine aX (m:=72) (by rfl) (by rfl) fd (by rfl) (by simp) hfl ?_|refine zf ?_|refine Z81 fun _=>?_|refine Z82 fun _=>?_)
 refine R.af [0,1,2,3,4,5,6,7,8,9,10,11,12,13,14,15,16,17,18,19,20,21,22,23,24,25,26,27,28,29,30,31,32,33] (by rfl) ?_
 repeat (first|(refine R.Zpf (by rfl) (by intro _ _ _;(first|refine yR ?_|refine rZ ?_|refine OU ?_|refine Z01 ?_|refine Z02 ?_|refine Z48 ?_);exact Zq) ?_)|refine aL ?_|refine yT ?_|refine yU ?_|refine yV ?_|refine yW ?_|refine yX ?_|refine yY ?_|refine yZ ?_|refine za ?_|refine A7 (a0 _) ?_|refine A7 (a1 _) ?_|refine A7 (a2 _) ?_|refine A7 (a3 _) ?_|refine A7 (a4 _) ?_|refine A7 (a5 _) ?_|refine aA ?_|refine C8 ?_|(refine aV ?_;intro _))
 refine R.Zp0 ?_
 repeat (first|refine zf ?_|refine Z81 fun _=>?_|refine Z82 fun _=>?_)
 refine Zec fun _ hw=>aa hw SubW.nil ⟨?_,rfl⟩
 rfl
theorem AU{n m:Nat}(h:n<m)(hm:m<1000):Spec Tryz.prog 161 [N .i64 n,N .i64 m] ai [] (IsV (N .i64 n)):=by
 refine ad Tryz.func161 rfl rfl rfl fun w hr=>?_
 have h1:n%m=n:=Nat.mod_eq_of_lt h
 have h2:(n+m)%m=n:=by rw[Nat.add_mod_right,h1]
 repeat (first|rw[h1]|rw[h2]|refine Z01 ?_|refine Z02 ?_|refine Z03 ?_|refine Z04 ?_|refine Z05 ?_|refine Z06 ?_|refine Z07 ?_|refine Z08 ?_|refine Z09 ?_|refine Z10 ?_|refine Z11 ?_|refine Z12 ?_|refine Z13 ?_|refine Z14 ?_|refine Z15 ?_|refine Z38 ?_)
 refine Ze1 fun _ hw=>aa hw SubW.nil ⟨?_,rfl⟩
 rfl
def frI:Nat→F12→F12
 | 0,x=>x
 | k+1,x=>Kf.T12.frb gK (frI k x)
attribute [local irreducible] Kf.T12.frb
set_option maxHeartbeats 2000000 in
theorem nT(x:F12){n:Nat}(h:n<12):Spec Tryz.prog 144 [bL x,N .i64 n] ai [] (IsV (bL (frI n x))):=by
 refine ad Tryz.func144 rfl rfl rfl fun w hr=>?_
 have a1:=Fl x
 have a2:=AU h (by decide)
 have h0:bL x=bL (frI 0 x):=rfl
 repeat (first|(refine cL ?_;intro _)|refine f9 ?_|refine y_4 a1 ?_|refine r9 ?_|refine y_4 a2 ?_|refine ce ?_|refine Z81 fun _=>?_|refine Z82 fun _=>?_)
 rename_i p2 p4
 refine ay (ι:=Nat) (fun i=>i≤n) (fun i=>[(2,pt p2 0),(4,pt p4 0),(8,N .i64 n),(9,N .i64 i)]) (fun i=>[.blk p2 (bL (frI i x)) 138,.blk p4 (LV .u64 (List.replicate 72 0)) 138]) (fun i=>n-i) 0 (by omega) sbq sw ?_
 intro i hi
 repeat (first|refine ce ?_|refine Z81 fun _=>?_|refine Z82 fun _=>?_)
 refine ao (by rfl) (fun hc=>?_) (fun hc=>?_)
 ·have a3:=zX (frI i x)
  repeat (first|refine f9 ?_|refine y_4 a3 ?_|refine r9 ?_|refine Z01 ?_|refine Z03 ?_|refine Z04 ?_|refine Z05 ?_|refine Z06 ?_|refine Z07 ?_|refine Z08 ?_|refine Z09 ?_|refine Z10 ?_|refine Z11 ?_|refine Z12 ?_|refine Z13 ?_|refine Z14 ?_|refine Z15 ?_|refine Z17 ?_|refine Z18 ?_|refine Z24 ?_|refine Z26 ?_|refine Z27 ?_|refine Z29 ?_|refine Z30 ?_|refine Z31 ?_|refine Z32 ?_|refine Z67 ?_|refine Z81 fun _=>?_|refine Z82 fun _=>?_)
  exact ap (i+1) (by omega) (by omega) sbq sw
 ·have hi':i=n:=by omega
  subst hi'
  repeat (first|refine f9 ?_|refine jP ?_|refine Z01 ?_|refine Z03 ?_|refine Z04 ?_|refine Z05 ?_|refine Z06 ?_|refine Z07 ?_|refine Z08 ?_|refine Z09 ?_|refine Z10 ?_|refine Z11 ?_|refine Z12 ?_|refine Z13 ?_|refine Z14 ?_|refine Z15 ?_|refine Z17 ?_|refine Z18 ?_|refine Z24 ?_|refine Z26 ?_|refine Z27 ?_|refine Z29 ?_|refine Z30 ?_|refine Z31 ?_|refine Z32 ?_|refine Z67 ?_|refine Z81 fun _=>?_|refine Z82 fun _=>?_)
  refine Zec fun _ hw=>aa hw SubW.nil ⟨?_,rfl⟩
  rfl
end
section
attribute [local irreducible] Code.wp wpList Af bodyPost L.Go ab
open Num
attribute [local simp] ae
attribute [local irreducible] Kf.T12.mul Kf.T12.one Kf.T12.conj Kf.T12.inv CR.pw frI
def bi(l:List F12):F12:=l.foldl Kf.T12.mul Kf.T12.one
theorem Ml{l:List F12}{i:Nat}{x:F12}(h:l[i]?=some x):Kf.T12.mul (bi (l.take i)) x=bi (l.take (i+1)):=by
 rw[List.take_add_one,h]
 simp only[bi,Option.toList,List.foldl_append,List.foldl_cons,List.foldl_nil]
def gr(l:List F12):List (List Nat):=l.map E12
theorem c9(l:List F12):∀v∈gr l,v.length=72:=by
 intro v hv
 obtain⟨x,_,rfl⟩:=List.mem_map.1 hv
 exact be x
theorem sH(l:List F12):(gr l).flatten.length=l.length*72:=by
 rw[fw (c9 l)];unfold gr;rw[List.length_map]
attribute [local irreducible] bi gr
set_option maxHeartbeats 2000000 in
theorem fD(s:Value)(xs:List F12)(hl:xs.length<1000000):Spec Tryz.prog 126 [s] (fun w=>Rd w (wide 72 s) ((gr xs).flatten.map (N .u64))) [] (IsV (bL (bi xs))):=by
 refine ad Tryz.func126 rfl rfl rfl fun w hr=>?_
 have hl0:=fun x=>ae 6 x
 have hle:=fun x:F2=>ak x
 have h1:=RdC.mk0 hr
 have hE:=c9 xs
 have el:(gr xs).length=xs.length:=by unfold gr;simp
 have hxl:((gr xs).flatten.map (N .u64)).length=xs.length*72:=by rw[List.length_map,sH]
 have e0:(Kf.T12.one:F12)=bi (xs.take 0):=by unfold bi;rfl
 repeat (first|(refine cL ?_;intro _)|refine Kp ?_|refine ib (m:=72) (k:=xs.length) (s:=s) (by rfl) (by rfl) (RdW.old h1) (by decide) hxl (by rfl) ?_|refine ue ?_|refine Z82 fun _=>?_)
 rw[e0]
 rename_i p2 p3
 refine ay (ι:=Nat) (fun i=>i≤xs.length) (fun i=>[(10,s),(11,N .i64 xs.length),(12,N .i64 i),(2,pt p2 0),(3,pt p3 0)]) (fun i=>[.blk p3 (bL (bi (xs.take i))) 138,.blk p2 (LV .u64 (List.replicate 72 0)) 138]) (fun i=>xs.length-i) 0 (by omega) sbq sw ?_
 intro i hi
 repeat (first|refine ue ?_|refine Z82 fun _=>?_)
 refine ao (by rfl) (fun h=>?_) (fun h=>?_)
 ·obtain⟨x,hx⟩:∃x,xs[i]?=some x:=⟨_,List.getElem?_eq_getElem h⟩
  have hz:(gr xs)[i]?=some (E12 x):=by unfold gr;rw[List.getElem?_map,hx];rfl
  have hs:=jb (bi (xs.take i)) x
  rw[Ml hx]at hs
  repeat (first|(refine cL ?_;intro _)|refine fg (m:=72) (s:=s) (i:=i) (k:=xs.length) (by rfl) (by rfl) (by rfl) (by rfl) (RdW.old h1) (by decide) hxl h (by rfl) ?_|refine eE (m:=72) (s:=wide 72 s) (i:=i) (by rfl) (by rfl) (by rfl) (RdW.old h1) hE hz (by decide) (by rfl) ?_|refine f9 ?_|refine aX (m:=72) (by rfl) (by rfl) fd (by rfl) (by first | exact be _ | simp) (be _) ?_|refine y_4 hs ?_|refine ue ?_|refine Z82 fun _=>?_)
  exact ap (i+1) (by omega) (by omega) sbq sw
 ·have hi':i=xs.length:=by omega
  subst hi'
  rw[List.take_length]
  repeat (first|refine f9 ?_|refine jP ?_|refine Z01 ?_|refine Z03 ?_|refine Z04 ?_|refine Z05 ?_|refine Z06 ?_|refine Z07 ?_|refine Z08 ?_|refine Z09 ?_|refine Z10 ?_|refine Z11 ?_|refine Z12 ?_|refine Z13 ?_|refine Z14 ?_|refine Z15 ?_|refine Z17 ?_|refine Z18 ?_|refine Z20 ?_|refine Z21 ?_|refine Z22 ?_|refine Z23 ?_|refine Z24 ?_|refine Z26 ?_|refine Z27 ?_|refine Z29 ?_|refine Z30 ?_|refine Z31 ?_|refine Z32 ?_|refine Z67 ?_|refine Z82 fun _=>?_)
  refine Zec fun _ hw=>aa hw SubW.nil ⟨?_,rfl⟩
  rfl
theorem oz(a:F12):Spec Tryz.prog 145 [bL a] ai [] (IsV (bL (CR.pw a 15132376222941642752))):=by
 refine ad Tryz.func145 rfl rfl rfl fun w hr=>?_
 have hp:=fun s=>oy a s [15132376222941642752] (by unfold Lt;decide) (by decide)
 rw[show V [15132376222941642752]=15132376222941642752 by decide +kernel]at hp
 repeat (first|(refine cL ?_;intro _)|refine cn (vs:=[15132376222941642752]) (kk:=.u64) (by rfl) (by rfl) (by rfl) (by rfl) (by rfl) (by rfl) (by rfl) (by rfl) fun _=>?_|refine f9 ?_|refine Fv (hp _) ?_|refine jP ?_|refine Z03 ?_|refine Z04 ?_|refine Z05 ?_|refine Z06 ?_|refine Z07 ?_|refine Z08 ?_|refine Z09 ?_|refine Z10 ?_|refine Z11 ?_|refine Z12 ?_|refine Z13 ?_|refine Z14 ?_|refine Z24 ?_|refine Z26 ?_|refine Z27 ?_|refine Z29 ?_|refine Z30 ?_|refine Z31 ?_|refine Z32 ?_|refine Z67 ?_|refine Z81 fun _=>?_|refine Z82 fun _=>?_|refine Z85 fun _=>?_)
 refine Zec fun _ hw=>aa hw SubW.nil ⟨?_,rfl⟩
 rfl
theorem RY{c:Cx}{W:List Res}{b k:Nat}{xs:List F12}{U:TypeId}{R:List Res}(h:Find W (.blk b (LV .u64 (gr xs).flatten) U) R)(hl:xs.length=k):RdW c W (wide 72 (slv b k)) ((gr xs).flatten.map (N .u64)):=RdW.slv h (by rw[sH,hl])
end
section
attribute [local irreducible] Code.wp wpList Af bodyPost L.Go ab
open Num
attribute [local simp] ae
attribute [local irreducible] Kf.T12.mul Kf.T12.one Kf.T12.conj Kf.T12.inv CR.pw frI
attribute [local irreducible] bi
def qr(f:F12):F12:=bi [Kf.T12.conj f,Kf.T12.inv f]
def uP(f:F12):F12:=bi [frI 2 (qr f),qr f]
def lC(f:F12):F12:=CR.pw (uP f) (V [10088250816726084267,4137836090706223446])
def iR(f:F12):F12:=bi [Kf.T12.conj (CR.pw (lC f) 15132376222941642752),frI 1 (lC f)]
def DQ(f:F12):F12:=bi [CR.pw (CR.pw (iR f) 15132376222941642752) 15132376222941642752,frI 2 (iR f),Kf.T12.conj (iR f)]
def gh(f:F12):F12:=bi [DQ f,uP f]
theorem Vr{a b:Prop}(k:b)(h:Rm b→a:=by intro k;refine R.Zpf (by rfl) (by intro _ _ _;(first|refine Z01 ?_|refine Z02 ?_);exact Zq) ?_;exact k.h):a:=h ⟨k⟩
theorem OV{a b:Prop}(k:b)(h:Rm b→a:=by intro k;refine R.Zpp (by rfl) (by intro _ _ _;(refine bH (by rfl) fd (by rfl) (by rfl) (ab.whole _) (by rfl) ?_);exact Zq) ?_;exact k.h):a:=h ⟨k⟩
theorem C9{S1 a b:Prop}(s1:S1)(k:b)(h:S1→Rm b→a:=by intro s1 k;refine R.Zpp (by rfl) (by intro _ _ _;refine ah (by rfl) (by rfl) (by rfl) s1 (RY fd rfl) (by rfl) ?_;exact Zq) ?_;exact k.h):a:=h s1 ⟨k⟩
theorem uh{a b:Prop}(k:b)(h:Rm b→a:=by intro k;refine R.Zpb (by rfl) (by intro _ _ _;refine aq (v:=LV .u64 (List.replicate 72 0)) (by rfl) (by rfl) fun _=>?_;exact R.eM) ?_;exact k.h):a:=h ⟨k⟩
theorem Px{a b:Prop}(k:b)(h:Rm b→a:=by intro k;(first|refine jP ?_|refine Z01 ?_|refine Z02 ?_|refine Z03 ?_|refine Z04 ?_|refine Z05 ?_|refine Z06 ?_|refine Z07 ?_|refine Z08 ?_|refine Z09 ?_|refine Z10 ?_|refine Z11 ?_|refine Z12 ?_|refine Z13 ?_|refine Z14 ?_|refine Z24 ?_|refine Z26 ?_|refine Z27 ?_|refine Z29 ?_|refine Z30 ?_|refine Z31 ?_|refine Z32 ?_|refine Z67 ?_);exact k.h):a:=h ⟨k⟩
theorem Dq{a b:Prop}(k:b)(h:Rm b→a:=by intro k;(first|refine Vr ?_|refine aL ?_|refine OV ?_);exact k.h):a:=h ⟨k⟩
set_option maxHeartbeats 8000000 in
theorem zS(f:F12):Spec Tryz.prog 128 [bL f] ai [] (IsV (bL (gh f))):=by
 refine ad Tryz.func128 rfl rfl rfl fun w hr=>?_
 have a1:=jF f
 have a2:=Fh f
 have a3:=fun s=>fD s [Kf.T12.conj f,Kf.T12.inv f] (by simp)
 have eG:bi [Kf.T12.conj f,Kf.T12.inv f]=qr f:=rfl
 rw[eG]at a3
 have b1:=nT (qr f) (n:=2) (by decide)
 have b2:=fun s=>fD s [frI 2 (qr f),qr f] (by simp)
 have eH:bi [frI 2 (qr f),qr f]=uP f:=rfl
 rw[eH]at b2
 have c1:=fun s=>oy (uP f) s [10088250816726084267,4137836090706223446] (by unfold Lt;decide) (by decide)
 have eA:CR.pw (uP f) (V [10088250816726084267,4137836090706223446])=lC f:=rfl
 rw[eA]at c1
 have d1:=oz (lC f)
 have d2:=jF (CR.pw (lC f) 15132376222941642752)
 have d3:=nT (lC f) (n:=1) (by decide)
 have d4:=fun s=>fD s [Kf.T12.conj (CR.pw (lC f) 15132376222941642752),frI 1 (lC f)] (by simp)
 have eB:bi [Kf.T12.conj (CR.pw (lC f) 15132376222941642752),frI 1 (lC f)]=iR f:=rfl
 rw[eB]at d4
 have g1:=oz (iR f)
 have g2:=oz (CR.pw (iR f) 15132376222941642752)
 have g3:=nT (iR f) (n:=2) (by decide)
 have g4:=jF (iR f)
 have g5:=fun s=>fD s [CR.pw (CR.pw (iR f) 15132376222941642752) 15132376222941642752,frI 2 (iR f),Kf.T12.conj (iR f)] (by simp)
 have eC:bi [CR.pw (CR.pw (iR f) 15132376222941642752) 15132376222941642752,frI 2 (iR f),Kf.T12.conj (iR f)]=DQ f:=rfl
 rw[eC]at g5
 have k1:=fun s=>fD s [DQ f,uP f] (by simp)
 rw[show bi [DQ f,uP f]=gh f from rfl]at k1
 clear eG eH eA eB eC
 generalize gh f=zP at *
 generalize DQ f=zC at *
 generalize Kf.T12.conj (CR.pw (lC f) 15132376222941642752)=y1 at *
 generalize CR.pw (lC f) 15132376222941642752=y2 at *
 generalize frI 1 (lC f)=y3 at *
 generalize CR.pw (CR.pw (iR f) 15132376222941642752) 15132376222941642752=y4 at *
 generalize CR.pw (iR f) 15132376222941642752=y5 at *
 generalize frI 2 (iR f)=y6 at *
 generalize Kf.T12.conj (iR f)=y7 at *
 generalize iR f=zB at *
 generalize lC f=zA at *
 generalize uP f=zH at *
 generalize frI 2 (qr f)=y8 at *
 generalize qr f=zG at *
 generalize Kf.T12.conj f=y9 at *
 generalize Kf.T12.inv f=yA at *
 repeat (first|(refine cL ?_;intro _)|refine uf ?_|refine Z81 fun _=>?_|refine Z82 fun _=>?_|refine Z85 fun _=>?_)
 rename_i p1 p2
 refine nj (fun a=>[(2,pt p2 0),(3,pt a 0)]) (fun a=>[.blk a (bL zG) 138,.blk p2 (LV .u64 (List.replicate 72 0)) 138]) (fun p3=>?_) (fun hK=>?_)
 case refine_2=>
  refine R.af [0,1,2,3,4,6,5,7] (by rfl) ?_
  repeat' (first|refine Dq ?_|refine ag a1 ?_|refine ag a2 ?_|refine C9 (a3 _) ?_|refine nE ?_|(refine R.Zpd (by rfl) (by intro _ _ _;(refine av (m:=72) (k:=2) (kk:=.u64) (vss:=gr [y9,yA]) (by rfl) (by rfl) (by rfl) (by rfl) (by rfl) (by rfl) (by rfl) (c9 _) (by rfl) (by rfl) fun _=>?_);exact R.dO) fun _=>?_)|(refine R.zn (i:=4) (j:=6) [5,6,7] [4,5,7] (R.Mks.mk (R.Mk.mk' (by rfl) (by intro _ _ _;(refine av (m:=72) (k:=2) (kk:=.u64) (vss:=gr [y9,yA]) (by rfl) (by rfl) (by rfl) (by rfl) (by rfl) (by rfl) (by rfl) (c9 _) (by rfl) (by rfl) fun _=>?_);first|exact R.iD|exact R.dO|exact R.iE)) (fun _=>?_)) (R.Mks.mk (R.Mk.mk' (by rfl) (by intro _ _ _;refine aq (v:=LV .u64 (List.replicate 72 0)) (by rfl) (by rfl) fun _=>?_;first|exact R.iD|exact R.dO|exact R.iE)) (fun _=>?_)))|(refine uh ?_;intro _)|(refine sn ?_;intro _))
  all_goals refine R.Zp0 ?_
  all_goals exact dY sbq sw (hK _)
 clear a1 a2 a3
 case refine_1=>
  repeat (first|refine uf ?_|refine Z81 fun _=>?_|refine Z82 fun _=>?_|refine Z85 fun _=>?_)
  refine nj (fun a=>[(2,pt p2 0),(4,pt a 0)]) (fun a=>[.blk a (bL zH) 138,.blk p2 (LV .u64 (List.replicate 72 0)) 138]) (fun p4=>?_) (fun hK=>?_)
  case refine_2=>
   refine R.af [0,1,2,3,5,4,6] (by rfl) ?_
   repeat' (first|refine Dq ?_|refine ag b1 ?_|refine C9 (b2 _) ?_|refine nE ?_|(refine R.Zpd (by rfl) (by intro _ _ _;(refine av (m:=72) (k:=2) (kk:=.u64) (vss:=gr [y8,zG]) (by rfl) (by rfl) (by rfl) (by rfl) (by rfl) (by rfl) (by rfl) (c9 _) (by rfl) (by rfl) fun _=>?_);exact R.dO) fun _=>?_)|(refine R.zn (i:=3) (j:=5) [4,5,6] [3,4,6] (R.Mks.mk (R.Mk.mk' (by rfl) (by intro _ _ _;(refine av (m:=72) (k:=2) (kk:=.u64) (vss:=gr [y8,zG]) (by rfl) (by rfl) (by rfl) (by rfl) (by rfl) (by rfl) (by rfl) (c9 _) (by rfl) (by rfl) fun _=>?_);first|exact R.iD|exact R.dO|exact R.iE)) (fun _=>?_)) (R.Mks.mk (R.Mk.mk' (by rfl) (by intro _ _ _;refine aq (v:=LV .u64 (List.replicate 72 0)) (by rfl) (by rfl) fun _=>?_;first|exact R.iD|exact R.dO|exact R.iE)) (fun _=>?_)))|(refine uh ?_;intro _)|(refine sn ?_;intro _))
   all_goals refine R.Zp0 ?_
   all_goals exact dY sbq sw (hK _)
  case refine_1=>
   clear b1 b2
   repeat (first|(refine cL ?_;intro _)|refine f9 ?_|refine cn (vs:=[10088250816726084267,4137836090706223446]) (kk:=.u64) (by rfl) (by rfl) (by rfl) (by rfl) (by rfl) (by rfl) (by rfl) (by rfl) fun _=>?_|refine Fv (c1 _) ?_|refine Px ?_|refine Z81 fun _=>?_|refine Z82 fun _=>?_|refine Z85 fun _=>?_)
   rename_i p6
   refine nj (fun a=>[(2,pt p2 0),(4,pt p4 0),(5,.func (.func 145) #[] #[]),(7,pt a 0)]) (fun a=>[.blk a (bL zB) 138,.blk p4 (bL zH) 138,.blk p2 (LV .u64 (List.replicate 72 0)) 138]) (fun p7=>?_) (fun hK=>?_)
   case refine_2=>
    refine R.af [0,1,2,3,4,5,6,8,7,9] (by rfl) ?_
    repeat' (first|refine Dq ?_|refine ag d1 ?_|refine ag d2 ?_|refine ag d3 ?_|refine C9 (d4 _) ?_|refine nE ?_|(refine R.Zpd (by rfl) (by intro _ _ _;(refine av (m:=72) (k:=2) (kk:=.u64) (vss:=gr [y1,y3]) (by rfl) (by rfl) (by rfl) (by rfl) (by rfl) (by rfl) (by rfl) (c9 _) (by rfl) (by rfl) fun _=>?_);exact R.dO) fun _=>?_)|(refine R.zn (i:=6) (j:=8) [7,8,9] [6,7,9] (R.Mks.mk (R.Mk.mk' (by rfl) (by intro _ _ _;(refine av (m:=72) (k:=2) (kk:=.u64) (vss:=gr [y1,y3]) (by rfl) (by rfl) (by rfl) (by rfl) (by rfl) (by rfl) (by rfl) (c9 _) (by rfl) (by rfl) fun _=>?_);first|exact R.iD|exact R.dO|exact R.iE)) (fun _=>?_)) (R.Mks.mk (R.Mk.mk' (by rfl) (by intro _ _ _;refine aq (v:=LV .u64 (List.replicate 72 0)) (by rfl) (by rfl) fun _=>?_;first|exact R.iD|exact R.dO|exact R.iE)) (fun _=>?_)))|(refine uh ?_;intro _)|(refine sn ?_;intro _))
    all_goals refine R.Zp0 ?_
    all_goals exact dY sbq sw (hK _)
   case refine_1=>
    clear d1 d2 d3 d4
    repeat (first|refine uf ?_|refine Z81 fun _=>?_|refine Z82 fun _=>?_|refine Z85 fun _=>?_)
    refine nj (fun a=>[(2,pt p2 0),(4,pt p4 0),(8,pt a 0)]) (fun a=>[.blk a (bL zC) 138,.blk p4 (bL zH) 138,.blk p2 (LV .u64 (List.replicate 72 0)) 138]) (fun p8=>?_) (fun hK=>?_)
    case refine_2=>
     refine R.af [0,1,2,3,4,5,6,7,8,9,11,10,12] (by rfl) ?_
     repeat' (first|refine Dq ?_|refine ag g1 ?_|refine ag g2 ?_|refine ag g3 ?_|refine ag g4 ?_|refine C9 (g5 _) ?_|refine nE ?_|(refine R.Zpd (by rfl) (by intro _ _ _;(refine av (m:=72) (k:=3) (kk:=.u64) (vss:=gr [y4,y6,y7]) (by rfl) (by rfl) (by rfl) (by rfl) (by rfl) (by rfl) (by rfl) (c9 _) (by rfl) (by rfl) fun _=>?_);exact R.dO) fun _=>?_)|(refine R.zn (i:=9) (j:=11) [10,11,12] [9,10,12] (R.Mks.mk (R.Mk.mk' (by rfl) (by intro _ _ _;(refine av (m:=72) (k:=3) (kk:=.u64) (vss:=gr [y4,y6,y7]) (by rfl) (by rfl) (by rfl) (by rfl) (by rfl) (by rfl) (by rfl) (c9 _) (by rfl) (by rfl) fun _=>?_);first|exact R.iD|exact R.dO|exact R.iE)) (fun _=>?_)) (R.Mks.mk (R.Mk.mk' (by rfl) (by intro _ _ _;refine aq (v:=LV .u64 (List.replicate 72 0)) (by rfl) (by rfl) fun _=>?_;first|exact R.iD|exact R.dO|exact R.iE)) (fun _=>?_)))|(refine uh ?_;intro _)|(refine sn ?_;intro _))
     all_goals refine R.Zp0 ?_
     all_goals exact dY sbq sw (hK _)
    case refine_1=>
     repeat (first|refine av (m:=72) (k:=2) (kk:=.u64) (vss:=gr [zC,zH]) (by rfl) (by rfl) (by rfl) (by rfl) (by rfl) (by rfl) (by rfl) (c9 _) (by rfl) (by rfl) fun _=>?_|refine f9 ?_|refine ah (by rfl) (by rfl) (by rfl) (k1 _) (RY fd rfl) (by rfl) ?_|refine Px ?_|refine Z81 fun _=>?_|refine Z82 fun _=>?_|refine Z85 fun _=>?_)
     refine Zec fun _ hw=>aa hw SubW.nil ⟨?_,rfl⟩
     rfl
end
section
attribute [local irreducible] Code.wp wpList Af bodyPost L.Go ab
open Num
attribute [local simp] ae
attribute [local irreducible] al cU cv gY dB em
theorem D0(x y:Fq)(i:Bool):Spec Tryz.prog 107 [HE x y i] ai [] (IsV (.bool i)):=by
 refine ad Tryz.func107 rfl rfl rfl fun w _=>?_
 have hl0:=fun x=>ae 6 x
 repeat (first|refine eK ?_|refine co ?_|refine Z02 ?_|refine Z03 ?_|refine Z04 ?_|refine Z05 ?_|refine Z06 ?_|refine Z07 ?_|refine Z08 ?_|refine Z09 ?_|refine Z10 ?_|refine Z11 ?_|refine Z12 ?_|refine Z13 ?_|refine Z14 ?_|refine Z24 ?_|refine Z26 ?_|refine Z27 ?_|refine Z67 ?_|refine Z81 fun _=>?_)
 refine Ze1 fun _ hw=>aa hw SubW.nil ⟨?_,rfl⟩
 rfl
theorem J4{a b:Prop}(k:b)(h:Rm b→a:=by intro k;refine R.Zpp (by rfl) (by intro _ _ _;refine dE (m:=12) (by rfl) fd (by rfl) (by rfl) (by first|with_reducible assumption|simp) (by rfl) ?_;exact Zq) ?_;exact k.h):a:=h ⟨k⟩
set_option maxHeartbeats 8000000 in
theorem Ei{P:Kf.K2.Pt p}(h:Kf.K2.Onc c4 P)(hR:Kf.K2.Rl P)(hr:Kf.K2.tim P 52435875175126190479447740508185965837690552500527637822603658699938581184513=none):
  Spec Tryz.prog 106 [HV P,.func (.func 30) #[] #[],.func (.func 107) #[] #[]] ai [] (IsV (.bool true)):=by
 refine ad Tryz.func106 rfl rfl rfl fun w _=>?_
 have hl0:=fun x=>ae 6 x
 have hm:=fun s=>BO h hR s rL Oo (by decide)
 rw[UX,hr,jf]at hm
 obtain⟨x1,y1,i1,hq⟩:∃x1 y1 i1,HV P=HE x1 y1 i1:=⟨_,_,_,rfl⟩
 rw[hq]at hm ⊢
 have hi:=D0 0 0 true
 repeat (first|(refine dN ?_;intro _)|(refine sG ?_;intro _)|refine OL ?_|refine Z81 fun _=>?_|refine Z82 fun _=>?_)
 refine R.af [0,1,2,3,4,5,6,7,8,9] (by rfl) ?_
 repeat (first|(refine R.Zpf (by rfl) (by intro _ _ _;(first|refine OM ?_);exact Zq) ?_)|refine ul ?_|refine J4 ?_|refine ON (hm _) ?_|refine aA ?_|refine JW ?_|(refine R.Zpb (by rfl) (by intro _ _ _;refine aq (E:=58) (v:=GL (List.replicate 12 0) false) (by kernel_rfl) (by rfl) fun _=>?_;exact R.eM) fun _=>?_)|(refine aV ?_;intro _))
 refine R.Zp0 ?_
 repeat (first|refine jd ?_|refine y_4 hi ?_|refine Pq ?_|refine Z81 fun _=>?_|refine Z82 fun _=>?_)
 refine Ze1 fun _ hw=>aa hw SubW.nil ⟨?_,rfl⟩
 rfl
theorem Q5{P:Kf.K2.Pt p}(h:Kf.K2.Onc c4 P)(hR:Kf.K2.Rl P)(hr:Kf.K2.tim P 52435875175126190479447740508185965837690552500527637822603658699938581184513=none):Spec Tryz.prog 54 [HV P] ai [] (IsV (.bool true)):=by
 refine ad Tryz.func54 rfl rfl rfl fun w _=>?_
 have hl0:=fun x=>ae 6 x
 have ho:=Ei h hR hr
 obtain⟨x1,y1,i1,hq⟩:∃x1 y1 i1,HV P=HE x1 y1 i1:=⟨_,_,_,rfl⟩
 rw[hq]at ho ⊢
 repeat (first|refine jd ?_|refine y_4 ho ?_|refine OO ?_|refine Z81 fun _=>?_)
 refine Ze1 fun _ hw=>aa hw SubW.nil ⟨?_,rfl⟩
 rfl
theorem n7:Spec Tryz.prog 139 [] ai [] (IsV (bL Kf.T12.one)):=by
 refine ad Tryz.func139 rfl rfl rfl fun w _=>?_
 have hl0:=fun x=>ae 6 x
 have hle:=fun x:F2=>ak x
 repeat (first|refine Kp ?_|(refine cL ?_;intro _)|refine jP ?_|refine Z03 ?_|refine Z04 ?_|refine Z05 ?_|refine Z06 ?_|refine Z07 ?_|refine Z08 ?_|refine Z09 ?_|refine Z10 ?_|refine Z11 ?_|refine Z12 ?_|refine Z13 ?_|refine Z14 ?_|refine Z29 ?_|refine Z30 ?_|refine Z31 ?_|refine Z32 ?_|refine Z82 fun _=>?_)
 refine Zec fun _ hw=>aa hw SubW.nil ⟨?_,rfl⟩
 rfl
theorem Gj(v:Fq):D 6 v.val++List.replicate 6 0=E2 (em v):=by
 rw[z6];unfold em;rfl
theorem Gp(l:F2)(u:Fq):Kf.K2.gp l u=Kf.K2.mul l (em u):=by
 unfold Kf.K2.gp Kf.K2.mul em
 exact Kf.K2.ext' (by grind) (by grind)
theorem J5{a b:Prop}(k:b)(h:Rm b→a:=by intro k;refine x9 (m:=12) (by rfl) (by rfl) (by kernel_rfl) (by rfl) (ak _) (ak _) (by rfl) ?_;rw[KH];exact k.h):a:=h ⟨k⟩
set_option maxHeartbeats 4000000 in
theorem ta(l x y:F2)(i:Bool)(u v:Fq)(j:Bool):Spec Tryz.prog 156 [LE2 l,GE x y i,HE u v j] ai [] (IsV (bL (Kf.T12.ln l x y (em u) (em v)))):=by
 refine ad Tryz.func156 rfl rfl rfl fun w _=>?_
 have hl0:=fun x=>ae 6 x
 have hle:=fun x:F2=>ak x
 have a1:=aF l x
 have a2:=bE (Kf.K2.mul l x) y
 have a3:=Cz l u
 rw[Gp]at a3
 have a4:=oV (Kf.K2.mul l (em u))
 have a5:=IN v
 have e:Kf.T12.ln l x y (em u) (em v)=⟨⟨Kf.K2.sub (Kf.K2.mul l x) y,Kf.K2.neg (Kf.K2.mul l (em u)),Kf.K2.zero⟩,⟨Kf.K2.zero,em v,Kf.K2.zero⟩⟩:=rfl
 rw[e]
 generalize Kf.K2.neg (Kf.K2.mul l (em u))=c1 at *
 generalize Kf.K2.mul l (em u)=c2 at *
 generalize Kf.K2.sub (Kf.K2.mul l x) y=c3 at *
 generalize Kf.K2.mul l x=c4 at *
 have e1:=Gj v
 generalize em v=ev at *
 repeat (first|(refine cL ?_;intro _)|refine bU ?_|refine Z81 fun _=>?_|refine Z82 fun _=>?_)
 refine R.af [0,1,2,3,4,5,6,7,8,9,10,11,12,13,14,15,16,17,18,19] (by rfl) ?_
 repeat (first|(refine R.Zpf (by rfl) (by intro _ _ _;(first|refine co ?_|refine J5 ?_|(refine ek (m:=6) (by rfl) (by rfl) (by kernel_rfl) (by rfl) (ae 6 _) (by rfl) ?_;rw[e1])|(refine AK (m:=12) (by rfl) (by rfl) (by kernel_rfl) (by rfl) (ak _) (by rfl) ?_;rw[KH])|refine OU ?_|refine bI ?_|refine eO ?_|refine fJ ?_|(refine rI (by rfl) (by rfl) (by rfl) (by rfl) (by simp;done) (by rfl) ?_));exact Zq) ?_)|refine aL ?_|refine lu ?_|refine r4 ?_|refine r5 ?_|refine ag a1 ?_|refine ag a2 ?_|refine ag a3 ?_|refine ag a4 ?_|refine ag a5 ?_|refine cw ?_|refine aA ?_|refine C8 ?_|(refine aV ?_;intro _))
 refine R.Zp0 ?_
 repeat (first|refine bU ?_|refine Z81 fun _=>?_|refine Z82 fun _=>?_)
 refine Zec fun _ hw=>aa hw SubW.nil ⟨?_,rfl⟩
 rfl
section
variable {P:Program} {c:Cx} {n:Nn} {l:Sl} {W:List Res}
theorem hJ{fn:Func}{R:Ending→World→Prop}{t u:Tmp}{b b' m m':Nat}{T T' U U':TypeId}{k':IntKind}{ys ys':List Nat}{i:Bool}{R0 R1:List Res}
  (hres:fn.results = #[.cell t T,.cell u T']) (hv:lk l t=some (pt b 0)) (hu:lk l u=some (pt b' 0)) (hf:Find W (.blk b (GL ys i) U) R0) (hf':Find W (.blk b' (LV k' ys') U') R1) (hs:cM P T=true) (hz:az P T=some (m+1)) (hl:ys.length=m)
  (hs':cM P T'=true) (hz':az P T'=some m') (hl':ys'.length=m')
  (hR:∀w,SatW c W w→R (.returned (.tuple #[GL ys i,LV k' ys'])) w) (hD:n.df=[]:=by rfl):Go c n l W (bodyPost P fn R .ret):=by
 rw[dt]at hf
 exact tO hres hv hu hf hf' hs (by rw[hz];simp[hl]) hs' (by subst hl';simpa using hz') (by rw[dt]at hR;exact hR) hD
end
abbrev SV(T:Kf.K2.Pt p)(f:F12):Value:=.tuple [GV T,bL f].toArray
theorem Va(x:F2)(u:Fq):Kf.T12.e6 (Kf.T12.vt x (em u))=⟨⟨x,em (gY u),Kf.K2.zero⟩,Kf.T6.zero⟩:=by
 unfold Kf.T12.e6 Kf.T12.vt
 rw[Gk]
theorem w8(x y:F2):Spec Tryz.prog 62 [GE x y false] ai [] (IsV (GE x y false)):=w7 (some (x,y))
theorem Vs{a b:Prop}(k:b)(h:Rm b→a:=by intro k;refine ek (m:=36) (by rfl) (by rfl) (by kernel_rfl) (by rfl) (eQ _ _ _) (by rfl) ?_;rw[PM];exact k.h):a:=h ⟨k⟩
theorem OW{a b:Prop}(k:b)(h:Rm b→a:=by intro k;refine R.DA (by rfl) (by intro _ _ _;(refine cO (by rfl) fd (by rfl) (by rfl) (by first | (refine ab.l ?_;(simp;done)) | (refine ab.r ?_ ?_ <;> (simp;done)) | (refine ab.all ?_;(simp;done))) (by rfl) ?_);exact Zq) ?_;exact k.h):a:=h ⟨k⟩
theorem Kq{a b:Prop}(k:b)(h:Rm b→a:=by intro k;(first|refine eK ?_|refine o7 ?_|refine co ?_|refine OG ?_);exact k.h):a:=h ⟨k⟩
theorem Kr{a b:Prop}(k:b)(h:Rm b→a:=by intro k;(first|refine bI ?_|refine eP ?_|refine eO ?_|refine fJ ?_|refine fI ?_|refine ky ?_|refine Z01 ?_|refine Z02 ?_|refine Z03 ?_|refine Z04 ?_|refine Z05 ?_|refine Z06 ?_|refine Z07 ?_|refine Z08 ?_|refine Z09 ?_|refine Z10 ?_|refine Z11 ?_|refine Z12 ?_|refine Z13 ?_|refine Z14 ?_|refine Z24 ?_|refine Z26 ?_|refine Z27 ?_|refine Z29 ?_|refine Z30 ?_|refine Z31 ?_|refine Z32 ?_|refine Z49 ?_|refine Z50 ?_|refine Z51 ?_|refine Z52 ?_|refine Z67 ?_|refine Z77 ?_|refine Z78 ?_|refine Z79 ?_);exact k.h):a:=h ⟨k⟩
theorem Py{a b:Prop}(k:b)(h:Rm b→a:=by intro k;(first|refine Vs ?_|refine bI ?_|refine eO ?_|refine fJ ?_|refine fI ?_|refine ky ?_|refine Z01 ?_|refine Z02 ?_|refine Z49 ?_|refine Z50 ?_|refine Z77 ?_|refine Z78 ?_|refine Z79 ?_);exact k.h):a:=h ⟨k⟩
set_option maxHeartbeats 8000000 in
theorem Aj(x1 y1 y2:F2)(pu pv:Fq)(hv:¬(y1=y2∧y1≠Kf.K2.zero)):Spec Tryz.prog 141 [GE x1 y1 false,GE x1 y2 false,HE pu pv false] ai []
  (IsV (.tuple [GE Kf.K2.zero Kf.K2.zero true,bL ⟨⟨x1,em (gY pu),Kf.K2.zero⟩,Kf.T6.zero⟩].toArray)):=by
 refine ad Tryz.func141 rfl rfl rfl fun w _=>?_
 have hl0:=fun x=>ae 6 x
 have hle:=fun x:F2=>ak x
 have h1:=w8 x1 y1
 have h2:=w8 x1 y2
 have n1:=Cl pu
 have n2:=Gj (gY pu)
 generalize gY pu=pn at n1 n2 ⊢
 generalize em pn=pe at n2 ⊢
 by_cases hy1:y1=y2
 ·subst hy1
  have hy2:y1=Kf.K2.zero:=Classical.not_not.1 fun h=>hv ⟨rfl,h⟩
  have hz2:(decide (D 6 y1.re.val=D 6 (Kf.K2.zero:F2).re.val)&&decide (D 6 y1.im.val=D 6 (Kf.K2.zero:F2).im.val))=true:=by rw[hy2];exact fM _
  repeat (first|(refine cD ?_;intro _)|(refine cL ?_;intro _)|refine bn ?_|refine Z81 fun _=>?_|refine Z82 fun _=>?_)
  refine R.af [0,1,2,3,4,5] (by rfl) ?_
  repeat (first|refine pb ?_|refine ag h1 ?_|refine ag h2 ?_|refine gb ?_|(refine aV ?_;intro _))
  refine R.Zp0 ?_
  repeat (first|refine Kq ?_|refine dF hz2 ?_|refine nG ?_|(refine bG ?_;intro _)|refine Kr ?_|refine Z81 fun _=>?_|refine Z82 fun _=>?_)
  refine R.af [0,1,3,4,5,6,2,9,7,8,10] (by rfl) ?_
  repeat' (first|(refine R.Zpf (by rfl) (by intro _ _ _;(first|refine rX ?_|refine co ?_|refine J5 ?_|(refine ek (m:=6) (by rfl) (by rfl) (by kernel_rfl) (by rfl) (ae 6 _) (by rfl) ?_;rw[n2])|refine Py ?_);exact Zq) ?_)|refine OW ?_|(refine R.zm [7,8,9,10] [2,7,8,10] (by rfl) (by rfl) (by intro _ _ _;(refine cO (by rfl) fd (by rfl) (by rfl) (by first | (refine ab.l ?_;(simp;done)) | (refine ab.r ?_ ?_ <;> (simp;done)) | (refine ab.all ?_;(simp;done))) (by rfl) ?_);exact Zq) (by intro _ _ _;refine eF (m:=24) (by rfl) (by rfl) fd (by rfl) (by first|with_reducible assumption|simp) (by first|with_reducible assumption|simp) ?_;exact Zqq) ?_ ?_)|refine aL ?_|refine r4 ?_|refine r5 ?_|refine ag n1 ?_|refine cw ?_|refine aA ?_|refine rY ?_|refine C8 ?_|(refine aV ?_;intro _))
  all_goals refine R.Zp0 ?_
  all_goals
   repeat (first|refine bn ?_|refine Z81 fun _=>?_|refine Z82 fun _=>?_)
   refine hJ (m:=24) (m':=72) (by rfl) (by rfl) (by rfl) fd fd (by rfl) (by rfl) (by first|with_reducible assumption|simp) (by rfl) (by rfl) (by first | exact be _ | exact be ⟨⟨_,_,_⟩,_⟩) fun _ hw=>aa hw SubW.nil ⟨?_,rfl⟩
   rfl
 ·repeat (first|(refine cD ?_;intro _)|(refine cL ?_;intro _)|refine bn ?_|refine Z81 fun _=>?_|refine Z82 fun _=>?_)
  refine R.af [0,1,2,3,4,5] (by rfl) ?_
  repeat (first|refine pb ?_|refine ag h1 ?_|refine ag h2 ?_|refine gb ?_|(refine aV ?_;intro _))
  refine R.Zp0 ?_
  repeat (first|refine Kq ?_|refine CZ (cN hy1) ?_|(refine bG ?_;intro _)|refine Kr ?_|refine Z81 fun _=>?_|refine Z82 fun _=>?_)
  refine R.af [0,1,3,4,5,6,2,9,7,8,10] (by rfl) ?_
  repeat' (first|(refine R.Zpf (by rfl) (by intro _ _ _;(first|refine rX ?_|refine co ?_|refine J5 ?_|(refine ek (m:=6) (by rfl) (by rfl) (by kernel_rfl) (by rfl) (ae 6 _) (by rfl) ?_;rw[n2])|refine Py ?_);exact Zq) ?_)|refine OW ?_|(refine R.zm [7,8,9,10] [2,7,8,10] (by rfl) (by rfl) (by intro _ _ _;(refine cO (by rfl) fd (by rfl) (by rfl) (by first | (refine ab.l ?_;(simp;done)) | (refine ab.r ?_ ?_ <;> (simp;done)) | (refine ab.all ?_;(simp;done))) (by rfl) ?_);exact Zq) (by intro _ _ _;refine eF (m:=24) (by rfl) (by rfl) fd (by rfl) (by first|with_reducible assumption|simp) (by first|with_reducible assumption|simp) ?_;exact Zqq) ?_ ?_)|refine aL ?_|refine r4 ?_|refine r5 ?_|refine ag n1 ?_|refine cw ?_|refine aA ?_|refine rY ?_|refine C8 ?_|(refine aV ?_;intro _))
  all_goals refine R.Zp0 ?_
  all_goals
   repeat (first|refine bn ?_|refine Z81 fun _=>?_|refine Z82 fun _=>?_)
   refine hJ (m:=24) (m':=72) (by rfl) (by rfl) (by rfl) fd fd (by rfl) (by rfl) (by first|with_reducible assumption|simp) (by rfl) (by rfl) (by first | exact be _ | exact be ⟨⟨_,_,_⟩,_⟩) fun _ hw=>aa hw SubW.nil ⟨?_,rfl⟩
   rfl
theorem VF{a b:Prop}(k:b)(h:Rm b→a:=by intro k;(first|refine bI ?_|refine eO ?_|refine fJ ?_|refine fI ?_|refine ky ?_|refine Z01 ?_|refine Z02 ?_|refine Z49 ?_|refine Z50 ?_|refine Z77 ?_|refine Z78 ?_|refine Z79 ?_);exact k.h):a:=h ⟨k⟩
theorem VG{a b:Prop}(k:b)(h:Rm b→a:=by intro k;(first|refine yJ ?_|refine bI ?_|refine eO ?_|refine fJ ?_|refine fI ?_|refine ky ?_|refine Z01 ?_|refine Z02 ?_|refine Z49 ?_|refine Z50 ?_|refine Z77 ?_|refine Z78 ?_|refine Z79 ?_);exact k.h):a:=h ⟨k⟩
theorem KA{a b:Prop}(k:b)(h:Rm b→a:=by intro k;refine R.Zpf (by rfl) (by intro _ _ _;(first|refine VF ?_);exact Zq) ?_;exact k.h):a:=h ⟨k⟩
theorem PK{a b:Prop}(k:b)(h:Rm b→a:=by intro k;(first|(refine R.Zpf (by rfl) (by intro _ _ _;(first|refine VG ?_);exact Zq) ?_)|refine aL ?_|refine yK ?_|refine J4 ?_|refine lu ?_);exact k.h):a:=h ⟨k⟩
theorem Dv{a b:Prop}(k:b)(h:Rm b→a:=by intro k;(first|refine KA ?_|refine aL ?_|refine lu ?_|refine cw ?_);exact k.h):a:=h ⟨k⟩
set_option maxHeartbeats 8000000 in
theorem Ec(x1 y1:F2)(pu pv:Fq)(hy2:y1≠Kf.K2.zero):Spec Tryz.prog 141 [GE x1 y1 false,GE x1 y1 false,HE pu pv false] ai []
  (IsV (.tuple [GE (Kf.K2.cx (Kf.K2.f6 x1 y1) x1 x1) (Kf.K2.cy (Kf.K2.f6 x1 y1) x1 y1 x1) false,bL (Kf.T12.ln (Kf.K2.f6 x1 y1) x1 y1 (em pu) (em pv))].toArray)):=by
 refine ad Tryz.func141 rfl rfl rfl fun w _=>?_
 have hl0:=fun x=>ae 6 x
 have hle:=fun x:F2=>ak x
 have h1:=w8 x1 y1
 have m1:=aF x1 x1
 have m2:=cV (Kf.K2.mul x1 x1) (Kf.K2.mul x1 x1)
 have m3:=cV (Kf.K2.add (Kf.K2.mul x1 x1) (Kf.K2.mul x1 x1)) (Kf.K2.mul x1 x1)
 have m4:=cV y1 y1
 rw[Kf.K2.f6,Kf.K2.q3]
 generalize Kf.K2.add (Kf.K2.add (Kf.K2.mul x1 x1) (Kf.K2.mul x1 x1)) (Kf.K2.mul x1 x1)=u at m3 ⊢
 generalize Kf.K2.add (Kf.K2.mul x1 x1) (Kf.K2.mul x1 x1)=u1 at m2 m3
 generalize Kf.K2.mul x1 x1=u2 at m1 m2 m3
 generalize Kf.K2.add y1 y1=v at m4 ⊢
 repeat (first|(refine cD ?_;intro _)|(refine cL ?_;intro _)|refine bn ?_|refine Z81 fun _=>?_|refine Z82 fun _=>?_)
 refine R.af [0,1,2,3,4,5] (by rfl) ?_
 repeat (first|refine pb ?_|refine ag h1 ?_|refine gb ?_|(refine aV ?_;intro _))
 refine R.Zp0 ?_
 repeat (first|refine Kq ?_|refine dF (cN hy2) ?_|refine nG ?_|(refine bG ?_;intro _)|refine bI ?_|refine eP ?_|refine eO ?_|refine fJ ?_|refine fI ?_|refine ky ?_|refine y_4 m1 ?_|refine bn ?_|refine Z81 fun _=>?_|refine Z82 fun _=>?_)
 refine R.af [0,1,2,3,4,5,6,7,8,9,10,11] (by rfl) ?_
 repeat (first|refine Dv ?_|refine ag m2 ?_|refine ag m3 ?_|refine ag m4 ?_|refine aA ?_|(refine aV ?_;intro _))
 refine R.Zp0 ?_
 repeat (first|refine bn ?_|refine Z81 fun _=>?_|refine Z82 fun _=>?_)
 obtain⟨l,hl⟩:∃l:F2,l=Kf.K2.mul u (Kf.K2.inv v):=⟨_,rfl⟩
 have k1:=kq v
 have k2:=aF u (Kf.K2.inv v)
 rw[← hl]at k2 ⊢
 generalize Kf.K2.inv v=vi at k1 k2
 clear hl
 have k3:=aF l l
 have k4:=bE (Kf.K2.mul l l) x1
 have k5:=bE (Kf.K2.sub (Kf.K2.mul l l) x1) x1
 have k6:=bE x1 (Kf.K2.cx l x1 x1)
 have k7:=aF l (Kf.K2.sub x1 (Kf.K2.cx l x1 x1))
 have k8:=bE (Kf.K2.mul l (Kf.K2.sub x1 (Kf.K2.cx l x1 x1))) y1
 have k9:=ta l x1 y1 false pu pv false
 rw[show Kf.K2.sub (Kf.K2.sub (Kf.K2.mul l l) x1) x1=Kf.K2.cx l x1 x1 from rfl]at k5
 rw[show Kf.K2.sub (Kf.K2.mul l (Kf.K2.sub x1 (Kf.K2.cx l x1 x1))) y1=Kf.K2.cy l x1 y1 x1 from rfl]at k8
 generalize Kf.T12.ln l x1 y1 (em pu) (em pv)=ff at k9 ⊢
 generalize Kf.K2.cy l x1 y1 x1=yy at k8 ⊢
 generalize Kf.K2.mul l (Kf.K2.sub x1 (Kf.K2.cx l x1 x1))=g1 at k7 k8
 generalize Kf.K2.sub x1 (Kf.K2.cx l x1 x1)=g2 at k6 k7
 generalize Kf.K2.cx l x1 x1=xx at k5 k6 ⊢
 generalize Kf.K2.sub (Kf.K2.mul l l) x1=g3 at k4 k5
 generalize Kf.K2.mul l l=g4 at k3 k4
 refine R.af [0,1,2,3,4,5] (by rfl) ?_
 repeat (first|refine KA ?_|refine aL ?_|refine cw ?_|refine ag k1 ?_|refine ag k2 ?_|refine aA ?_|(refine fK ?_;intro _)|(refine aV ?_;intro _))
 refine R.Zp0 ?_
 repeat (first|refine bn ?_|refine Z81 fun _=>?_|refine Z82 fun _=>?_)
 refine R.af [0,1,2,3,4,5,6,7,8,9,10] (by rfl) ?_
 repeat (first|refine Dv ?_|refine ag k3 ?_|refine ag k4 ?_|refine ag k5 ?_|refine aA ?_|(refine fK ?_;intro _)|(refine aV ?_;intro _))
 refine R.Zp0 ?_
 repeat (first|refine bn ?_|refine Z81 fun _=>?_|refine Z82 fun _=>?_)
 refine R.af [0,1,2,3,4,5,6,7,8,9,10,11,12,13,14,15,16] (by rfl) ?_
 repeat (first|refine PK ?_|refine ag k6 ?_|refine ag k7 ?_|refine ag k8 ?_|refine ag k9 ?_|refine cw ?_|refine aA ?_|refine rY ?_|refine C7 ?_|(refine aV ?_;intro _))
 refine R.Zp0 ?_
 repeat (first|refine bn ?_|refine Z81 fun _=>?_|refine Z82 fun _=>?_)
 refine hJ (m:=24) (m':=72) (by rfl) (by rfl) (by rfl) fd fd (by rfl) (by rfl) (by first|with_reducible assumption|simp) (by rfl) (by rfl) (by first | exact be _ | exact be ⟨⟨_,_,_⟩,_⟩) fun _ hw=>aa hw SubW.nil ⟨?_,rfl⟩
 rfl
set_option maxHeartbeats 8000000 in
theorem Eb(x1 y1 x2 y2:F2)(pu pv:Fq)(hx:x1≠x2):Spec Tryz.prog 141 [GE x1 y1 false,GE x2 y2 false,HE pu pv false] ai []
  (IsV (.tuple [GE (Kf.K2.cx (Kf.K2.dZ x1 y1 x2 y2) x1 x2) (Kf.K2.cy (Kf.K2.dZ x1 y1 x2 y2) x1 y1 x2) false,bL (Kf.T12.ln (Kf.K2.dZ x1 y1 x2 y2) x1 y1 (em pu) (em pv))].toArray)):=by
 refine ad Tryz.func141 rfl rfl rfl fun w _=>?_
 have hl0:=fun x=>ae 6 x
 have hle:=fun x:F2=>ak x
 have h1:=w8 x1 y1
 have h2:=w8 x2 y2
 have m1:=bE y2 y1
 have m2:=bE x2 x1
 rw[Kf.K2.dZ]
 generalize Kf.K2.sub y2 y1=u at m1 ⊢
 generalize Kf.K2.sub x2 x1=v at m2 ⊢
 repeat (first|(refine cD ?_;intro _)|(refine cL ?_;intro _)|refine bn ?_|refine Z81 fun _=>?_|refine Z82 fun _=>?_)
 refine R.af [0,1,2,3,4,5] (by rfl) ?_
 repeat (first|refine pb ?_|refine ag h1 ?_|refine ag h2 ?_|refine gb ?_|(refine aV ?_;intro _))
 refine R.Zp0 ?_
 repeat (first|refine eK ?_|refine o7 ?_|refine co ?_|refine CZ (cN hx) ?_|(refine bG ?_;intro _)|refine Kr ?_|refine Z81 fun _=>?_|refine Z82 fun _=>?_)
 refine R.af [0,1,2,3,4,5,6,7,8,9,10,11] (by rfl) ?_
 repeat (first|refine Dv ?_|refine ag m1 ?_|refine ag m2 ?_|refine aA ?_|(refine aV ?_;intro _))
 refine R.Zp0 ?_
 repeat (first|refine bn ?_|refine Z81 fun _=>?_|refine Z82 fun _=>?_)
 obtain⟨l,hl⟩:∃l:F2,l=Kf.K2.mul u (Kf.K2.inv v):=⟨_,rfl⟩
 have k1:=kq v
 have k2:=aF u (Kf.K2.inv v)
 rw[← hl]at k2 ⊢
 generalize Kf.K2.inv v=vi at k1 k2
 clear hl
 have k3:=aF l l
 have k4:=bE (Kf.K2.mul l l) x1
 have k5:=bE (Kf.K2.sub (Kf.K2.mul l l) x1) x2
 have k6:=bE x1 (Kf.K2.cx l x1 x2)
 have k7:=aF l (Kf.K2.sub x1 (Kf.K2.cx l x1 x2))
 have k8:=bE (Kf.K2.mul l (Kf.K2.sub x1 (Kf.K2.cx l x1 x2))) y1
 have k9:=ta l x1 y1 false pu pv false
 rw[show Kf.K2.sub (Kf.K2.sub (Kf.K2.mul l l) x1) x2=Kf.K2.cx l x1 x2 from rfl]at k5
 rw[show Kf.K2.sub (Kf.K2.mul l (Kf.K2.sub x1 (Kf.K2.cx l x1 x2))) y1=Kf.K2.cy l x1 y1 x2 from rfl]at k8
 generalize Kf.T12.ln l x1 y1 (em pu) (em pv)=ff at k9 ⊢
 generalize Kf.K2.cy l x1 y1 x2=yy at k8 ⊢
 generalize Kf.K2.mul l (Kf.K2.sub x1 (Kf.K2.cx l x1 x2))=g1 at k7 k8
 generalize Kf.K2.sub x1 (Kf.K2.cx l x1 x2)=g2 at k6 k7
 generalize Kf.K2.cx l x1 x2=xx at k5 k6 ⊢
 generalize Kf.K2.sub (Kf.K2.mul l l) x1=g3 at k4 k5
 generalize Kf.K2.mul l l=g4 at k3 k4
 refine R.af [0,1,2,3,4,5] (by rfl) ?_
 repeat (first|refine KA ?_|refine aL ?_|refine cw ?_|refine ag k1 ?_|refine ag k2 ?_|refine aA ?_|(refine fK ?_;intro _)|(refine aV ?_;intro _))
 refine R.Zp0 ?_
 repeat (first|refine bn ?_|refine Z81 fun _=>?_|refine Z82 fun _=>?_)
 refine R.af [0,1,2,3,4,5,6,7,8,9,10] (by rfl) ?_
 repeat (first|refine Dv ?_|refine ag k3 ?_|refine ag k4 ?_|refine ag k5 ?_|refine aA ?_|(refine fK ?_;intro _)|(refine aV ?_;intro _))
 refine R.Zp0 ?_
 repeat (first|refine bn ?_|refine Z81 fun _=>?_|refine Z82 fun _=>?_)
 refine R.af [0,1,2,3,4,5,6,7,8,9,10,11,12,13,14,15,16] (by rfl) ?_
 repeat (first|refine PK ?_|refine ag k6 ?_|refine ag k7 ?_|refine ag k8 ?_|refine ag k9 ?_|refine cw ?_|refine aA ?_|refine rY ?_|refine C7 ?_|(refine aV ?_;intro _))
 refine R.Zp0 ?_
 repeat (first|refine bn ?_|refine Z81 fun _=>?_|refine Z82 fun _=>?_)
 refine hJ (m:=24) (m':=72) (by rfl) (by rfl) (by rfl) fd fd (by rfl) (by rfl) (by first|with_reducible assumption|simp) (by rfl) (by rfl) (by first | exact be _ | exact be ⟨⟨_,_,_⟩,_⟩) fun _ hw=>aa hw SubW.nil ⟨?_,rfl⟩
 rfl
end
end Go.Proofs.YtndhfbecpghinaaGreat.L
namespace Go.Proofs.YtndhfbecpghinaaGreat.L.Kf
open Pr
namespace T12
variable {n:Nat} [NeZero n]
open K2 (Pt pa pn Onc No2 Slp LD cx cy f6 dZ tim psi Rl)
attribute [local irreducible] K2.add K2.mul K2.sub K2.neg K2.zero K2.one K2.inv K2.xi K2.conj
structure Ps (b c g i:K2 n) (m:Nat):Prop extends Pg b c where
 hm:n=6*m+1
 hg:g=K2.pw K2.xi m
 gi:K2.mul g i=K2.one
 rc:K2.conj c=c
 h3:K2.pw (K2.mul (K2.conj (K2.pw K2.xi m)) (K2.pw K2.xi m)) 3=K2.neg (K2.one:K2 n)
theorem NK(z a0 a1 a2 a3 a4 a5:K2 n):mul (e2 z) ⟨⟨a0,a2,a4⟩,⟨a1,a3,a5⟩⟩=⟨⟨K2.mul z a0,K2.mul z a2,K2.mul z a4⟩,⟨K2.mul z a1,K2.mul z a3,K2.mul z a5⟩⟩:=by
 rw[iv,vg]
 simp only[K2.aG,K2.aj,K2.add_zero']
section
variable {b c g i:K2 n} {m:Nat} (H:Ps b c g i m) {N:Nat}
include H
theorem Ps.i_ne:i≠K2.zero:=fun e=>K2.js H.tw.p3 (by rw[← H.gi,e,K2.aj])
theorem Ps.g_ne:g≠K2.zero:=fun e=>K2.js H.tw.p3 (by rw[← H.gi,e,K2.aG])
theorem Ps.gi':K2.mul g i=CR.ofZ 1:=H.gi.trans K2.of1.symm
theorem Ps.psi_on{A:Pt n}(hA:Onc b A):Onc b (psi i A):=by
 cases A with
 | none=>trivial
 | some A=>
  obtain⟨x,y⟩:=A
  have h:=congrArg K2.conj (K2.bK hA)
  rw[K2.aY,K2.fV,K2.aY,K2.aY]at h
  have hx:K2.conj (K2.xi:K2 n)=K2.mul (K2.mul (K2.mul (K2.mul g g) (K2.mul g g)) (K2.mul g g)) K2.xi:=by
   rw[← K2.Uc H.tw.p3]
   have e:∀k,k=6*m+1→K2.pw (K2.xi:K2 n) k=K2.mul (K2.pw (K2.pw K2.xi m) 6) K2.xi:=by
    rintro k rfl
    rw[← K2.bM,Nat.mul_comm];rfl
   rw[e n H.hm,← H.hg]
   show K2.mul (K2.mul (K2.mul (K2.mul (K2.mul (K2.mul (K2.mul K2.one g) g) g) g) g) g) _=_
   rw[K2.aR]
   exact CR.aH (x:=(.m (.m (.m (.m (.m (.m (.v 0) (.v 0)) (.v 0)) (.v 0)) (.v 0)) (.v 0)) (.v 1))) (y:=(.m (.m (.m (.m (.v 0) (.v 0)) (.m (.v 0) (.v 0))) (.m (.v 0) (.v 0))) (.v 1))) (by decide +kernel) [g,K2.xi]
  have hb:K2.conj b=K2.mul (K2.mul (K2.mul (K2.mul g g) (K2.mul g g)) (K2.mul g g)) b:=by
   rw[H.hb,K2.aY,H.rc,hx,K2.mul_assoc']
  rw[hb]at h
  have e:=H.gi'
  show K2.mul (K2.mul _ (K2.conj y)) _=K2.add (K2.mul (K2.mul (K2.mul _ (K2.conj x)) _) _) b
  generalize K2.conj x=a at h ⊢
  generalize K2.conj y=d at h ⊢
  exact CR.lin (x:=(.m (.m (.m (.m (.v 4) (.v 4)) (.v 4)) (.v 1)) (.m (.m (.m (.v 4) (.v 4)) (.v 4)) (.v 1)))) (y:=(.a (.m (.m (.m (.m (.v 4) (.v 4)) (.v 0)) (.m (.m (.v 4) (.v 4)) (.v 0))) (.m (.m (.v 4) (.v 4)) (.v 0))) (.v 2))) [((.m (.m (.m (.v 4) (.v 4)) (.v 4)) (.m (.m (.v 4) (.v 4)) (.v 4))),(.m (.v 1) (.v 1)),(.a (.m (.m (.v 0) (.v 0)) (.v 0)) (.m (.m (.m (.m (.v 3) (.v 3)) (.m (.v 3) (.v 3))) (.m (.v 3) (.v 3))) (.v 2)))),((.a (.m (.a (.m (.a (.m (.a (.m (.a (.m (.m (.m (.m (.m (.m (.m (.c 1) (.v 2)) (.v 3)) (.v 3)) (.v 3)) (.v 3)) (.v 3)) (.v 4)) (.m (.m (.m (.m (.m (.c 1) (.v 2)) (.v 3)) (.v 3)) (.v 3)) (.v 3))) (.v 4)) (.m (.m (.m (.m (.c 1) (.v 2)) (.v 3)) (.v 3)) (.v 3))) (.v 4)) (.m (.m (.m (.c 1) (.v 2)) (.v 3)) (.v 3))) (.v 4)) (.m (.m (.c 1) (.v 2)) (.v 3))) (.v 4)) (.m (.c 1) (.v 2))),(.m (.v 3) (.v 4)),(.c 1))] (by decide +kernel) [a,d,b,g,i] ⟨h,e,trivial⟩
theorem Rc{l x y u v:K2 n}(hu:K2.conj u=u)(hv:K2.conj v=v):CR.pw (ln l x y u v) n=mul (e2 (K2.pw g 3)) (ln (K2.mul i (K2.conj l)) (K2.mul (K2.mul i i) (K2.conj x)) (K2.mul (K2.mul (K2.mul i i) i) (K2.conj y)) u v):=by
 rw[ru H.tw H.hm,← H.hg]
 unfold ln frb
 rw[NK,K2.ci,K2.qg,K2.aY,K2.aY,K2.iO,hu,hv]
 have e:=H.gi'
 have w2:K2.pw g 2=K2.mul g g:=by show K2.mul (K2.mul K2.one g) g=_;rw[K2.aR]
 have w3:K2.pw g 3=K2.mul (K2.mul g g) g:=by show K2.mul (K2.pw g 2) g=_;rw[w2]
 generalize K2.conj x=a
 generalize K2.conj y=d
 generalize K2.conj l=k
 rw[w2,w3]
 refine ext' (T6.ext' ?_ ?_ ?_) (T6.ext' ?_ ?_ ?_)
 ·exact CR.lin (x:=(.s (.m (.v 2) (.v 0)) (.v 1))) (y:=(.m (.m (.m (.v 3) (.v 3)) (.v 3)) (.s (.m (.m (.v 4) (.v 2)) (.m (.m (.v 4) (.v 4)) (.v 0))) (.m (.m (.m (.v 4) (.v 4)) (.v 4)) (.v 1))))) [((.a (.m (.a (.m (.m (.m (.a (.m (.m (.c (-1)) (.v 0)) (.v 2)) (.m (.c 1) (.v 1))) (.v 3)) (.v 3)) (.v 4)) (.m (.a (.m (.m (.c (-1)) (.v 0)) (.v 2)) (.m (.c 1) (.v 1))) (.v 3))) (.v 4)) (.a (.m (.m (.c (-1)) (.v 0)) (.v 2)) (.m (.c 1) (.v 1)))),(.m (.v 3) (.v 4)),(.c 1))] (by decide +kernel) [a,d,k,g,i] ⟨e,trivial⟩
 ·exact CR.lin (x:=(.m (.n (.m (.v 0) (.v 1))) (.m (.v 2) (.v 2)))) (y:=(.m (.m (.m (.v 2) (.v 2)) (.v 2)) (.n (.m (.m (.v 3) (.v 0)) (.v 1))))) [((.m (.m (.m (.m (.c 1) (.v 0)) (.v 1)) (.v 2)) (.v 2)),(.m (.v 2) (.v 3)),(.c 1))] (by decide +kernel) [k,u,g,i] ⟨e,trivial⟩
 ·simp only[K2.aG,K2.aj]
 ·simp only[K2.aG,K2.aj]
 ·exact K2.mul_comm' _ _
 ·simp only[K2.aG,K2.aj]
theorem QR{l x y u v:K2 n}(hu:K2.conj u=u)(hv:K2.conj v=v):CR.pw (gg l u v x y) n=mul (e2 (K2.pw g 3)) (gg (K2.conj l) u v (K2.mul (K2.mul i i) (K2.conj x)) (K2.mul (K2.mul (K2.mul i i) i) (K2.conj y))):=by
 rw[ru H.tw H.hm,← H.hg]
 unfold gg frb
 rw[NK,K2.ci,K2.qg,K2.aY,K2.aY,K2.iO,hu,hv]
 have e:=H.gi'
 have w2:K2.pw g 2=K2.mul g g:=by show K2.mul (K2.mul K2.one g) g=_;rw[K2.aR]
 have w3:K2.pw g 3=K2.mul (K2.mul g g) g:=by show K2.mul (K2.pw g 2) g=_;rw[w2]
 generalize K2.conj x=a
 generalize K2.conj y=d
 generalize K2.conj l=k
 rw[w2,w3]
 refine ext' (T6.ext' ?_ ?_ ?_) (T6.ext' ?_ ?_ ?_)
 ·exact CR.lin (x:=(.v 0)) (y:=(.m (.m (.m (.v 1) (.v 1)) (.v 1)) (.m (.m (.m (.v 2) (.v 2)) (.v 2)) (.v 0)))) [((.a (.m (.a (.m (.m (.m (.m (.c (-1)) (.v 0)) (.v 1)) (.v 1)) (.v 2)) (.m (.m (.c (-1)) (.v 0)) (.v 1))) (.v 2)) (.m (.c (-1)) (.v 0))),(.m (.v 1) (.v 2)),(.c 1))] (by decide +kernel) [d,g,i] ⟨e,trivial⟩
 ·simp only[K2.aG,K2.aj]
 ·simp only[K2.aG,K2.aj]
 ·exact CR.lin (x:=(.m (.n (.m (.v 1) (.v 0))) (.v 2))) (y:=(.m (.m (.m (.v 2) (.v 2)) (.v 2)) (.n (.m (.v 1) (.m (.m (.v 3) (.v 3)) (.v 0)))))) [((.a (.m (.m (.m (.m (.m (.c 1) (.v 0)) (.v 1)) (.v 2)) (.v 2)) (.v 3)) (.m (.m (.m (.c 1) (.v 0)) (.v 1)) (.v 2))),(.m (.v 2) (.v 3)),(.c 1))] (by decide +kernel) [a,k,g,i] ⟨e,trivial⟩
 ·exact K2.mul_comm' _ _
 ·simp only[K2.aG,K2.aj]
omit H in
theorem TT{z:K2 n}(h:z≠K2.zero):e2 z≠zero:=fun e=>h (congrArg (fun t:T12 n=>t.a.a) e)
omit H in
theorem ef(k:Nat):CR.pw (one:T12 n) k=one:=CR.ri k
theorem Ps.sc{z w:T12 n}(hw:w≠zero)(h:CR.pw z n=mul (e2 (K2.pw g 3)) w)(hz:z≠zero):fin N w=CR.pw (fin N z) n:=by
 have h3:e2 (K2.pw g 3)≠zero:=TT (by
  show K2.mul (K2.mul (K2.mul K2.one g) g) g≠K2.zero
  rw[K2.aR]
  exact K2.bP H.tw.p3 (K2.bP H.tw.p3 H.g_ne H.g_ne) H.g_ne)
 rw[← QI H.tw hz,h,dp H.tw h3 hw,show e2 (K2.pw g 3)=e6 (T6.em (K2.pw g 3))from rfl,nQ H.tw h3,bh]
theorem LH{P A B:Pt n}(hP:Onc c P)(hR:Rl P)(hA:Onc b A)(hB:Onc b B):lam N P (psi i A) (psi i B)=CR.pw (lam N P A B) n:=by
 have G:=H.toPg
 cases P with
 | none=>rw[d9 G,d9 G,ef]
 | some P=>cases A with
  | none=>show lam N (some P) none _=_;rw[dl G,dl G,ef]
  | some A=>cases B with
   | none=>show lam N (some P) _ none=_;rw[dy G,dy G,ef]
   | some B=>
    obtain⟨u,v⟩:=P;obtain⟨x1,y1⟩:=A;obtain⟨x2,y2⟩:=B
    have hA':=H.psi_on hA
    show lam N _ (some (_,_)) (some (_,_))=_
    rcases K2.cq (x1:=x1) (y1:=y1) (x2:=x2) (y2:=y2) H.tw.p3 hA hB with⟨h1,h2⟩ | ⟨l,h,hn⟩
    ·rw[cA G hA h1 h2,cA G hA' (by rw[h1]) (by rw[← K2.mul_add',← K2.fV,h2,K2.iO,K2.aj]),ef]
    ·rw[lam,lam,dm H.tw.p3 h hn,dm H.tw.p3 (h.psi i) (K2.IE H.tw.p3 H.i_ne hn)]
     exact H.sc (kb (K2.gF H.n4 hP)) (Rc H hR.1 hR.2) (kb (K2.gF H.n4 hP))
theorem Rr{P Q A:Pt n}(hP:Onc c P)(hQ:Onc c Q)(h1:Rl P)(h2:Rl Q)(hA:Onc b A):mu N P Q (psi i A)=CR.pw (mu N P Q A) n:=by
 have G:=H.toPg
 cases P with
 | none=>rw[q5 G,q5 G,ef]
 | some P=>cases Q with
  | none=>rw[q6 G,q6 G,ef]
  | some Q=>
   obtain⟨x1,y1⟩:=P;obtain⟨x2,y2⟩:=Q
   rcases K2.cq (x1:=x1) (y1:=y1) (x2:=x2) (y2:=y2) H.tw.p3 hP hQ with⟨g1,g2⟩ | ⟨l,h,hn⟩
   ·rw[lI G hA g1 g2,lI G (H.psi_on hA) g1 g2,ef]
   ·cases A with
    | none=>show mu N _ _ none=_;rw[ti G,ef]
    | some A=>
     obtain⟨x,y⟩:=A
     have hA':=H.psi_on hA
     have k:=h.conj
     have a1:K2.conj x1=x1:=h1.1
     have a2:K2.conj y1=y1:=h1.2
     have a3:K2.conj x2=x2:=h2.1
     have a4:K2.conj y2=y2:=h2.2
     rw[a1,a2,a3,a4]at k
     show mu N _ _ (some (_,_))=_
     rw[mu,mu,j3 H.tw.p3 k hn,j3 H.tw.p3 h hn]
     exact H.sc (qG (K2.gF H.n2 hA')) (QR H a1 a2) (qG (K2.gF H.n2 hA))
end
end T12
end Go.Proofs.YtndhfbecpghinaaGreat.L.Kf
namespace Go.Proofs.YtndhfbecpghinaaGreat.L.Kf
open Pr
namespace T12
variable {n:Nat} [NeZero n]
open K2 (Pt pa pn Onc No2 Slp LD cx cy f6 dZ tim psi Rl)
attribute [local irreducible] K2.add K2.mul K2.sub K2.neg K2.zero K2.one K2.inv K2.xi K2.conj
def mst(P Q:Pt n)(s:T12 n×Pt n)(t:Bool):T12 n×Pt n:=
 bif t then(mul (mul (mul s.1 s.1) (lin P s.2 s.2)) (lin P (pa s.2 s.2) Q),pa (pa s.2 s.2) Q)else(mul (mul s.1 s.1) (lin P s.2 s.2),pa s.2 s.2)
def mil(P Q:Pt n)(l:List Bool):T12 n×Pt n:=l.foldl (mst P Q) (one,Q)
def kst(k:Nat)(t:Bool):Nat:=bif t then k+k+1 else k+k
def kbs(l:List Bool):Nat:=l.foldl kst 1
def er(N:Nat)(l:List Bool)(P Q:Pt n):T12 n:=fin N (conj (mil P Q l).1)
section
variable {b c g i:K2 n} {m:Nat} (H:Ps b c g i m) {N r:Nat} (hr:n*n*(n*n)*(n*n)+1∣N*r)
include H
theorem Nc{Q:Pt n}(hQ:Onc b Q)(k:Nat)(t:Bool):tim Q (kst k t)=bif t then pa (pa (tim Q k) (tim Q k)) Q else pa (tim Q k) (tim Q k):=by
 have e:=K2.fi H.tw.p3 H.n2 hQ k k
 cases t with
 | false=>exact e
 | true=>show pa (tim Q (k+k)) Q=_;rw[e];rfl
theorem lK{Q:Pt n}(hQ:Onc b Q)(k:Nat):Onc b (tim Q k):=K2.cW H.tw.p3 hQ k
theorem lH{P Q:Pt n}(hP:Onc c P)(hQ:Onc b Q){k:Nat}{s:T12 n×Pt n}(h:s.1≠zero∧s.2=tim Q k)(t:Bool):
  ((mst P Q s t).1≠zero∧(mst P Q s t).2=tim Q (kst k t))∧fin N (mst P Q s t).1=bif t then mul (mul (mul (fin N s.1) (fin N s.1)) (lam N P (tim Q k) (tim Q k))) (lam N P (tim Q (k+k)) Q)else mul (mul (fin N s.1) (fin N s.1)) (lam N P (tim Q k) (tim Q k)):=by
 obtain⟨h1,h2⟩:=h
 have hT:=lK H hQ k
 have e:=K2.fi H.tw.p3 H.n2 hQ k k
 have n1:=bP H.tw h1 h1
 have n2:=j8 H.toPg hP hT hT
 have n3:=bP H.tw n1 n2
 rw[Nc H hQ,e]
 unfold mst
 rw[h2]
 cases t with
 | false=>
  refine⟨⟨n3,rfl⟩,?_⟩
  show fin N (mul (mul s.1 s.1) _)=_
  rw[dp H.tw n1 n2,dp H.tw h1 h1];rfl
 | true=>
  have n4:=j8 H.toPg hP (H.toPg.oa hT hT) hQ
  refine⟨⟨bP H.tw n3 n4,rfl⟩,?_⟩
  show fin N (mul (mul (mul s.1 s.1) _) _)=_
  rw[dp H.tw n3 n4,dp H.tw n1 n2,dp H.tw h1 h1];rfl
theorem HD{P A B C D:Pt n}(hP:Onc c P)(hA:Onc b A)(hB:Onc b B)(hC:Onc b C)(hD:Onc b D):
  mul (mul (lam N P A C) (lam N P B D)) (lam N P (pa A C) (pa B D))=mul (mul (lam N P A B) (lam N P C D)) (lam N P (pa A B) (pa C D)):=by
 have G:=H.toPg
 have hBD:=G.oa hB hD
 have hCD:=G.oa hC hD
 have q1:=uZ G (N:=N) hP hA hC hBD
 have q2:=uZ G (N:=N) hP hB hD hC
 have q3:=uZ G (N:=N) hP hA hB hCD
 have e1:pa (pa B D) C=pa B (pa C D):=by rw[K2.fZ G.tw.p3 G.n2 hB hD hC,K2.dI G.tw.p3 hD hC]
 rw[K2.dI G.tw.p3 hC hBD,e1,iV G hC hBD]at q1
 rw[K2.dI G.tw.p3 hD hC,iV G hD hC]at q2
 exact CR.lin (x:=(.m (.m (.v 0) (.v 1)) (.v 2))) (y:=(.m (.m (.v 3) (.v 4)) (.v 5))) [((.v 1),(.m (.v 0) (.v 2)),(.m (.v 6) (.v 7))),((.v 7),(.m (.v 1) (.v 6)),(.m (.v 4) (.v 8))),((.n (.v 4)),(.m (.v 3) (.v 5)),(.m (.v 8) (.v 7)))] (by decide +kernel) [lam N P A C,lam N P B D,lam N P (pa A C) (pa B D),lam N P A B,lam N P C D,lam N P (pa A B) (pa C D),lam N P (pa B D) C,lam N P A (pa B (pa C D)),lam N P B (pa C D)] ⟨q1,q2,q3,trivial⟩
theorem xq{P Q R:Pt n}(hP:Onc c P)(hQ:Onc b Q)(hR:Onc b R):∀(l:List Bool)(k:Nat)(s t u:T12 n×Pt n),(s.1≠zero∧s.2=tim Q k)→(t.1≠zero∧t.2=tim R k)→(u.1≠zero∧u.2=tim (pa Q R) k) →
  mul (mul (fin N s.1) (fin N t.1)) (lam N P (tim Q k) (tim R k))=mul (fin N u.1) (CR.pw (lam N P Q R) k) →
  mul (mul (fin N (l.foldl (mst P Q) s).1) (fin N (l.foldl (mst P R) t).1)) (lam N P (tim Q (l.foldl kst k)) (tim R (l.foldl kst k)))=mul (fin N (l.foldl (mst P (pa Q R)) u).1) (CR.pw (lam N P Q R) (l.foldl kst k))
 | [],_,_,_,_,_,_,_,h=>h
 | x::l,k,s,t,u,hs,ht,hu,h=>by
  have hQR:=H.toPg.oa hQ hR
  obtain⟨a1,b1⟩:=lH H (N:=N) hP hQ hs x
  obtain⟨a2,b2⟩:=lH H (N:=N) hP hR ht x
  obtain⟨a3,b3⟩:=lH H (N:=N) hP hQR hu x
  refine xq hP hQ hR l (kst k x) _ _ _ a1 a2 a3 ?_
  have hTQ:=lK H hQ k
  have hTR:=lK H hR k
  have x1:=HD H (N:=N) hP hTQ hTR hTQ hTR
  have e3:=K2.wb H.tw.p3 H.n2 hQ hR k
  rw[← e3]at x1
  rw[b1,b2,b3]
  have d1:=K2.fi H.tw.p3 H.n2 hQ k k
  have d2:=K2.fi H.tw.p3 H.n2 hR k k
  rw[← d1,← d2]at x1
  have p1:=CR.dP (lam N P Q R) k k
  have y1:mul (mul (mul (mul (fin N s.1) (fin N s.1)) (lam N P (tim Q k) (tim Q k))) (mul (mul (fin N t.1) (fin N t.1)) (lam N P (tim R k) (tim R k)))) (lam N P (tim Q (k+k)) (tim R (k+k)))=mul (mul (mul (fin N u.1) (fin N u.1)) (lam N P (tim (pa Q R) k) (tim (pa Q R) k))) (CR.pw (lam N P Q R) (k+k)):=by
   rw[p1]
   generalize fin N s.1=E1 at *
   generalize fin N t.1=E2 at *
   generalize fin N u.1=E3 at *
   generalize CR.pw (lam N P Q R) k=z at *
   exact CR.lin (x:=(.m (.m (.m (.m (.v 0) (.v 0)) (.v 3)) (.m (.m (.v 1) (.v 1)) (.v 4))) (.v 5))) (y:=(.m (.m (.m (.v 2) (.v 2)) (.v 7)) (.m (.v 8) (.v 8)))) [((.m (.m (.v 0) (.v 0)) (.m (.v 1) (.v 1))),(.m (.m (.v 3) (.v 4)) (.v 5)),(.m (.m (.v 6) (.v 6)) (.v 7))),((.m (.v 7) (.a (.m (.m (.v 0) (.v 1)) (.v 6)) (.m (.v 2) (.v 8)))),(.m (.m (.v 0) (.v 1)) (.v 6)),(.m (.v 2) (.v 8)))] (by decide +kernel) [E1,E2,E3,lam N P (tim Q k) (tim Q k),lam N P (tim R k) (tim R k),lam N P (tim Q (k+k)) (tim R (k+k)),lam N P (tim Q k) (tim R k),lam N P (tim (pa Q R) k) (tim (pa Q R) k),z] ⟨x1,h,trivial⟩
  cases x with
  | false=>exact y1
  | true=>
   have x2:=HD H (N:=N) hP (lK H hQ (k+k)) (lK H hR (k+k)) hQ hR
   rw[← K2.wb H.tw.p3 H.n2 hQ hR (k+k)]at x2
   show mul (mul (mul _ _) (mul _ _)) (lam N P (pa (tim Q (k+k)) Q) (pa (tim R (k+k)) R))=mul (mul _ _) (mul (CR.pw (lam N P Q R) (k+k)) (lam N P Q R))
   generalize mul (mul (fin N s.1) (fin N s.1)) (lam N P (tim Q k) (tim Q k))=E1 at *
   generalize mul (mul (fin N t.1) (fin N t.1)) (lam N P (tim R k) (tim R k))=E2 at *
   generalize mul (mul (fin N u.1) (fin N u.1)) (lam N P (tim (pa Q R) k) (tim (pa Q R) k))=E3 at *
   generalize CR.pw (lam N P Q R) (k+k)=z at *
   exact CR.lin (x:=(.m (.m (.m (.v 0) (.v 3)) (.m (.v 1) (.v 4))) (.v 5))) (y:=(.m (.m (.v 2) (.v 7)) (.m (.v 8) (.v 9)))) [((.m (.v 0) (.v 1)),(.m (.m (.v 3) (.v 4)) (.v 5)),(.m (.m (.v 6) (.v 9)) (.v 7))),((.m (.v 9) (.v 7)),(.m (.m (.v 0) (.v 1)) (.v 6)),(.m (.v 2) (.v 8)))] (by decide +kernel) [E1,E2,E3,lam N P (tim Q (k+k)) Q,lam N P (tim R (k+k)) R,lam N P (pa (tim Q (k+k)) Q) (pa (tim R (k+k)) R),lam N P (tim Q (k+k)) (tim R (k+k)),lam N P (tim (pa Q R) (k+k)) (pa Q R),z,lam N P Q R] ⟨x2,y1,trivial⟩
theorem xp{P R Q:Pt n}(hP:Onc c P)(hR:Onc c R)(hQ:Onc b Q):∀(l:List Bool)(k:Nat)(s t u:T12 n×Pt n),(s.1≠zero∧s.2=tim Q k)→(t.1≠zero∧t.2=tim Q k)→(u.1≠zero∧u.2=tim Q k) →
  mul (mul (fin N s.1) (fin N t.1)) (mu N P R (tim Q k))=mul (fin N u.1) (CR.pw (mu N P R Q) k) →
  mul (mul (fin N (l.foldl (mst P Q) s).1) (fin N (l.foldl (mst R Q) t).1)) (mu N P R (tim Q (l.foldl kst k)))=mul (fin N (l.foldl (mst (pa P R) Q) u).1) (CR.pw (mu N P R Q) (l.foldl kst k))
 | [],_,_,_,_,_,_,_,h=>h
 | x::l,k,s,t,u,hs,ht,hu,h=>by
  have hPR:=K2.dh H.tw.p3 hP hR
  obtain⟨a1,b1⟩:=lH H (N:=N) hP hQ hs x
  obtain⟨a2,b2⟩:=lH H (N:=N) hR hQ ht x
  obtain⟨a3,b3⟩:=lH H (N:=N) hPR hQ hu x
  refine xp hP hR hQ l (kst k x) _ _ _ a1 a2 a3 ?_
  have hT:=lK H hQ k
  have x1:=BV H.toPg (N:=N) hP hR hT hT
  rw[b1,b2,b3]
  rw[← K2.fi H.tw.p3 H.n2 hQ k k]at x1
  have p1:=CR.dP (mu N P R Q) k k
  have y1:mul (mul (mul (mul (fin N s.1) (fin N s.1)) (lam N P (tim Q k) (tim Q k))) (mul (mul (fin N t.1) (fin N t.1)) (lam N R (tim Q k) (tim Q k)))) (mu N P R (tim Q (k+k)))=mul (mul (mul (fin N u.1) (fin N u.1)) (lam N (pa P R) (tim Q k) (tim Q k))) (CR.pw (mu N P R Q) (k+k)):=by
   rw[p1]
   generalize fin N s.1=E1 at *
   generalize fin N t.1=E2 at *
   generalize fin N u.1=E3 at *
   generalize CR.pw (mu N P R Q) k=z at *
   exact CR.lin (x:=(.m (.m (.m (.m (.v 0) (.v 0)) (.v 3)) (.m (.m (.v 1) (.v 1)) (.v 4))) (.v 5))) (y:=(.m (.m (.m (.v 2) (.v 2)) (.v 7)) (.m (.v 8) (.v 8)))) [((.m (.m (.v 0) (.v 0)) (.m (.v 1) (.v 1))),(.m (.m (.v 3) (.v 4)) (.v 5)),(.m (.v 7) (.m (.v 6) (.v 6)))),((.m (.v 7) (.a (.m (.m (.v 0) (.v 1)) (.v 6)) (.m (.v 2) (.v 8)))),(.m (.m (.v 0) (.v 1)) (.v 6)),(.m (.v 2) (.v 8)))] (by decide +kernel) [E1,E2,E3,lam N P (tim Q k) (tim Q k),lam N R (tim Q k) (tim Q k),mu N P R (tim Q (k+k)),mu N P R (tim Q k),lam N (pa P R) (tim Q k) (tim Q k),z] ⟨x1,h,trivial⟩
  cases x with
  | false=>exact y1
  | true=>
   have x2:=BV H.toPg (N:=N) hP hR (lK H hQ (k+k)) hQ
   show mul (mul (mul _ _) (mul _ _)) (mu N P R (pa (tim Q (k+k)) Q))=mul (mul _ _) (mul (CR.pw (mu N P R Q) (k+k)) (mu N P R Q))
   generalize mul (mul (fin N s.1) (fin N s.1)) (lam N P (tim Q k) (tim Q k))=E1 at *
   generalize mul (mul (fin N t.1) (fin N t.1)) (lam N R (tim Q k) (tim Q k))=E2 at *
   generalize mul (mul (fin N u.1) (fin N u.1)) (lam N (pa P R) (tim Q k) (tim Q k))=E3 at *
   generalize CR.pw (mu N P R Q) (k+k)=z at *
   exact CR.lin (x:=(.m (.m (.m (.v 0) (.v 3)) (.m (.v 1) (.v 4))) (.v 5))) (y:=(.m (.m (.v 2) (.v 7)) (.m (.v 8) (.v 9)))) [((.m (.v 0) (.v 1)),(.m (.m (.v 3) (.v 4)) (.v 5)),(.m (.v 7) (.m (.v 6) (.v 9)))),((.m (.v 9) (.v 7)),(.m (.m (.v 0) (.v 1)) (.v 6)),(.m (.v 2) (.v 8)))] (by decide +kernel) [E1,E2,E3,lam N P (tim Q (k+k)) Q,lam N R (tim Q (k+k)) Q,mu N P R (pa (tim Q (k+k)) Q),mu N P R (tim Q (k+k)),lam N (pa P R) (tim Q (k+k)) Q,z,mu N P R Q] ⟨x2,y1,trivial⟩
end
end T12
end Go.Proofs.YtndhfbecpghinaaGreat.L.Kf
namespace Go.Proofs.YtndhfbecpghinaaGreat.L.Kf
open Pr
namespace T12
variable {n:Nat} [NeZero n]
open K2 (Pt pa pn Onc No2 tim psi Rl)
attribute [local irreducible] K2.add K2.mul K2.sub K2.neg K2.zero K2.one K2.inv K2.xi K2.conj
section
variable {b c g i:K2 n} {m:Nat} (H:Ps b c g i m) {N r:Nat} (hr:n*n*(n*n)*(n*n)+1∣N*r) {l:List Bool} (hk:r∣kbs l+n)
def Eg(b i:K2 n)(l:List Bool)(Q:Pt n):Prop:=Onc b Q∧tim Q (kbs l)=pn (psi i Q)
def Rp(c:K2 n)(P:Pt n):Prop:=Onc c P∧Rl P
include H
theorem vd{P Q:Pt n}(hP:Onc c P)(hQ:Onc b Q)(l:List Bool):(mil P Q l).1≠zero∧(mil P Q l).2=tim Q (kbs l):=by
 have:∀(l:List Bool)(k:Nat)(s:T12 n×Pt n),(s.1≠zero∧s.2=tim Q k)→((l.foldl (mst P Q) s).1≠zero∧(l.foldl (mst P Q) s).2=tim Q (l.foldl kst k)):=by
  intro l
  induction l with
  | nil=>exact fun _ _ h=>h
  | cons x l ih=>exact fun k s h=>ih _ _ (lH H (N:=0) hP hQ h x).1
 exact this l 1 (one,Q) ⟨cH H.tw,rfl⟩
theorem nL{P Q:Pt n}(hP:Onc c P)(hQ:Onc b Q):mul (fin N (mil P Q l).1) (er N l P Q)=one:=by
 rw[mul_comm']
 exact j1 H.tw (vd H hP hQ l).1
theorem Wj{P Q:Pt n}(hr:n*n*(n*n)*(n*n)+1∣N*r)(hP:Onc c P)(hQ:Onc b Q):CR.pw (er N l P Q) r=one:=
 GJ H.tw H.hm H.h3 hr (ji H.tw (vd H hP hQ l).1)
omit H in
theorem UP(hk:r∣kbs l+n){z:T12 n}(h:CR.pw z r=one):mul (CR.pw z (kbs l)) (CR.pw z n)=one:=by
 have e:=CR.dP z (kbs l) n
 obtain⟨q,hq⟩:=hk
 rw[hq,CR.bM,h,ef]at e
 exact e.symm
include hr hk
theorem Bw{P Q R:Pt n}(hP:Rp c P)(hQ:Eg b i l Q)(hR:Eg b i l R):er N l P (pa Q R)=mul (er N l P Q) (er N l P R):=by
 have G:=H.toPg
 have ho:=G.oa hQ.1 hR.1
 have h1:=eV (N:=N) G.tw
 have q:=xq H (N:=N) hP.1 hQ.1 hR.1 l 1 (one,Q) (one,R) (one,pa Q R) ⟨cH G.tw,rfl⟩ ⟨cH G.tw,rfl⟩ ⟨cH G.tw,rfl⟩ (by
  rw[h1,am,bh,bh];exact(CR.Ax _).symm)
 change mul (mul (fin N (mil P Q l).1) (fin N (mil P R l).1)) (lam N P (tim Q (kbs l)) (tim R (kbs l)))=mul (fin N (mil P (pa Q R) l).1) (CR.pw (lam N P Q R) (kbs l))at q
 have z:=UP hk (GJ H.tw H.hm H.h3 hr (j8 G hP.1 hQ.1 hR.1))
 have nn:=BU G (N:=N) hP.1 (H.psi_on hQ.1) (H.psi_on hR.1)
 rw[LH H hP.1 hP.2 hQ.1 hR.1,← hQ.2,← hR.2]at nn
 have e1:=nL H (N:=N) (l:=l) hP.1 hQ.1
 have e2:=nL H (N:=N) (l:=l) hP.1 hR.1
 have e3:=nL H (N:=N) (l:=l) hP.1 ho
 refine qN e3 ?_
 have o:∀x:T12 n,x=one→x=CR.ofZ 1:=fun _ h=>h.trans CR.dK.symm
 refine Eq.trans ?_ (CR.dK (R:=T12 n))
 change mul (CR.pw (lam N P Q R) (kbs l)) (CR.pw (lam N P Q R) n)=_ at z
 exact CR.lin (x:=(.m (.v 2) (.m (.v 3) (.v 4)))) (y:=(.c 1)) [((.n (.m (.m (.v 7) (.v 3)) (.v 4))),(.m (.m (.v 0) (.v 1)) (.v 5)),(.m (.v 2) (.v 6))),((.n (.m (.m (.v 2) (.v 3)) (.v 4))),(.m (.v 6) (.v 7)),(.c 1)),((.m (.m (.m (.v 0) (.v 1)) (.v 3)) (.v 4)),(.m (.v 5) (.v 7)),(.c 1)),((.m (.v 1) (.v 4)),(.m (.v 0) (.v 3)),(.c 1)),((.c 1),(.m (.v 1) (.v 4)),(.c 1))] (by decide +kernel) [fin N (mil P Q l).1,fin N (mil P R l).1,fin N (mil P (pa Q R) l).1,er N l P Q,er N l P R,lam N P (tim Q (kbs l)) (tim R (kbs l)),CR.pw (lam N P Q R) (kbs l),CR.pw (lam N P Q R) n] ⟨q,o _ z,o _ nn,o _ e1,o _ e2,trivial⟩
theorem Bv{P R Q:Pt n}(hP:Rp c P)(hR:Rp c R)(hQ:Eg b i l Q):er N l (pa P R) Q=mul (er N l P Q) (er N l R Q):=by
 have G:=H.toPg
 have ho:=K2.dh G.tw.p3 hP.1 hR.1
 have h1:=eV (N:=N) G.tw
 have q:=xp H (N:=N) hP.1 hR.1 hQ.1 l 1 (one,Q) (one,Q) (one,Q) ⟨cH G.tw,rfl⟩ ⟨cH G.tw,rfl⟩ ⟨cH G.tw,rfl⟩ (by
  rw[h1,am,bh,bh];exact(CR.Ax _).symm)
 change mul (mul (fin N (mil P Q l).1) (fin N (mil R Q l).1)) (mu N P R (tim Q (kbs l)))=mul (fin N (mil (pa P R) Q l).1) (CR.pw (mu N P R Q) (kbs l))at q
 have gn:gin P R Q≠zero:=by
  cases P with
  | none=>exact cH G.tw
  | some P=>cases R with
   | none=>rw[Hc];exact cH G.tw
   | some R=>cases Q with
    | none=>exact cH G.tw
    | some Q=>
     obtain⟨x1,y1⟩:=P;obtain⟨x2,y2⟩:=R;obtain⟨x,y⟩:=Q
     rcases K2.cq (x1:=x1) (y1:=y1) (x2:=x2) (y2:=y2) G.tw.p3 hP.1 hR.1 with⟨g1,g2⟩ | ⟨l,h,hn⟩
     ·rw[BH G.tw.p3 g1 g2];exact yE (G.x_ne hQ.1)
     ·rw[j3 G.tw.p3 h hn];exact qG (K2.gF G.n2 hQ.1)
 have z:=UP hk (GJ H.tw H.hm H.h3 hr gn)
 have nn:=HU G (N:=N) hP.1 hR.1 (H.psi_on hQ.1)
 rw[Rr H hP.1 hR.1 hP.2 hR.2 hQ.1,← hQ.2]at nn
 have e1:=nL H (N:=N) (l:=l) hP.1 hQ.1
 have e2:=nL H (N:=N) (l:=l) hR.1 hQ.1
 have e3:=nL H (N:=N) (l:=l) ho hQ.1
 refine qN e3 ?_
 have o:∀x:T12 n,x=one→x=CR.ofZ 1:=fun _ h=>h.trans CR.dK.symm
 refine Eq.trans ?_ (CR.dK (R:=T12 n))
 change mul (CR.pw (mu N P R Q) (kbs l)) (CR.pw (mu N P R Q) n)=_ at z
 exact CR.lin (x:=(.m (.v 2) (.m (.v 3) (.v 4)))) (y:=(.c 1)) [((.n (.m (.m (.v 7) (.v 3)) (.v 4))),(.m (.m (.v 0) (.v 1)) (.v 5)),(.m (.v 2) (.v 6))),((.n (.m (.m (.v 2) (.v 3)) (.v 4))),(.m (.v 6) (.v 7)),(.c 1)),((.m (.m (.m (.v 0) (.v 1)) (.v 3)) (.v 4)),(.m (.v 5) (.v 7)),(.c 1)),((.m (.v 1) (.v 4)),(.m (.v 0) (.v 3)),(.c 1)),((.c 1),(.m (.v 1) (.v 4)),(.c 1))] (by decide +kernel) [fin N (mil P Q l).1,fin N (mil R Q l).1,fin N (mil (pa P R) Q l).1,er N l P Q,er N l R Q,mu N P R (tim Q (kbs l)),CR.pw (mu N P R Q) (kbs l),CR.pw (mu N P R Q) n] ⟨q,o _ z,o _ nn,o _ e1,o _ e2,trivial⟩
omit hr hk
omit H in
theorem KM:Eg b i l none:=⟨trivial,K2.f7 _⟩
theorem Tj{Q R:Pt n}(hQ:Eg b i l Q)(hR:Eg b i l R):Eg b i l (pa Q R):=by
 refine⟨H.toPg.oa hQ.1 hR.1,?_⟩
 rw[K2.wb H.tw.p3 H.n2 hQ.1 hR.1,hQ.2,hR.2,K2.B7 H.tw.p3 (H.psi_on hQ.1) (H.psi_on hR.1),K2.RG H.tw.p3 H.i_ne hQ.1 hR.1]
theorem zk{Q:Pt n}(hQ:Eg b i l Q):∀k,Eg b i l (tim Q k)
 | 0=>KM
 | k+1=>Tj H (zk hQ k) hQ
theorem Ts{P R:Pt n}(hP:Rp c P)(hR:Rp c R):Rp c (pa P R):=⟨K2.dh H.tw.p3 hP.1 hR.1,K2.Tr H.tw.p3 hP.1 hR.1 hP.2 hR.2⟩
theorem ut{P:Pt n}(hP:Rp c P):∀k,Rp c (tim P k)
 | 0=>⟨trivial,trivial⟩
 | k+1=>Ts H (ut hP k) hP
theorem NX(P:Pt n):er N l P none=one:=by
 have:∀(l:List Bool)(s:T12 n×Pt n),s=(one,none)→l.foldl (mst P none) s=(one,none):=by
  intro l
  induction l with
  | nil=>exact fun _ h=>h
  | cons x l ih=>
   rintro _ rfl
   refine ih _ ?_
   unfold mst
   cases x with
   | false=>show(mul (mul one one) (lin P none none),(none:Pt n))=_;rw[gJ,am,am]
   | true=>show(mul (mul (mul one one) (lin P none none)) (lin P none none),(none:Pt n))=_;rw[gJ,am,am,am]
 rw[er,mil,this l _ rfl,fW]
 exact eV H.tw
theorem NW(Q:Pt n):er N l none Q=one:=by
 have:∀(l:List Bool)(s:T12 n×Pt n),s.1=one→(l.foldl (mst none Q) s).1=one:=by
  intro l
  induction l with
  | nil=>exact fun _ h=>h
  | cons x l ih=>
   rintro s h
   refine ih _ ?_
   unfold mst
   rw[h]
   cases x with
   | false=>show mul (mul one one) one=one;rw[am,am]
   | true=>show mul (mul (mul one one) one) one=one;rw[am,am,am]
 rw[er,mil,this l _ rfl,fW]
 exact eV H.tw
include hr hk
theorem By{P Q:Pt n}(hP:Rp c P)(hQ:Eg b i l Q):∀k,er N l P (tim Q k)=CR.pw (er N l P Q) k
 | 0=>NX H P
 | k+1=>by
  show er N l P (pa (tim Q k) Q)=_
  rw[Bw H hr hk hP (zk H hQ k) hQ,By hP hQ k];rfl
theorem Bx{P Q:Pt n}(hP:Rp c P)(hQ:Eg b i l Q):∀k,er N l (tim P k) Q=CR.pw (er N l P Q) k
 | 0=>NW H Q
 | k+1=>by
  show er N l (pa (tim P k) P) Q=_
  rw[Bv H hr hk (ut H hP k) hP hQ,Bx hP hQ k];rfl
theorem Qz{P Q:Pt n}(hP:Rp c P)(hQ:Eg b i l Q):mul (er N l (pn P) Q) (er N l P Q)=one:=by
 rw[← Bv H hr hk ⟨K2.cF hP.1,K2.FG hP.2⟩ hP hQ,K2.mU H.tw.p3,NW H]
omit H hr hk
theorem II{z:T12 n}(hp:aU r)(h:CR.pw z r=one)(hz:z≠one){k:Nat}(hk:CR.pw z k=one):r∣k:=by
 apply Classical.byContradiction
 intro hd
 obtain⟨t,ht⟩:=AG.uW hp hd
 apply hz
 have e:k*t=r*(k*t/r)+1:=by have:=Nat.div_add_mod (k*t) r;omega
 have e2:=CR.bM z k t
 rw[hk,ef,e,CR.kW,CR.bM,h,ef]at e2
 exact(bh z).symm.trans e2
end
end T12
end Go.Proofs.YtndhfbecpghinaaGreat.L.Kf
namespace Go.Proofs.YtndhfbecpghinaaGreat.L
open Go Go.Proofs
set_option maxRecDepth 100000
section
attribute [local irreducible] Code.wp wpList Af bodyPost L.Go ab
open Num
attribute [local simp] ae
attribute [local irreducible] al cU cv gY dB em
theorem Ks{a b:Prop}(k:b)(h:Rm b→a:=by intro k;(first|refine eK ?_|refine co ?_|refine bI ?_|refine eP ?_|refine eO ?_|refine fJ ?_|refine fI ?_|refine ky ?_|refine dM ?_);exact k.h):a:=h ⟨k⟩
theorem Ku{a b:Prop}(k:b)(h:Rm b→a:=by intro k;(first|refine dL ?_|refine jP ?_|refine Z01 ?_|refine Z02 ?_|refine Z03 ?_|refine Z04 ?_|refine Z05 ?_|refine Z06 ?_|refine Z07 ?_|refine Z08 ?_|refine Z09 ?_|refine Z10 ?_|refine Z11 ?_|refine Z12 ?_|refine Z13 ?_|refine Z14 ?_|refine Z24 ?_|refine Z26 ?_|refine Z27 ?_|refine Z29 ?_|refine Z30 ?_|refine Z31 ?_|refine Z32 ?_|refine Z49 ?_|refine Z50 ?_|refine Z51 ?_|refine Z52 ?_|refine Z67 ?_|refine Z77 ?_|refine Z78 ?_|refine Z79 ?_);exact k.h):a:=h ⟨k⟩
set_option maxHeartbeats 8000000 in
theorem Ai{P:Kf.K2.Pt p}(hR:Kf.K2.Rl P)(T Q:Kf.K2.Pt p):Spec Tryz.prog 141 [GV T,GV Q,HV P] ai [] (IsV (SV (Kf.K2.pa T Q) (Kf.T12.lin P T Q))):=by
 have h1:=w7 T
 have h2:=w7 Q
 have h3:=NY T Q
 have h4:=n7
 obtain⟨x1,y1,i1,ex1,ey1,ei1⟩:∃x y i,x=gx T∧y=gy T∧i=gi T:=⟨_,_,_,rfl,rfl,rfl⟩
 obtain⟨x2,y2,i2,ex2,ey2,ei2⟩:∃x y i,x=gx Q∧y=gy Q∧i=gi Q:=⟨_,_,_,rfl,rfl,rfl⟩
 obtain⟨x3,y3,i3,ex3,ey3,ei3⟩:∃x y i,x=gx (Kf.K2.pa T Q)∧y=gy (Kf.K2.pa T Q)∧i=gi (Kf.K2.pa T Q):=⟨_,_,_,rfl,rfl,rfl⟩
 have g1:GV T=GE x1 y1 i1:=by rw[ex1,ey1,ei1]
 have g2:GV Q=GE x2 y2 i2:=by rw[ex2,ey2,ei2]
 have g3:GV (Kf.K2.pa T Q)=GE x3 y3 i3:=by rw[ex3,ey3,ei3]
 obtain⟨pu,pv,pi,eu,ev,ei⟩:∃u v i,u=(gx P).re∧v=(gy P).re∧i=gi P:=⟨_,_,_,rfl,rfl,rfl⟩
 have hP:HV P=HE pu pv pi:=by rw[eu,ev,ei]
 rw[g1]at h1 h3
 rw[g2]at h2 h3
 rw[g3]at h3
 rw[SV,g1,g2,hP]
 by_cases hinf:P=none∨T=none∨Q=none
 ·have hlin:Kf.T12.lin P T Q=Kf.T12.one:=by
   rcases hinf with rfl | rfl | rfl
   ·rfl
   ·exact Kf.T12.gJ _ _
   ·exact Kf.T12.s7 _ _
  rw[hlin,g3]
  generalize (Kf.T12.one:F12)=f1 at h4 ⊢
  refine ad Tryz.func141 rfl rfl rfl fun w _=>?_
  have hl0:=fun x=>ae 6 x
  have hle:=fun x:F2=>ak x
  have hflag:pi=true∨i1=true∨i2=true:=by
   rcases hinf with rfl | rfl | rfl
   ·left
    exact ei
   ·exact .inr (.inl ei1)
   ·exact .inr (.inr ei2)
  clear ex1 ey1 ei1 ex2 ey2 ei2 ex3 ey3 ei3 g1 g2 g3 hinf hlin hP eu ev ei
  cases pi with
  | true=>
   repeat (first|(refine cD ?_;intro _)|(refine cL ?_;intro _)|refine bn ?_|refine Z81 fun _=>?_|refine Z82 fun _=>?_)
   refine R.af [0,1,2,3,4,5] (by rfl) ?_
   repeat (first|refine pb ?_|refine ag h1 ?_|refine ag h2 ?_|refine gb ?_|(refine aV ?_;intro _))
   refine R.Zp0 ?_
   repeat (first|(refine bG ?_;intro _)|refine Ks ?_|refine y_4 h3 ?_|refine y_4 h4 ?_|refine Ku ?_|refine Z81 fun _=>?_|refine Z82 fun _=>?_)
   refine hJ (m:=24) (m':=72) (by rfl) (by rfl) (by rfl) fd fd (by rfl) (by rfl) (by first|with_reducible assumption|simp) (by rfl) (by rfl) (by first | exact be _ | exact be ⟨⟨_,_,_⟩,_⟩) fun _ hw=>aa hw SubW.nil ⟨?_,rfl⟩
   rfl
  | false=>cases i1 with
   | true=>
    repeat (first|(refine cD ?_;intro _)|(refine cL ?_;intro _)|refine bn ?_|refine Z81 fun _=>?_|refine Z82 fun _=>?_)
    refine R.af [0,1,2,3,4,5] (by rfl) ?_
    repeat (first|refine pb ?_|refine ag h1 ?_|refine ag h2 ?_|refine gb ?_|(refine aV ?_;intro _))
    refine R.Zp0 ?_
    repeat (first|(refine bG ?_;intro _)|refine Ks ?_|refine y_4 h3 ?_|refine y_4 h4 ?_|refine Ku ?_|refine Z81 fun _=>?_|refine Z82 fun _=>?_)
    refine hJ (m:=24) (m':=72) (by rfl) (by rfl) (by rfl) fd fd (by rfl) (by rfl) (by first|with_reducible assumption|simp) (by rfl) (by rfl) (by first | exact be _ | exact be ⟨⟨_,_,_⟩,_⟩) fun _ hw=>aa hw SubW.nil ⟨?_,rfl⟩
    rfl
   | false=>
    have hi2:i2=true:=by simpa using hflag
    subst hi2
    repeat (first|(refine cD ?_;intro _)|(refine cL ?_;intro _)|refine bn ?_|refine Z81 fun _=>?_|refine Z82 fun _=>?_)
    refine R.af [0,1,2,3,4,5] (by rfl) ?_
    repeat (first|refine pb ?_|refine ag h1 ?_|refine ag h2 ?_|refine gb ?_|(refine aV ?_;intro _))
    refine R.Zp0 ?_
    repeat (first|(refine bG ?_;intro _)|refine Ks ?_|refine y_4 h3 ?_|refine y_4 h4 ?_|refine Ku ?_|refine Z81 fun _=>?_|refine Z82 fun _=>?_)
    refine hJ (m:=24) (m':=72) (by rfl) (by rfl) (by rfl) fd fd (by rfl) (by rfl) (by first|with_reducible assumption|simp) (by rfl) (by rfl) (by first | exact be _ | exact be ⟨⟨_,_,_⟩,_⟩) fun _ hw=>aa hw SubW.nil ⟨?_,rfl⟩
    rfl
 ·rcases iL hR with rfl | ⟨qu,qv,rfl⟩
  ·exact absurd (.inl rfl) hinf
  cases T with
  | none=>exact absurd (.inr (.inl rfl)) hinf
  | some q1=>cases Q with
   | none=>exact absurd (.inr (.inr rfl)) hinf
   | some q2=>
    obtain⟨a1,b1⟩:=q1
    obtain⟨a2,b2⟩:=q2
    cases (show pu=qu from eu.trans (NP qu))
    cases (show pv=qv from ev.trans (NP qv))
    cases (show pi=false from ei)
    cases (show x1=a1 from ex1)
    cases (show y1=b1 from ey1)
    cases (show i1=false from ei1)
    cases (show x2=a2 from ex2)
    cases (show y2=b2 from ey2)
    cases (show i2=false from ei2)
    by_cases hx:x1=x2
    ·subst hx
     by_cases hy:y1=y2∧y1≠Kf.K2.zero
     ·obtain⟨rfl,hy2⟩:=hy
      have hpa:Kf.K2.pa (some (x1,y1)) (some (x1,y1))=some (Kf.K2.cx (Kf.K2.f6 x1 y1) x1 x1,Kf.K2.cy (Kf.K2.f6 x1 y1) x1 y1 x1):=by
       show(if x1=x1 then if y1=y1∧y1≠Kf.K2.zero then _ else _ else _)=_
       rw[if_pos rfl,if_pos ⟨rfl,hy2⟩]
      have hli:Kf.T12.lin (some (em pu,em pv)) (some (x1,y1)) (some (x1,y1))=Kf.T12.ln (Kf.K2.f6 x1 y1) x1 y1 (em pu) (em pv):=by
       show(if x1=x1 then if y1=y1∧y1≠Kf.K2.zero then _ else _ else _)=_
       rw[if_pos rfl,if_pos ⟨rfl,hy2⟩]
      rw[hpa,hli]
      exact Ec x1 y1 pu pv hy2
     ·have hpa:Kf.K2.pa (some (x1,y1)) (some (x1,y2))=none:=by
       show(if x1=x1 then if y1=y2∧y1≠Kf.K2.zero then _ else _ else _)=_
       rw[if_pos rfl,if_neg hy]
      have hli:Kf.T12.lin (some (em pu,em pv)) (some (x1,y1)) (some (x1,y2))=⟨⟨x1,em (gY pu),Kf.K2.zero⟩,Kf.T6.zero⟩:=by
       rw[← Va]
       show(if x1=x1 then if y1=y2∧y1≠Kf.K2.zero then _ else _ else _)=_
       rw[if_pos rfl,if_neg hy]
      rw[hpa,hli]
      exact Aj x1 y1 y2 pu pv hy
    ·have hpa:Kf.K2.pa (some (x1,y1)) (some (x2,y2))=some (Kf.K2.cx (Kf.K2.dZ x1 y1 x2 y2) x1 x2,Kf.K2.cy (Kf.K2.dZ x1 y1 x2 y2) x1 y1 x2):=by
      show(if x1=x2 then _ else _)=_
      rw[if_neg hx]
     have hli:Kf.T12.lin (some (em pu,em pv)) (some (x1,y1)) (some (x2,y2))=Kf.T12.ln (Kf.K2.dZ x1 y1 x2 y2) x1 y1 (em pu) (em pv):=by
      show(if x1=x2 then _ else _)=_
      rw[if_neg hx]
     rw[hpa,hli]
     exact Eb x1 y1 x2 y2 pu pv hx
def xN:Nat:=15132376222941642752
def xB:List Bool:=(List.range 63).reverse.map fun i=>Nat.testBit xN i
def xBk(i:Nat):List Bool:=((List.range 63).reverse.take i).map fun i=>Nat.testBit xN i
theorem SN:xBk 63=xB:=rfl
theorem Vd{i:Nat}(h:i<63):xBk (i+1)=xBk i++[Nat.testBit xN (62-i)]:=by
 unfold xBk
 rw[List.take_add_one,List.map_append]
 congr 1
 have:(List.range 63).reverse[i]?=some (62-i):=by
  rw[List.getElem?_reverse (by simpa using h),List.getElem?_range (by simp;omega)]
  simp
 rw[this];rfl
theorem Uv{P Q:Kf.K2.Pt p}{i:Nat}(h:i<63):Kf.T12.mil P Q (xBk (i+1))=Kf.T12.mst P Q (Kf.T12.mil P Q (xBk i)) (Nat.testBit xN (62-i)):=by
 rw[Vd h]
 unfold Kf.T12.mil
 rw[List.foldl_append];rfl
set_option maxHeartbeats 8000000 in
theorem tf{P:Kf.K2.Pt p}(hR:Kf.K2.Rl P)(Q T:Kf.K2.Pt p)(f:F12)(bt bp bf:Nat):
  Spec Tryz.prog 140 [GV Q,pt bt 0,pt bp 0,pt bf 0] ai [.blk bt (GV T) 36,.blk bp (HV P) 58,.blk bf (bL f) 138]
   (fun v Wr=>v = .tuple #[]∧Wr=[.blk bt (GV (Kf.K2.pa T Q)) 36,.blk bp (HV P) 58,.blk bf (bL (Kf.T12.mul f (Kf.T12.lin P T Q))) 138]):=by
 refine ad Tryz.func140 rfl rfl rfl fun w hr=>?_
 have hl0:=fun x=>ae 6 x
 have hle:=fun x:F2=>ak x
 have h1:=Ai hR T Q
 have h2:=jb f (Kf.T12.lin P T Q)
 obtain⟨x1,y1,i1,q1⟩:∃x1 y1 i1,GV T=GE x1 y1 i1:=⟨_,_,_,rfl⟩
 obtain⟨x2,y2,i2,q2⟩:∃x1 y1 i1,GV Q=GE x1 y1 i1:=⟨_,_,_,rfl⟩
 obtain⟨x3,y3,i3,q3⟩:∃x1 y1 i1,GV (Kf.K2.pa T Q)=GE x1 y1 i1:=⟨_,_,_,rfl⟩
 obtain⟨u,v,j,q4⟩:∃x1 y1 i1,HV P=HE x1 y1 i1:=⟨_,_,_,rfl⟩
 rw[SV,q1,q2,q3,q4]at h1
 rw[q1,q2,q3,q4]
 generalize Kf.T12.mul f (Kf.T12.lin P T Q)=g at *
 generalize Kf.T12.lin P T Q=lf at *
 repeat (first|refine dM ?_|refine jd ?_|(refine cD ?_;intro _)|(refine cL ?_;intro _)|refine y_4 h1 ?_|refine dL ?_|refine jP ?_|refine Z01 ?_|refine Z03 ?_|refine Z04 ?_|refine Z05 ?_|refine Z06 ?_|refine Z07 ?_|refine Z08 ?_|refine Z09 ?_|refine Z10 ?_|refine Z11 ?_|refine Z12 ?_|refine Z13 ?_|refine Z14 ?_|refine Z19 ?_|refine Z24 ?_|refine Z26 ?_|refine Z27 ?_|refine Z29 ?_|refine Z30 ?_|refine Z31 ?_|refine Z32 ?_|refine Z67 ?_|refine Z81 fun _=>?_|refine Z82 fun _=>?_)
 refine R.af [0,1,2,3,4,5] (by rfl) ?_
 repeat' (first|(refine R.Zpf (by rfl) (by intro _ _ _;(first|refine Z01 ?_|refine Z19 ?_);exact Zq) ?_)|(refine R.DA (by rfl) (by intro _ _ _;refine dE (m:=24) (by rfl) fd (by rfl) (by rfl) (by first|with_reducible assumption|simp) (by rfl) ?_;exact Zq) ?_)|(refine R.zm [4,5] [3,5] (by rfl) (by rfl) (by intro _ _ _;refine dE (m:=24) (by rfl) fd (by rfl) (by rfl) (by first|with_reducible assumption|simp) (by rfl) ?_;exact Zq) (by intro _ _ _;(refine aX (m:=72) (by rfl) (by rfl) fd (by rfl) (be _) (be _) ?_);exact Zqq) ?_ ?_)|refine aL ?_|refine OV ?_|refine ag h2 ?_|refine aA ?_|refine rY ?_|(refine R.Zps (by rfl) (by intro _ _ _;(refine aX (m:=72) (by rfl) (by rfl) fd (by rfl) (be _) (be _) ?_);exact Zqq) ?_)|(refine aV ?_;intro _))
 all_goals refine R.Zp0 ?_
 all_goals
  repeat (first|refine Z01 ?_|refine Z03 ?_|refine Z04 ?_|refine Z05 ?_|refine Z06 ?_|refine Z07 ?_|refine Z08 ?_|refine Z09 ?_|refine Z10 ?_|refine Z11 ?_|refine Z12 ?_|refine Z13 ?_|refine Z14 ?_|refine Z19 ?_|refine Z24 ?_|refine Z26 ?_|refine Z27 ?_|refine Z29 ?_|refine Z30 ?_|refine Z31 ?_|refine Z32 ?_|refine Z67 ?_|refine Z81 fun _=>?_|refine Z82 fun _=>?_)
  refine gC (by rfl) fun _ hw=>aa hw (Wout:=[.blk bt (GE x3 y3 i3) 36,.blk bp (HE u v j) 58,.blk bf (bL g) 138]) (by exact sw) ⟨rfl,rfl⟩
theorem W3:∀k,k<63→15132376222941642752 >>> k%18446744073709551616 &&& 1%18446744073709551616=(Nat.testBit xN k).toNat:=by decide +kernel
theorem D8(Q:Kf.K2.Pt p)(l:List Bool):(Kf.T12.mil none Q l).1=Kf.T12.one:=by
 have:∀(l:List Bool)(s:F12×Kf.K2.Pt p),s.1=Kf.T12.one→(l.foldl (Kf.T12.mst none Q) s).1=Kf.T12.one:=by
  intro l
  induction l with
  | nil=>exact fun _ h=>h
  | cons x l ih=>
   rintro s h
   refine ih _ ?_
   unfold Kf.T12.mst
   rw[h]
   cases x with
   | false=>show Kf.T12.mul (Kf.T12.mul Kf.T12.one Kf.T12.one) Kf.T12.one=Kf.T12.one;rw[Kf.T12.am,Kf.T12.am]
   | true=>show Kf.T12.mul (Kf.T12.mul (Kf.T12.mul Kf.T12.one Kf.T12.one) Kf.T12.one) Kf.T12.one=Kf.T12.one;rw[Kf.T12.am,Kf.T12.am,Kf.T12.am]
 exact this l _ rfl
theorem D9(P:Kf.K2.Pt p)(l:List Bool):(Kf.T12.mil P none l).1=Kf.T12.one:=by
 have:∀(l:List Bool)(s:F12×Kf.K2.Pt p),s=(Kf.T12.one,none)→l.foldl (Kf.T12.mst P none) s=(Kf.T12.one,none):=by
  intro l
  induction l with
  | nil=>exact fun _ h=>h
  | cons x l ih=>
   rintro _ rfl
   refine ih _ ?_
   unfold Kf.T12.mst
   cases x with
   | false=>show(Kf.T12.mul (Kf.T12.mul Kf.T12.one Kf.T12.one) (Kf.T12.lin P none none),(none:Kf.K2.Pt p))=_;rw[Kf.T12.gJ,Kf.T12.am,Kf.T12.am]
   | true=>show(Kf.T12.mul (Kf.T12.mul (Kf.T12.mul Kf.T12.one Kf.T12.one) (Kf.T12.lin P none none)) (Kf.T12.lin P none none),(none:Kf.K2.Pt p))=_;rw[Kf.T12.gJ,Kf.T12.am,Kf.T12.am,Kf.T12.am]
 exact congrArg Prod.fst (this l _ rfl)
theorem se{a b:Prop}(k:b)(h:Rm b→a:=by intro k;(first|refine Z01 ?_|refine Z02 ?_|refine Z03 ?_|refine Z04 ?_|refine Z05 ?_|refine Z06 ?_|refine Z07 ?_|refine Z08 ?_|refine Z09 ?_|refine Z10 ?_|refine Z11 ?_|refine Z12 ?_|refine Z13 ?_|refine Z14 ?_|refine Z16 ?_|refine Z17 ?_|refine Z18 ?_|refine Z24 ?_|refine Z26 ?_|refine Z27 ?_|refine Z29 ?_|refine Z30 ?_|refine Z31 ?_|refine Z32 ?_|refine Z40 ?_|refine Z42 ?_|refine Z48 ?_|refine Z49 ?_|refine Z50 ?_|refine Z51 ?_|refine Z52 ?_|refine Z54 ?_|refine Z67 ?_|refine Z71 ?_);exact k.h):a:=h ⟨k⟩
theorem Kv{a b:Prop}(k:b)(h:Rm b→a:=by intro k;(first|refine jd ?_|refine dM ?_|refine eK ?_|refine co ?_|refine bI ?_|refine eP ?_|refine fm ?_);exact k.h):a:=h ⟨k⟩
theorem Pz{a b:Prop}(k:b)(h:Rm b→a:=by intro k;(first|refine i8 ?_|refine hO ?_|refine jP ?_|refine Z01 ?_|refine Z02 ?_|refine Z03 ?_|refine Z04 ?_|refine Z05 ?_|refine Z06 ?_|refine Z07 ?_|refine Z08 ?_|refine Z09 ?_|refine Z10 ?_|refine Z11 ?_|refine Z12 ?_|refine Z13 ?_|refine Z14 ?_|refine Z16 ?_|refine Z17 ?_|refine Z18 ?_|refine Z24 ?_|refine Z26 ?_|refine Z27 ?_|refine Z29 ?_|refine Z30 ?_|refine Z31 ?_|refine Z32 ?_|refine Z40 ?_|refine Z42 ?_|refine Z48 ?_|refine Z49 ?_|refine Z50 ?_|refine Z51 ?_|refine Z52 ?_|refine Z54 ?_|refine Z67 ?_|refine Z71 ?_);exact k.h):a:=h ⟨k⟩
set_option maxHeartbeats 8000000 in
theorem qX{P Q:Kf.K2.Pt p}(hP:Kf.K2.Onc c4 P)(hR:Kf.K2.Rl P)(hQ:Kf.K2.Onc b2c Q)(hn:P=none∨Q=none):Spec Tryz.prog 127 [HV P,GV Q] ai [] (IsV (.tuple [bL Kf.T12.one,N .i64 0].toArray)):=by
 refine ad Tryz.func127 rfl rfl rfl fun w hr=>?_
 have hl0:=fun x=>ae 6 x
 have hle:=fun x:F2=>ak x
 have h1:=mE hP hR
 have h2:=Lk hQ
 have h3:=n7
 have hE:=be Kf.T12.one
 obtain⟨x1,y1,i1,e1⟩:∃x1 y1 i1,GV Q=GE x1 y1 i1∧i1=gi Q:=⟨_,_,_,rfl,rfl⟩
 obtain⟨u,v,j,e2⟩:∃x1 y1 i1,HV P=HE x1 y1 i1∧i1=gi P:=⟨_,_,_,rfl,rfl⟩
 rw[e2.1]at h1
 rw[e1.1]at h2
 rw[e1.1,e2.1]
 generalize (Kf.T12.one:F12)=f at *
 cases j with
 | true=>
  repeat (first|refine Kv ?_|(refine cL ?_;intro _)|refine y_4 h1 ?_|refine y_4 h2 ?_|refine y_4 h3 ?_|refine Pz ?_|refine Z81 fun _=>?_|refine Z82 fun _=>?_)
  repeat (first|with_reducible refine de ?_|refine se ?_|refine Z81 fun _=>?_|refine Z82 fun _=>?_)
  refine aJ (by rfl) (by rfl) (by rfl) fd (by rfl) (by rfl) (by first | with_reducible assumption | (simp[*];done)) fun _ hw=>aa hw SubW.nil ⟨?_,rfl⟩
  rfl
 | false=>
  have hi:i1=true:=by
   rcases hn with rfl | rfl
   ·exact absurd e2.2 (by decide)
   ·exact e1.2
  subst hi
  repeat (first|refine Kv ?_|(refine cL ?_;intro _)|refine y_4 h1 ?_|refine y_4 h2 ?_|refine y_4 h3 ?_|refine Pz ?_|refine Z81 fun _=>?_|refine Z82 fun _=>?_)
  repeat (first|with_reducible refine de ?_|refine se ?_|refine Z81 fun _=>?_|refine Z82 fun _=>?_)
  refine aJ (by rfl) (by rfl) (by rfl) fd (by rfl) (by rfl) (by first | with_reducible assumption | (simp[*];done)) fun _ hw=>aa hw SubW.nil ⟨?_,rfl⟩
  rfl
theorem OX{a b:Prop}(k:b)(h:Rm b→a:=by intro k;(first|refine i8 ?_|refine hO ?_|refine Z01 ?_|refine Z02 ?_|refine Z03 ?_|refine Z04 ?_|refine Z05 ?_|refine Z06 ?_|refine Z07 ?_|refine Z08 ?_|refine Z09 ?_|refine Z10 ?_|refine Z11 ?_|refine Z12 ?_|refine Z13 ?_|refine Z14 ?_|refine Z16 ?_|refine Z17 ?_|refine Z18 ?_|refine Z24 ?_|refine Z26 ?_|refine Z27 ?_|refine Z29 ?_|refine Z30 ?_|refine Z31 ?_|refine Z32 ?_|refine Z40 ?_|refine Z42 ?_|refine Z48 ?_|refine Z49 ?_|refine Z50 ?_|refine Z51 ?_|refine Z52 ?_|refine Z54 ?_|refine Z67 ?_|refine Z71 ?_);exact k.h):a:=h ⟨k⟩
set_option maxHeartbeats 8000000 in
theorem Ae{P Q:Kf.K2.Pt p}(hP:Kf.K2.Onc c4 P)(hR:Kf.K2.Rl P)(hQ:Kf.K2.Onc b2c Q)(n1:P≠none)(n2:Q≠none):Spec Tryz.prog 127 [HV P,GV Q] ai [] (IsV (.tuple [bL (Kf.T12.conj (Kf.T12.mil P Q xB).1),N .i64 0].toArray)):=by
 refine ad Tryz.func127 rfl rfl rfl fun w hr=>?_
 have hl0:=fun x=>ae 6 x
 have hle:=fun x:F2=>ak x
 have h1:=mE hP hR
 have h2:=Lk hQ
 have h3:=n7
 have h4:=w7 Q
 have cl:=fun T f=>tf hR Q T f
 have cs:=fun T f=>tf hR T T f
 have hi:gi Q=false:=by cases Q with
  | none=>exact absurd rfl n2
  | some q=>rfl
 have hj:gi P=false:=by cases P with
  | none=>exact absurd rfl n1
  | some q=>rfl
 obtain⟨x1,y1,e1⟩:∃x1 y1,GV Q=GE x1 y1 false:=⟨gx Q,gy Q,by rw[← hi]⟩
 obtain⟨u,v,e2⟩:∃x1 y1,HV P=HE x1 y1 false:=⟨(gx P).re,(gy P).re,by rw[← hj]⟩
 rw[e2]at h1 cl cs
 rw[e1]at h2 h4
 rw[e1,e2]
 have e0:bL Kf.T12.one=bL (Kf.T12.mil P Q (xBk 0)).1:=rfl
 have e0':GE x1 y1 false=GV (Kf.T12.mil P Q (xBk 0)).2:=e1.symm
 have cl:∀(T:Kf.K2.Pt p)(f:F12)(bt bp bf:Nat),Spec Tryz.prog 140 [GE x1 y1 false,pt bt 0,pt bp 0,pt bf 0] ai [.blk bt (GV T) 36,.blk bp (HE u v false) 58,.blk bf (bL f) 138]
   (fun v' Wr=>v' = .tuple #[]∧Wr=[.blk bt (GV (Kf.K2.pa T Q)) 36,.blk bp (HE u v false) 58,.blk bf (bL (Kf.T12.mul f (Kf.T12.lin P T Q))) 138]):=by
  intro T f bt bp bf
  rw[← e1];exact cl T f bt bp bf
 repeat (first|refine Kv ?_|(refine cL ?_;intro _)|refine y_4 h1 ?_|refine y_4 h2 ?_|refine OX ?_|refine Z81 fun _=>?_|refine Z82 fun _=>?_)
 rename_i p2 p3 p4
 refine CA (fun a b=>[(2,pt p2 0),(3,pt p3 0),(4,pt p4 0),(6,pt a 0),(7,pt b 0)]) (fun a b=>[.blk a (bL (Kf.T12.mil P Q (xBk 0)).1) 138,.blk b (GV (Kf.T12.mil P Q (xBk 0)).2) 36,.blk p4 (LV .u64 (List.replicate 72 0)) 138,.blk p3 (GE x1 y1 false) 36,.blk p2 (HE u v false) 58]) (fun p6 p7=>?_) (fun hK=>?_)
 case refine_2=>
  refine R.af [0,1,2,3,4,5,6] (by rfl) ?_
  repeat' (first|(refine R.Zpf (by rfl) (by intro _ _ _;(first|refine Z01 ?_|refine Z02 ?_|refine Z16 ?_|refine Z17 ?_|refine Z18 ?_|refine Z40 ?_|refine Z42 ?_|refine Z48 ?_|refine Z49 ?_|refine Z50 ?_|refine Z54 ?_|refine Z71 ?_);exact Zq) ?_)|refine aL ?_|refine yK ?_|refine ag h3 ?_|refine ag h4 ?_|refine aA ?_|refine rY ?_|refine C7 ?_|(refine R.FJ (R.Mks.mk (R.Mk.mk' (by rfl) (by intro _ _ _;refine aq (v:=LV .u64 (List.replicate 72 0)) (by rfl) (by rfl) fun _=>?_;first|exact R.iD|exact R.dO|exact R.iE)) (fun _=>?_)) (R.Mks.mk (R.Mk.mk' (by rfl) (by intro _ _ _;refine aq (E:=36) (v:=GL (List.replicate 24 0) false) (by kernel_rfl) (by rfl) fun _=>?_;first|exact R.iD|exact R.dO|exact R.iE)) (fun _=>?_)))|(refine uh ?_;intro _)|(refine J1 ?_;intro _)|(refine aV ?_;intro _))
  all_goals refine R.Zp0 ?_
  all_goals exact dY sbq (by rw[← e0',← e0];exact sw) (hK _ _)
 case refine_1=>
  repeat (first|refine OX ?_|refine Z81 fun _=>?_|refine Z82 fun _=>?_)
  refine ay (ι:=Nat) (fun i=>i≤63) (fun i=>[(2,pt p2 0),(3,pt p3 0),(4,pt p4 0),(6,pt p6 0),(7,pt p7 0),(8,.func (.func 140) #[] #[pt p7 0,pt p2 0,pt p6 0]),(9,.int .i64 (62-(i:Int)))])
   (fun i=>[.blk p6 (bL (Kf.T12.mil P Q (xBk i)).1) 138,.blk p7 (GV (Kf.T12.mil P Q (xBk i)).2) 36,.blk p4 (LV .u64 (List.replicate 72 0)) 138,.blk p3 (GE x1 y1 false) 36,.blk p2 (HE u v false) 58]) (fun i=>63-i) 0 (by omega) sbq sw ?_
  intro i hi
  repeat (first|refine se ?_|refine Z81 fun _=>?_|refine Z82 fun _=>?_)
  refine ao (by rfl) (fun hc=>?_) (fun hc=>?_)
  ·have hc':(0:Int)≤62-(i:Int):=hc
   obtain⟨k,hk⟩:∃k,i+k=62:=⟨62-i,by omega⟩
   rw[show(62-(i:Int))=Int.ofNat k by show _=(k:Int);omega]
   have hs:=Uv (P:=P) (Q:=Q) (i:=i) (by omega)
   rw[show 62-i=k by omega]at hs
   have hbt:=W3 k (by omega)
   generalize Kf.T12.mil P Q (xBk i)=s at hs ⊢
   obtain⟨f,T⟩:=s
   have m1:=jb f f
   have c1:=cs T (Kf.T12.mul f f)
   have c2:=cl (Kf.K2.pa T T) (Kf.T12.mul (Kf.T12.mul f f) (Kf.T12.lin P T T))
   simp only[Kf.T12.mst]at hs ⊢
   repeat (first|refine f9 ?_|refine y_4 m1 ?_|refine r9 ?_|refine dM ?_|(refine ax (by rfl) (by rfl) (by rfl) (c1 _ _ _) (.cons fd (.cons fd (.cons fd .nil))) (fun _ _=>trivial) (by rfl) ?_;rintro _ _ ⟨rfl,rfl⟩)|refine ie (by rfl) (by rfl) (show k≤64 by omega) (by rfl) ?_|rw[hbt]|refine se ?_|refine Z81 fun _=>?_|refine Z82 fun _=>?_)
   refine ao (by rfl) (fun hb=>?_) (fun hb=>?_)
   ·have hb2:Nat.testBit xN k=false:=by
     cases hq:Nat.testBit xN k
     ·rfl
     ·rw[hq]at hb;exact absurd hb (by decide)
    rw[hb2]at hs
    repeat (first|refine se ?_|refine Z81 fun _=>?_|refine Z82 fun _=>?_)
    refine ap (i+1) (by omega) (by omega) ?_ (by rw[hs];exact sw)
    rw[show(62-((i+1:Nat):Int))=Int.ofNat k-Int.ofNat 1 by show _=(k:Int)-1;omega]
    exact sbq
   ·have hb2:Nat.testBit xN k=true:=by
     cases hq:Nat.testBit xN k
     ·rw[hq]at hb;exact absurd rfl hb
     ·rfl
    rw[hb2]at hs
    repeat (first|refine dM ?_|(refine ax (by rfl) (by rfl) (by rfl) (c2 _ _ _) (.cons fd (.cons fd (.cons fd .nil))) (fun _ _=>trivial) (by rfl) ?_;rintro _ _ ⟨rfl,rfl⟩)|refine se ?_|refine Z81 fun _=>?_|refine Z82 fun _=>?_)
    refine ap (i+1) (by omega) (by omega) ?_ (by rw[hs];exact sw)
    rw[show(62-((i+1:Nat):Int))=Int.ofNat k-Int.ofNat 1 by show _=(k:Int)-1;omega]
    exact sbq
  ·have hc':¬(0:Int)≤62-(i:Int):=hc
   have hi':i=63:=by omega
   subst hi'
   rw[SN]
   have m1:=jF (Kf.T12.mil P Q xB).1
   have hE:=be (Kf.T12.conj (Kf.T12.mil P Q xB).1)
   repeat (first|refine f9 ?_|refine y_4 m1 ?_|refine jP ?_|refine Z01 ?_|refine Z02 ?_|refine Z03 ?_|refine Z04 ?_|refine Z05 ?_|refine Z06 ?_|refine Z07 ?_|refine Z08 ?_|refine Z09 ?_|refine Z10 ?_|refine Z11 ?_|refine Z12 ?_|refine Z13 ?_|refine Z14 ?_|refine Z16 ?_|refine Z17 ?_|refine Z18 ?_|refine Z24 ?_|refine Z26 ?_|refine Z27 ?_|refine Z29 ?_|refine Z30 ?_|refine Z31 ?_|refine Z32 ?_|refine Z40 ?_|refine Z42 ?_|refine Z48 ?_|refine Z49 ?_|refine Z50 ?_|refine Z51 ?_|refine Z52 ?_|refine Z54 ?_|refine Z67 ?_|refine Z71 ?_|refine Z81 fun _=>?_|refine Z82 fun _=>?_)
   repeat (first|with_reducible refine de ?_|refine se ?_|refine Z81 fun _=>?_|refine Z82 fun _=>?_)
   refine aJ (by rfl) (by rfl) (by rfl) fd (by rfl) (by rfl) (by first | with_reducible assumption | (simp[*];done)) fun _ hw=>aa hw SubW.nil ⟨?_,rfl⟩
   rfl
theorem Ag{P Q:Kf.K2.Pt p}(hP:Kf.K2.Onc c4 P)(hR:Kf.K2.Rl P)(hQ:Kf.K2.Onc b2c Q):Spec Tryz.prog 127 [HV P,GV Q] ai [] (IsV (.tuple [bL (Kf.T12.conj (Kf.T12.mil P Q xB).1),N .i64 0].toArray)):=by
 by_cases n1:P=none
 ·have h:=qX hP hR hQ (.inl n1)
  subst n1
  rw[D8,Kf.T12.fW];exact h
 by_cases n2:Q=none
 ·have h:=qX hP hR hQ (.inr n2)
  subst n2
  rw[D9,Kf.T12.fW];exact h
 exact Ae hP hR hQ n1 n2
end
section
attribute [local irreducible] Code.wp wpList Af bodyPost L.Go ab
open Num
attribute [local simp] ae
attribute [local irreducible] Kf.T12.mul Kf.T12.one Kf.T12.conj Kf.T12.inv CR.pw frI
attribute [local irreducible] bi gh
def hW(P:Kf.K2.Pt p):List Value:=(Q6 (gx P).re++Q6 (gy P).re).map (N .u64)++[Value.bool (gi P)]
def gW(P:Kf.K2.Pt p):List Value:=(E2 (gx P)++E2 (gy P)).map (N .u64)++[Value.bool (gi P)]
theorem To(P:Kf.K2.Pt p):HV P=AV (hW P):=FE _ _
theorem Tm(P:Kf.K2.Pt p):GV P=AV (gW P):=FE _ _
theorem QW(P:Kf.K2.Pt p):(hW P).length=13:=by simp[hW]
theorem QQ(P:Kf.K2.Pt p):(gW P).length=25:=by simp[gW]
def hWs(l:List (Kf.K2.Pt p)):List (List Value):=l.map hW
def gWs(l:List (Kf.K2.Pt p)):List (List Value):=l.map gW
theorem pB(l:List (Kf.K2.Pt p)):∀v∈hWs l,v.length=13:=by
 intro v hv
 obtain⟨x,_,rfl⟩:=List.mem_map.1 hv
 exact QW x
theorem pA(l:List (Kf.K2.Pt p)):∀v∈gWs l,v.length=25:=by
 intro v hv
 obtain⟨x,_,rfl⟩:=List.mem_map.1 hv
 exact QQ x
theorem iT{m:Nat}{xss:List (List Value)}(h:∀v∈xss,v.length=m):xss.flatten.length=xss.length*m:=by
 induction xss with
 | nil=>simp
 | cons x r ih=>
  rw[List.flatten_cons,List.length_append,h x (by simp),ih fun v hv=>h v (by simp[hv]),List.length_cons,Nat.succ_mul,Nat.add_comm]
theorem w9(l:List (Kf.K2.Pt p)):(hWs l).flatten.length=l.length*13:=by rw[iT (pB l)];unfold hWs;rw[List.length_map]
theorem G7(l:List (Kf.K2.Pt p)):(gWs l).flatten.length=l.length*25:=by rw[iT (pA l)];unfold gWs;rw[List.length_map]
theorem Ll{l:List (Kf.K2.Pt p)}{i:Nat}{P:Kf.K2.Pt p}(h:l[i]?=some P):(hWs l)[i]?=some (hW P):=by unfold hWs;rw[List.getElem?_map,h];rfl
theorem Lg{l:List (Kf.K2.Pt p)}{i:Nat}{P:Kf.K2.Pt p}(h:l[i]?=some P):(gWs l)[i]?=some (gW P):=by unfold gWs;rw[List.getElem?_map,h];rfl
def Ok1(P:Kf.K2.Pt p):Prop:=Kf.K2.Onc c4 P∧Kf.K2.Rl P∧Kf.K2.tim P 52435875175126190479447740508185965837690552500527637822603658699938581184513=none
def Ok2(Q:Kf.K2.Pt p):Prop:=Kf.K2.Onc b2c Q∧Kf.K2.tim Q 52435875175126190479447740508185965837690552500527637822603658699938581184513=none
def ec:List (Kf.K2.Pt p)→List (Kf.K2.Pt p)→F12→F12
 | P::ps,Q::qs,f=>ec ps qs (bi [f,Kf.T12.conj (Kf.T12.mil P Q xB).1])
 | _,_,f=>f
theorem HM:∀{ps qs:List (Kf.K2.Pt p)}{i:Nat}{P Q:Kf.K2.Pt p}(f:F12),ps[i]?=some P→qs[i]?=some Q→ec (ps.take (i+1)) (qs.take (i+1)) f=bi [ec (ps.take i) (qs.take i) f,Kf.T12.conj (Kf.T12.mil P Q xB).1]
 | [],_,_,_,_,_,h,_=>by simp at h
 | _::_,[],_,_,_,_,_,h=>by simp at h
 | p0::ps,q0::qs,0,P,Q,f,h1,h2=>by
  simp at h1 h2
  subst h1;subst h2
  simp[ec]
 | p0::ps,q0::qs,i+1,P,Q,f,h1,h2=>by
  simp at h1 h2
  simp only[List.take_succ_cons,ec]
  exact HM _ h1 h2
end
end Go.Proofs.YtndhfbecpghinaaGreat.L
namespace Go.Proofs.YtndhfbecpghinaaGreat.L.Kf
open Pr
namespace K2
def qA{α:Type}(T:PN)(a:α):α:=cond (Nat.beq (T.1+T.2) 0) a a
theorem sX{α:Type}(T:PN)(a:α):qA T a=a:=by
 unfold qA
 cases Nat.beq (T.1+T.2) 0 <;> rfl
def pgo(N:Nat)(a:PN)(k:Nat):Nat→PN→PN
 | 0,S=>S
 | f+1,S=>(fun T=>qA T (pgo N a k f T)) (cond (Nat.beq (k/2^f%2) 1) (aO N (aO N S S) a) (aO N S S))
theorem NC(k f m:Nat):m*2^(f+1)+k%2^(f+1)=(m+m+k/2^f%2)*2^f+k%2^f:=by
 have hk:k%2^(f+1)=2^f*(k/2^f%2)+k%2^f:=by rw[Nat.pow_succ,Nat.mod_mul,Nat.add_comm]
 rw[hk,Nat.pow_succ,Nat.add_mul,Nat.add_mul,Nat.mul_comm (2^f) 2,← Nat.mul_assoc,Nat.mul_two,Nat.add_mul,Nat.mul_comm (2^f)]
 simp only[Nat.add_assoc]
section
variable {n:Nat} [NeZero n]
attribute [local irreducible] add mul sub neg zero one inv aO bY dq
theorem Iq(h0:0<n)(a:PN)(k:Nat):∀(f:Nat)(S:PN)(m:Nat),red n S=pw (red n a) m→red n (pgo n a k f S)=pw (red n a) (m*2^f+k%2^f)
 | 0,S,m,h=>by rw[Nat.pow_zero,Nat.mod_one,Nat.mul_one,Nat.add_zero];exact h
 | f+1,S,m,h=>by
  have hn:=Nat.dvd_refl n
  rw[NC]
  show red n (qA _ _)=_
  rw[sX]
  refine Iq h0 a k f _ _ ?_
  rcases Nat.mod_two_eq_zero_or_one (k/2^f)with h1 | h1
  ·rw[h1]
   show red n (aO n S S)=_
   rw[cZ hn h0,h,← dP,Nat.add_zero]
  ·rw[h1]
   show red n (aO n (aO n S S) a)=_
   rw[cZ hn h0,cZ hn h0,h,← dP,pw]
theorem RR(h0:0<n)(a:PN){k f:Nat}(hk:k<2^f):pw (red n a) k=red n (pgo n a k f vp):=by
 have:=Iq h0 a k f vp 0 (by rw[vI];rfl)
 rw[this,Nat.zero_mul,Nat.zero_add,Nat.mod_eq_of_lt hk]
end
end K2
namespace T12
open K2 (PN bY dq aO red vp dR isz ltP Pt pa f6 dZ cx cy)
structure S12 where
 a:PN
 b:PN
 c:PN
 d:PN
 e:PN
 f:PN
def xiP:PN:=(1,1)
def dU(N:Nat)(x y:S12):S12:=
  ⟨bY N (aO N x.a y.a) (aO N xiP (bY N (bY N (bY N (aO N x.b y.f) (aO N x.f y.b)) (bY N (aO N x.c y.e) (aO N x.e y.c))) (aO N x.d y.d))),
   bY N (bY N (aO N x.a y.b) (aO N x.b y.a)) (aO N xiP (bY N (bY N (aO N x.c y.f) (aO N x.f y.c)) (bY N (aO N x.d y.e) (aO N x.e y.d)))),
   bY N (bY N (aO N x.a y.c) (bY N (aO N x.c y.a) (aO N x.b y.b))) (aO N xiP (bY N (bY N (aO N x.d y.f) (aO N x.f y.d)) (aO N x.e y.e))),
   bY N (bY N (bY N (aO N x.a y.d) (aO N x.d y.a)) (bY N (aO N x.b y.c) (aO N x.c y.b))) (aO N xiP (bY N (aO N x.e y.f) (aO N x.f y.e))),
   bY N (bY N (bY N (aO N x.a y.e) (aO N x.e y.a)) (bY N (bY N (aO N x.b y.d) (aO N x.d y.b)) (aO N x.c y.c))) (aO N xiP (aO N x.f y.f)),
   bY N (bY N (bY N (aO N x.a y.f) (aO N x.f y.a)) (bY N (aO N x.b y.e) (aO N x.e y.b))) (bY N (aO N x.c y.d) (aO N x.d y.c))⟩
def fO{α:Type}(T:S12)(a:α):α:=cond (Nat.beq (T.a.1+T.a.2+T.b.1+T.b.2+T.c.1+T.c.2+T.d.1+T.d.2+T.e.1+T.e.2+T.f.1+T.f.2) 0) a a
theorem fx{α:Type}(T:S12)(a:α):fO T a=a:=by
 unfold fO
 generalize Nat.beq _ 0=b
 cases b <;> rfl
def mX(N:Nat)(a:S12)(k:Nat):Nat→S12→S12
 | 0,S=>S
 | f+1,S=>(fun T=>fO T (mX N a k f T)) (cond (Nat.beq (k/2^f%2) 1) (dU N (dU N S S) a) (dU N S S))
def jJ:S12:=⟨vp,dR,dR,dR,dR,dR⟩
def qf(N:Nat)(x:PN):PN:=(x.1,N-x.2%N)
def Eh(N:Nat)(x:PN):PN:=dq N dR x
def qe(N:Nat)(x:S12):S12:=⟨x.a,Eh N x.b,x.c,Eh N x.d,x.e,Eh N x.f⟩
def GW(N:Nat)(g g2 g3 g4 g5:PN)(x:S12):S12:=
 ⟨qf N x.a,aO N (qf N x.b) g,aO N (qf N x.c) g2,aO N (qf N x.d) g3,aO N (qf N x.e) g4,aO N (qf N x.f) g5⟩
structure MS where
 g:Bool
 x:PN
 y:PN
 z:S12
def ivP(N:Nat)(x:PN):PN:=(fun d=>(x.1*d%N,(N-x.2%N)*d%N)) (pm N 381 ((x.1*x.1+x.2*x.2)%N) (N-2))
def LK(N:Nat)(l x y u v:PN):S12:=⟨dq N (aO N l x) y,dR,Eh N (aO N l u),v,dR,dR⟩
def goM(N:Nat)(u v:PN)(S:MS)(f:S12)(num den qx:PN):MS:=
 (fun l=>K2.qA l ((fun z=>fO z ⟨S.g&&(isz (dq N (aO N l den) num) && !isz den),dq N (dq N (aO N l l) S.x) qx,dq N (aO N l (dq N S.x (dq N (dq N (aO N l l) S.x) qx))) S.y,z⟩) (dU N f (LK N l S.x S.y u v)))) (aO N num (ivP N den))
def DI(N:Nat)(u v:PN)(S:MS):MS:=
 goM N u v S (dU N S.z S.z) (bY N (bY N (aO N S.x S.x) (aO N S.x S.x)) (aO N S.x S.x)) (bY N S.y S.y) S.x
def PX(N:Nat)(u v qx qy:PN)(S:MS):MS:=
 goM N u v S S.z (dq N qy S.y) (dq N qx S.x) qx
def stM(N:Nat)(u v qx qy:PN)(S:MS)(t:Bool):MS:=bif t then PX N u v qx qy (DI N u v S)else DI N u v S
def nS{α:Type}(T:MS)(a:α):α:=cond (Nat.beq (T.x.1+T.x.2+T.y.1+T.y.2) 0) (fO T.z (cond T.g a a)) (fO T.z (cond T.g a a))
theorem sW{α:Type}(T:MS)(a:α):nS T a=a:=by
 unfold nS
 rw[fx]
 generalize Nat.beq _ 0=b
 cases b <;> cases T.g <;> rfl
def Ad(N:Nat)(u v qx qy:PN):List Bool→MS→MS
 | [],S=>S
 | t::l,S=>(fun T=>nS T (Ad N u v qx qy l T)) (stM N u v qx qy S t)
section
variable {n:Nat} [NeZero n]
def bB(n:Nat)[NeZero n](x:S12):T12 n:=⟨⟨red n x.a,red n x.c,red n x.e⟩,⟨red n x.b,red n x.d,red n x.f⟩⟩
theorem R5:red n xiP=K2.xi:=K2.ext' κ_1 κ_1
theorem IR(h0:0<n)(x:PN):red n (qf n x)=K2.conj (red n x):=K2.ext' rfl (K2.pQ (Nat.dvd_refl n) h0 x.2)
theorem Co(h0:0<n)(x:PN):red n (Eh n x)=K2.neg (red n x):=by
 rw[Eh,K2.dX (Nat.dvd_refl n) h0,K2.kj]
 exact K2.ext' (show(0:Fin n)-κ n x.1 = -κ n x.1 by grind) (show(0:Fin n)-κ n x.2 = -κ n x.2 by grind)
attribute [local irreducible] K2.add K2.mul K2.sub K2.neg K2.zero K2.one K2.inv K2.xi K2.conj K2.aO K2.bY K2.dq mul one conj
theorem tE:bB n jJ=one:=by
 unfold one
 show(⟨⟨red n vp,red n dR,red n dR⟩,⟨red n dR,red n dR,red n dR⟩⟩:T12 n)=_
 rw[K2.vI,K2.kj];rfl
theorem dd(h0:0<n)(x y:S12):bB n (dU n x y)=mul (bB n x) (bB n y):=by
 have hn:=Nat.dvd_refl n
 show _=mul ⟨⟨_,_,_⟩,⟨_,_,_⟩⟩ ⟨⟨_,_,_⟩,⟨_,_,_⟩⟩
 rw[vg]
 unfold bB dU
 simp only[K2.kK hn,K2.cZ hn h0,R5]
theorem rv(h0:0<n)(x:S12):bB n (qe n x)=conj (bB n x):=by
 unfold conj bB qe T6.neg
 simp only[Co h0]
theorem EC(h0:0<n)(g:PN)(g2 g3 g4 g5:PN)(h2:red n g2=K2.pw (red n g) 2)(h3:red n g3=K2.pw (red n g) 3)(h4:red n g4=K2.pw (red n g) 4)(h5:red n g5=K2.pw (red n g) 5)(x:S12):
  bB n (GW n g g2 g3 g4 g5 x)=frb (red n g) (bB n x):=by
 have hn:=Nat.dvd_refl n
 unfold frb bB GW
 simp only[K2.cZ hn h0,IR h0,h2,h3,h4,h5]
theorem xH(h0:0<n)(a:S12)(k:Nat):∀(f:Nat)(S:S12)(m:Nat),bB n S=CR.pw (bB n a) m→bB n (mX n a k f S)=CR.pw (bB n a) (m*2^f+k%2^f)
 | 0,S,m,h=>by rw[Nat.pow_zero,Nat.mod_one,Nat.mul_one,Nat.add_zero];exact h
 | f+1,S,m,h=>by
  rw[K2.NC]
  show bB n (fO _ _)=_
  rw[fx]
  refine xH h0 a k f _ _ ?_
  rcases Nat.mod_two_eq_zero_or_one (k/2^f)with h1 | h1
  ·rw[h1]
   show bB n (dU n S S)=_
   rw[dd h0,h,Nat.add_zero]
   exact(CR.dP _ m m).symm
  ·rw[h1]
   show bB n (dU n (dU n S S) a)=_
   rw[dd h0,dd h0,h,CR.kW,CR.dP];rfl
theorem na(h0:0<n)(a:S12){k f:Nat}(hk:k<2^f):CR.pw (bB n a) k=bB n (mX n a k f jJ):=by
 have:=xH h0 a k f jJ 0 (by rw[tE];rfl)
 rw[this,Nat.zero_mul,Nat.zero_add,Nat.mod_eq_of_lt hk]
theorem R2(h0:0<n)(l x y u v:PN):bB n (LK n l x y u v)=ln (red n l) (red n x) (red n y) (red n u) (red n v):=by
 have hn:=Nat.dvd_refl n
 unfold ln bB LK
 simp only[K2.dX hn h0,K2.cZ hn h0,Co h0,K2.kj]
theorem Qs(hp:P3 n){l x y u v:K2 n}(h:K2.mul l (K2.add y y)=K2.q3 x x)(hd:K2.add y y≠K2.zero):
  lin (some (u,v)) (some (x,y)) (some (x,y))=ln l x y u v∧pa (some (x,y)) (some (x,y))=some (cx l x x,cy l x y x):=by
 have hy:y≠K2.zero:=fun e=>hd (by rw[e,K2.add_zero'])
 have ht:f6 x y=l:=K2.du hp hd h
 constructor
 ·show(if x=x then if y=y∧y≠K2.zero then _ else _ else _)=_
  rw[if_pos rfl,if_pos ⟨rfl,hy⟩,ht]
 ·show(if x=x then if y=y∧y≠K2.zero then _ else _ else _)=_
  rw[if_pos rfl,if_pos ⟨rfl,hy⟩,ht]
theorem PY(hp:P3 n){l x y a b u v:K2 n}(h:K2.mul l (K2.sub a x)=K2.sub b y)(hd:K2.sub a x≠K2.zero):
  lin (some (u,v)) (some (x,y)) (some (a,b))=ln l x y u v∧pa (some (x,y)) (some (a,b))=some (cx l x a,cy l x y a):=by
 have hx:x≠a:=fun e=>hd (by rw[e,K2.aZ])
 have hc:dZ x y a b=l:=K2.du hp hd h
 constructor
 ·show(if x=a then _ else _)=_
  rw[if_neg hx,hc]
 ·show(if x=a then _ else _)=_
  rw[if_neg hx,hc]
def Std(S:MS)(s:T12 n×Pt n):Prop:=s=(bB n S.z,some (red n S.x,red n S.y))
theorem Hd(N:Nat)(u v:PN)(S:MS)(f:S12)(num den qx:PN):goM N u v S f num den qx=⟨S.g&&(isz (dq N (aO N (aO N num (ivP N den)) den) num) && !isz den),dq N (dq N (aO N (aO N num (ivP N den)) (aO N num (ivP N den))) S.x) qx,dq N (aO N (aO N num (ivP N den)) (dq N S.x (dq N (dq N (aO N (aO N num (ivP N den)) (aO N num (ivP N den))) S.x) qx))) S.y,dU N f (LK N (aO N num (ivP N den)) S.x S.y u v)⟩:=
 (K2.sX _ _).trans (fx _ _)
theorem BI{N:Nat}{u v:PN}{S:MS}{f:S12}{num den qx:PN}(h:(goM N u v S f num den qx).g=true):S.g=true:=by
 rw[Hd]at h
 change (S.g&&_)=true at h
 rw[Bool.and_eq_true]at h
 exact h.1
theorem He(h0:0<n){u v:PN}{S:MS}{f:S12}{num den qx:PN}(hl:ltP n den)(h:(goM n u v S f num den qx).g=true):
  ∃l:K2 n,K2.mul l (red n den)=red n num∧red n den≠K2.zero∧bB n (goM n u v S f num den qx).z=mul (bB n f) (ln l (red n S.x) (red n S.y) (red n u) (red n v)) ∧
   red n (goM n u v S f num den qx).x=cx l (red n S.x) (red n qx)∧red n (goM n u v S f num den qx).y=cy l (red n S.x) (red n S.y) (red n qx):=by
 have hn:=Nat.dvd_refl n
 refine⟨red n (aO n num (ivP n den)),?_⟩
 rw[Hd]at h ⊢
 change (S.g&&(isz _ && !isz den))=true at h
 rw[Bool.and_eq_true,Bool.and_eq_true,Bool.not_eq_true']at h
 generalize aO n num (ivP n den)=l at h ⊢
 refine⟨?_,?_,?_,?_,?_⟩
 ·have e:=(K2.dV (K2.jo h0 _ _)).1 h.2.1
  rw[K2.dX hn h0,K2.cZ hn h0]at e
  exact K2.aE e
 ·intro e
  rw[(K2.dV hl).2 e]at h
  exact absurd h.2.2 (by decide)
 ·show bB n (dU n _ _)=_
  rw[dd h0,R2 h0]
 ·show red n (dq n _ _)=_
  simp only[K2.dX hn h0,K2.cZ hn h0,cx]
 ·show red n (dq n _ _)=_
  simp only[K2.dX hn h0,K2.cZ hn h0,cx,cy]
theorem U8{N:Nat}{u v qx qy:PN}{S:MS}{t:Bool}(h:(stM N u v qx qy S t).g=true):S.g=true:=by
 cases t with
 | false=>exact BI h
 | true=>exact BI (BI (S:=DI N u v S) h)
theorem Bq(hp:P3 n){u v:PN}{S:MS}{s:T12 n×Pt n}(hs:Std S s)(h:(DI n u v S).g=true):
  Std (DI n u v S) (mul (mul s.1 s.1) (lin (some (red n u,red n v)) s.2 s.2),pa s.2 s.2):=by
 have h0:=hp.1.pos
 have hn:=Nat.dvd_refl n
 rw[hs]
 obtain⟨l,e1,e2,e3,e4,e5⟩:=He h0 (K2.Ab h0 _ _) h
 rw[K2.kK hn]at e1 e2
 rw[K2.kK hn,K2.kK hn,K2.cZ hn h0]at e1
 rw[dd h0]at e3
 obtain⟨d1,d2⟩:=Qs (u:=red n u) (v:=red n v) hp (x:=red n S.x) (y:=red n S.y) e1 e2
 show((mul (mul _ _) (lin _ (some (_,_)) (some (_,_))),pa (some (_,_)) (some (_,_))):T12 n×Pt n)=(bB n (goM _ _ _ _ _ _ _ _).z,some (red n (goM _ _ _ _ _ _ _ _).x,red n (goM _ _ _ _ _ _ _ _).y))
 rw[d1,d2,e3,e4,e5]
theorem KT(hp:P3 n){u v qx qy:PN}{S:MS}{s:T12 n×Pt n}(hs:Std S s)(h:(PX n u v qx qy S).g=true):
  Std (PX n u v qx qy S) (mul s.1 (lin (some (red n u,red n v)) s.2 (some (red n qx,red n qy))),pa s.2 (some (red n qx,red n qy))):=by
 have h0:=hp.1.pos
 have hn:=Nat.dvd_refl n
 rw[hs]
 obtain⟨l,e1,e2,e3,e4,e5⟩:=He h0 (K2.jo h0 _ _) h
 rw[K2.dX hn h0]at e1 e2
 rw[K2.dX hn h0]at e1
 obtain⟨d1,d2⟩:=PY (u:=red n u) (v:=red n v) hp (x:=red n S.x) (y:=red n S.y) e1 e2
 show((mul _ (lin _ (some (_,_)) (some (_,_))),pa (some (_,_)) (some (_,_))):T12 n×Pt n)=(bB n (goM _ _ _ _ _ _ _ _).z,some (red n (goM _ _ _ _ _ _ _ _).x,red n (goM _ _ _ _ _ _ _ _).y))
 rw[d1,d2,e3,e4,e5]
theorem Sm(hp:P3 n){u v qx qy:PN}{S:MS}{s:T12 n×Pt n}(hs:Std S s){t:Bool}(h:(stM n u v qx qy S t).g=true):
  Std (stM n u v qx qy S t) (mst (some (red n u,red n v)) (some (red n qx,red n qy)) s t):=by
 cases t with
 | false=>exact Bq hp hs h
 | true=>exact KT hp (Bq hp hs (BI (S:=DI n u v S) h)) h
theorem HJ{N:Nat}{u v qx qy:PN}:∀(l:List Bool)(S:MS),(Ad N u v qx qy l S).g=true→S.g=true
 | [],_,h=>h
 | t::l,S,h=>by
  change MS.g (nS _ _)=true at h
  rw[sW]at h
  exact U8 (HJ l _ h)
theorem B0(hp:P3 n){u v qx qy:PN}:∀(l:List Bool)(S:MS)(s:T12 n×Pt n),Std S s→(Ad n u v qx qy l S).g=true →
  Std (Ad n u v qx qy l S) (l.foldl (mst (some (red n u,red n v)) (some (red n qx,red n qy))) s)
 | [],_,_,hs,_=>hs
 | t::l,S,s,hs,h=>by
  change MS.g (nS _ _)=true at h
  change Std (nS _ _) _
  rw[sW]at h ⊢
  exact B0 hp l _ _ (Sm hp hs (HJ l _ h)) h
theorem HK(hp:P3 n){u v qx qy:PN}{l:List Bool}(h:(Ad n u v qx qy l ⟨true,qx,qy,jJ⟩).g=true):
  (mil (some (red n u,red n v)) (some (red n qx,red n qy)) l).1=bB n (Ad n u v qx qy l ⟨true,qx,qy,jJ⟩).z:=
 congrArg Prod.fst (B0 hp l ⟨true,qx,qy,jJ⟩ (one,some (red n qx,red n qy)) (by rw[Std,tE]) h)
end
end T12
end Go.Proofs.YtndhfbecpghinaaGreat.L.Kf
namespace Go.Proofs.YtndhfbecpghinaaGreat.L
open Go Go.Proofs
set_option maxRecDepth 100000
section
attribute [local irreducible] Code.wp wpList Af bodyPost L.Go
open Num
theorem pm2:Nat.beq (Pr.pm p 381 2 ((p-1)/3)) 1=false:=by decide +kernel
theorem Mc:(Kf.K2.bV (Kf.K2.xi:F2))^((p-1)/3)≠1:=by
 intro h
 have e:Kf.K2.bV (Kf.K2.xi:F2)=kp 2:=by decide +kernel
 have h0:=pm2
 have h1:=Pr.tA p 381 2 _ Cb
 rw[e]at h
 generalize (p-1)/3=k at h h0 h1
 rw[mG,h,we]at h1
 rw[h1]at h0
 exact absurd h0 (by decide)
theorem sE:Kf.T6.Tw p where
 p3:=p_3
 cu _ h:=Kf.K2.pD p_3 (by decide +kernel) (by decide +kernel) Mc h
 sq t h:=by
  have h1:Kf.K2.gw (Kf.K2.xi:F2)=true:=(Kf.K2.eX p_3).2 ⟨t,h⟩
  rw[Kf.K2.fB p_3,show Kf.K2.bV (Kf.K2.xi:F2)=kp 2 by decide +kernel,Un]at h1
  exact absurd h1 (by decide)
 m6:=by decide +kernel
def m6:Nat:=(p-1)/6
theorem hm6:p=6*m6+1:=by decide +kernel
def gKp:Kf.K2.PN:=(0x1904d3bf02bb0667c231beb4202c0d1f0fd603fd3cbd5f4f7b2443d784bab9c4f67ea53d63e7813d8d0775ed92235fb8,0x00fc3e2b36c4e03288e9e902231f9fb854a14787b6c7b36fec0c8ec971f63c5f282d5ac14d6c7ec22cf78a126ddc4af3)
theorem G6:gK=Kf.K2.red p gKp:=by decide +kernel
theorem QP:Kf.K2.pgo p (1,1) m6 379 Kf.K2.vp=gKp:=by decide +kernel
theorem G5:gK=Kf.K2.pw Kf.K2.xi m6:=by
 have h:=Kf.K2.RR (n:=p) bX (1,1) (k:=m6) (f:=379) (by decide +kernel)
 rw[QP,← G6]at h
 rw[← h]
 congr 1
def gI:F2:=k2 877076961050607968509681729531255177986764537961432449499635504522207616027455086505066378536590128544573588734230 877076961050607968509681729531255177986764537961432449499635504522207616027455086505066378536590128544573588734230
theorem gK3:Kf.K2.pw (Kf.K2.mul (Kf.K2.conj gK) gK) 3=Kf.K2.neg (Kf.K2.one:F2):=by decide +kernel
theorem h3p:Kf.K2.pw (Kf.K2.mul (Kf.K2.conj (Kf.K2.pw Kf.K2.xi m6)) (Kf.K2.pw Kf.K2.xi m6)) 3=Kf.K2.neg (Kf.K2.one:F2):=by rw[← G5];exact gK3
theorem rp:Kf.T12.Ps b2c c4 gK gI m6 where
 tw:=sE
 hb:=by decide +kernel
 n2:=no2
 n4:=n4
 nb:=FQ
 hm:=hm6
 hg:=G5
 gi:=by decide +kernel
 rc:=by decide +kernel
 h3:=h3p
def p6:Nat:=p*p*(p*p)*(p*p)
def aN:Nat:=V [10088250816726084267,4137836090706223446]
def nN:Nat:=(p*p+1)*(aN*(xN*p6+p)*(xN*xN+p*p+p6)+1)
def rN:Nat:=52435875175126190479447740508185965837690552500527637822603658699938581184513
theorem H3:p*p*(p*p)*(p*p)+1∣nN*rN:=Nat.dvd_of_mod_eq_zero (by decide +kernel)
theorem HB:Kf.T12.kbs xB=xN:=by decide +kernel
theorem Nk:rN∣Kf.T12.kbs xB+p:=by rw[HB];exact Nat.dvd_of_mod_eq_zero (by decide +kernel)
attribute [local irreducible] Kf.T12.frb Kf.T12.mul Kf.T12.one Kf.T12.conj Kf.T12.inv
theorem pr2(a b:F12):bi [a,b]=Kf.T12.mul a b:=by
 show Kf.T12.mul (Kf.T12.mul Kf.T12.one a) b=_
 rw[Kf.T12.bh]
theorem pr3(a b c:F12):bi [a,b,c]=Kf.T12.mul (Kf.T12.mul a b) c:=by
 show Kf.T12.mul (Kf.T12.mul (Kf.T12.mul Kf.T12.one a) b) c=_
 rw[Kf.T12.bh]
theorem wX(x:F12):frI 1 x=CR.pw x p:=by
 rw[Kf.T12.ru sE hm6,← G5];rfl
theorem GT(x:F12):frI 2 x=CR.pw x (p*p):=by
 rw[CR.bM,← wX,← wX];rfl
theorem Bn(x:F12):Kf.T12.conj x=CR.pw x p6:=(Kf.T12.Ol sE hm6 h3p x).symm
def qH(g:F12):F12:=Kf.T12.mul (frI 2 g) g
def qB(a:F12):F12:=Kf.T12.mul (Kf.T12.conj (CR.pw a xN)) (frI 1 a)
def qC(b:F12):F12:=Kf.T12.mul (Kf.T12.mul (CR.pw (CR.pw b xN) xN) (frI 2 b)) (Kf.T12.conj b)
def wT(g:F12):F12:=Kf.T12.mul (qC (qB (CR.pw (qH g) aN))) (qH g)
theorem pwm(x:F12)(j k:Nat):Kf.T12.mul (CR.pw x j) (CR.pw x k)=CR.pw x (j+k):=(CR.dP x j k).symm
theorem UU(g:F12):qH g=CR.pw g (p*p+1):=by rw[qH,GT];rfl
theorem US(a:F12):qB a=CR.pw a (xN*p6+p):=by rw[qB,Bn,wX,← CR.bM,pwm]
theorem UT(b:F12):qC b=CR.pw b (xN*xN+p*p+p6):=by rw[qC,Bn,GT,← CR.bM,pwm,pwm]
theorem BC(g:F12):wT g=CR.pw g nN:=by
 rw[wT,UT,US,UU,← CR.bM,← CR.bM]
 have e:nN=(p*p+1)*(aN*((xN*p6+p)*(xN*xN+p*p+p6)))+(p*p+1):=by
  unfold nN
  rw[Nat.mul_assoc aN,Nat.mul_add_one]
 rw[← CR.bM,pwm,e]
theorem QH(f:F12):gh f=wT (Kf.T12.qq f):=by
 unfold gh DQ iR lC uP qr wT qC qB qH
 rw[pr2,pr2,pr2,pr2,pr3];rfl
theorem GI(f:F12):gh f=Kf.T12.fin nN f:=by rw[QH,BC];rfl
end
section
attribute [local irreducible] Code.wp wpList Af bodyPost L.Go
open Num
def e4:Kf.K2.Pt p:=some (Kf.K2.red p e4x,Kf.K2.red p e4y)
theorem Uz{M r L B:Nat}(h1:M∣L)(h2:r*r∣L)(hL:L≠0)(hB:L≤B)(h3:B<3*M)(a1:M%(r*r)≠0)(a2:M*2%(r*r)≠0):False:=by
 obtain⟨k,rfl⟩:=h1
 have hk:k<3:=by
  apply Classical.byContradiction
  intro hc
  have:=Nat.mul_le_mul_left M (Nat.le_of_not_lt hc)
  omega
 have hk0:k≠0:=by rintro rfl;exact hL (Nat.mul_zero M)
 have h4:=Nat.mod_eq_zero_of_dvd h2
 rcases(show k=1∨k=2 by omega)with rfl | rfl
 ·rw[Nat.mul_one]at h4;exact a1 h4
 ·exact a2 h4
theorem zM{Q:Kf.K2.Pt p}(h:Ok2 Q):∃i,Q=Kf.K2.tim e4 i:=by
 apply Classical.byContradiction
 intro hn
 obtain⟨L,hL,hlen⟩:=Kf.K2.IF p_3 b2c
 have h2:=Kf.K2.vE p_3 no2 oF h.1 (by intro h;cases h) Pr.pL K9 h.2 (fun i _ e=>hn ⟨i,e⟩) L hL
 have h0:0<L.length:=List.length_pos_of_mem (hL.all (⟨none,trivial⟩:Kf.K2.Cu b2c))
 exact Uz (Cg L hL) h2 (Nat.pos_iff_ne_zero.1 h0) hlen (by decide +kernel) (by decide +kernel) (by decide +kernel)
theorem CW:xN<2^64:=by decide +kernel
theorem Wh:Kf.K2.tim e4 xN=Kf.K2.pn (Kf.K2.psi gI e4):=
 kw (Kf.K2.kQ p_3 no2 NM NN oF CW (by decide +kernel)) (by decide +kernel) (by decide +kernel) (by decide +kernel)
theorem TW:Kf.T12.Eg b2c gI xB e4:=⟨oF,by rw[HB];exact Wh⟩
theorem wN{Q:Kf.K2.Pt p}(h:Ok2 Q):Kf.T12.Eg b2c gI xB Q:=by
 obtain⟨i,rfl⟩:=zM h
 exact Kf.T12.zk rp TW i
def hbX:Kf.K2.PN:=(hbx.val,0)
def hbY:Kf.K2.PN:=(hby.val,0)
theorem sY:bo=some (Kf.K2.red p hbX,Kf.K2.red p hbY):=by
 unfold bo em
 exact Kf.K2.bD (by decide +kernel) (by decide +kernel)
theorem dS:Kf.K2.Onc c4 bo:=show Kf.K2.mul (em hby) (em hby)=Kf.K2.add (Kf.K2.mul (Kf.K2.mul (em hbx) (em hbx)) (em hbx)) c4 by decide +kernel
theorem j5:Kf.K2.Rl bo:=show Kf.K2.conj (em hbx)=em hbx∧Kf.K2.conj (em hby)=em hby by decide +kernel
theorem dw:Kf.T12.Rp c4 bo:=⟨dS,j5⟩
theorem UY:rN<2^255:=by decide +kernel
theorem BM:Kf.K2.tim bo rN=none:=by
 have ho:=dS
 rw[sY]at ho ⊢
 have:=Kf.K2.kQ p_3 n4 (qx:=hbX) (qy:=hbY) (by unfold Kf.K2.ltP;decide +kernel) (by unfold Kf.K2.ltP;decide +kernel) ho UY (by decide +kernel)
 exact this.none_iff.1 (by decide +kernel)
theorem pG(k:Nat):Ok1 (Kf.K2.tim bo k):=
 ⟨Kf.K2.cW p_3 dS k,(Kf.T12.ut rp dw k).2,by
  show Kf.K2.tim _ rN=none
  rw[← Kf.K2.iA p_3 n4 dS,Nat.mul_comm,Kf.K2.iA p_3 n4 dS,BM,Kf.K2.f7]⟩
theorem jr{Q:Kf.K2.Pt p}(h:Ok2 Q)(k:Nat):Ok2 (Kf.K2.tim Q k):=
 ⟨Kf.K2.cW p_3 h.1 k,by rw[← Kf.K2.iA p_3 no2 h.1,Nat.mul_comm,Kf.K2.iA p_3 no2 h.1,h.2,Kf.K2.f7]⟩
theorem RC{Q R:Kf.K2.Pt p}(h:Ok2 Q)(k:Ok2 R):Ok2 (Kf.K2.pa Q R):=
 ⟨Kf.K2.dh p_3 h.1 k.1,by rw[Kf.K2.wb p_3 no2 h.1 k.1,h.2,k.2];rfl⟩
def pr(P Q:Kf.K2.Pt p):F12:=Kf.T12.er nN xB P Q
def gP2:Kf.K2.PN:=(0,4002409555221667392624310435006688643935503118305586438271171395842971157480381377015405980053539358417135540939436)
def gP3:Kf.K2.PN:=(1028732146235106349975324479215795277384839936929757896155643118032610843298655225875571310552543014690878354869257,1028732146235106349975324479215795277384839936929757896155643118032610843298655225875571310552543014690878354869257)
def gP4:Kf.K2.PN:=(4002409555221667392624310435006688643935503118305586438271171395842971157480381377015405980053539358417135540939437,0)
def gP5:Kf.K2.PN:=(877076961050607968509681729531255177986764537961432449499635504522207616027455086505066378536590128544573588734230,3125332594171059424908108096204648978570118281977575435832422631601824034463382777937621250592425535493320683825557)
def zU(x:Kf.T12.S12):Kf.T12.S12:=Kf.T12.GW p gKp gP2 gP3 gP4 gP5 x
theorem ki(x:Kf.T12.S12):Kf.T12.bB p (zU x)=frI 1 (Kf.T12.bB p x):=by
 have h:=Kf.T12.EC (n:=p) bX gKp gP2 gP3 gP4 gP5 (by decide +kernel) (by decide +kernel) (by decide +kernel) (by decide +kernel) x
 rw[← G6]at h
 exact h
def IL(f:Kf.T12.S12):Kf.T12.S12:=Kf.T12.dU p (zU (zU f)) f
def Ms(a:Kf.T12.S12):Kf.T12.S12:=Kf.T12.dU p (Kf.T12.qe p (Kf.T12.mX p a xN 64 Kf.T12.jJ)) (zU a)
def Mt(b:Kf.T12.S12):Kf.T12.S12:=Kf.T12.dU p (Kf.T12.dU p (Kf.T12.mX p (Kf.T12.mX p b xN 64 Kf.T12.jJ) xN 64 Kf.T12.jJ) (zU (zU b))) (Kf.T12.qe p b)
def nP(f:Kf.T12.S12):Kf.T12.S12:=
 (fun h=>Kf.T12.fO h ((fun a=>Kf.T12.fO a ((fun b=>Kf.T12.fO b (Kf.T12.dU p (Mt b) h)) (Ms a))) (Kf.T12.mX p h aN 127 Kf.T12.jJ))) (IL f)
theorem sU(f:Kf.T12.S12):nP f=Kf.T12.dU p (Mt (Ms (Kf.T12.mX p (IL f) aN 127 Kf.T12.jJ))) (IL f):=
 (Kf.T12.fx _ _).trans ((Kf.T12.fx _ _).trans (Kf.T12.fx _ _))
attribute [local irreducible] Kf.T12.frb Kf.T12.mul Kf.T12.one Kf.T12.conj Kf.T12.inv Kf.T12.dU Kf.T12.mX Kf.T12.qe zU
theorem GS(x:F12):frI 2 x=frI 1 (frI 1 x):=by rw[GT,wX,wX,CR.bM]
theorem TB:aN<2^127:=by decide +kernel
theorem IT(f:Kf.T12.S12):Kf.T12.bB p (IL f)=qH (Kf.T12.bB p f):=by
 rw[IL,qH,Kf.T12.dd bX,ki,ki,GS]
theorem R3(f:Kf.T12.S12):Kf.T12.bB p (Ms f)=qB (Kf.T12.bB p f):=by
 rw[Ms,qB,Kf.T12.dd bX,ki,Kf.T12.rv bX,Kf.T12.na bX _ CW]
theorem R4(f:Kf.T12.S12):Kf.T12.bB p (Mt f)=qC (Kf.T12.bB p f):=by
 rw[Mt,qC,Kf.T12.dd bX,Kf.T12.dd bX,ki,ki,GS,Kf.T12.rv bX,Kf.T12.na bX _ CW,Kf.T12.na bX _ CW]
theorem IS(f:Kf.T12.S12):Kf.T12.bB p (nP f)=wT (Kf.T12.bB p f):=by
 rw[sU,wT,Kf.T12.dd bX,R4,R3,IT,← IT,Kf.T12.na bX _ TB]
def HI:Kf.T12.MS:=Kf.T12.Ad p hbX hbY e4x e4y xB ⟨true,e4x,e4y,Kf.T12.jJ⟩
theorem Rh:HI.g=true:=by decide +kernel
theorem Rg:Kf.K2.isz (nP HI.z).b=false:=by decide +kernel
theorem Ve{x:F2}(h:Kf.K2.neg x=x):x=Kf.K2.zero:=by
 apply Classical.byContradiction
 intro hx
 have h2:=Kf.K2.ge p_3 hx
 apply h2
 have h3:=Kf.K2.add_neg' x
 rw[h]at h3
 exact h3
theorem wF(x:F12):∀k,Kf.T12.conj (CR.pw x k)=CR.pw (Kf.T12.conj x) k
 | 0=>Kf.T12.fW
 | k+1=>by
  have h:=wF x k
  show Kf.T12.conj (Kf.T12.mul (CR.pw x k) x)=_
  rw[Kf.T12.aY,h];rfl
theorem zR{m:F12}(hm:m≠Kf.T12.zero)(h:Kf.T12.fin nN (Kf.T12.conj m)=Kf.T12.one):Kf.T12.conj (wT m)=wT m:=by
 have hc:=Kf.T12.ji sE hm
 have e:Kf.T12.mul (Kf.T12.qq (Kf.T12.conj m)) (Kf.T12.conj m)=m:=by
  rw[Kf.T12.qq,Kf.T12.eo,Kf.T12.mul_assoc',Kf.T12.mul_comm' (Kf.T12.inv _),Kf.T12.aI sE hc,Kf.T12.am]
 rw[BC,wF]
 have e2:=CR.ed (Kf.T12.qq (Kf.T12.conj m)) (Kf.T12.conj m) nN
 change CR.pw (Kf.T12.mul (Kf.T12.qq (Kf.T12.conj m)) (Kf.T12.conj m)) nN=Kf.T12.mul (Kf.T12.fin nN (Kf.T12.conj m)) _ at e2
 rw[e,h,Kf.T12.bh]at e2
 exact e2.symm
theorem LN:(Kf.T12.mil bo e4 xB).1=Kf.T12.bB p HI.z:=by
 rw[sY]
 exact Kf.T12.HK p_3 Rh
theorem HW{N:Nat}(h0:0<N)(x y:Kf.T12.S12):Kf.K2.ltP N (Kf.T12.dU N x y).b:=by unfold Kf.T12.dU;exact Kf.K2.Ab h0 _ _
theorem DR(f:Kf.T12.S12):Kf.K2.ltP p (nP f).b:=by
 rw[sU]
 exact HW bX _ _
theorem Oj:pr bo e4≠Kf.T12.one:=by
 intro h
 have hm:(Kf.T12.mil bo e4 xB).1≠Kf.T12.zero:=(Kf.T12.vd rp dS oF xB).1
 have h1:=zR hm h
 rw[LN,← IS]at h1
 have h2:Kf.K2.neg (Kf.K2.red p (nP HI.z).b)=Kf.K2.red p (nP HI.z).b:=by
  have:=congrArg (fun z:F12=>z.b.a) h1
  unfold Kf.T12.conj Kf.T12.bB Kf.T6.neg at this
  exact this
 have h3:=(Kf.K2.dV (DR _)).2 (Ve h2)
 rw[Rg]at h3
 cases h3
end
section
attribute [local irreducible] Code.wp wpList Af bodyPost L.Go
open Num
attribute [local irreducible] Kf.T12.frb Kf.T12.mul Kf.T12.one Kf.T12.conj Kf.T12.inv CR.pw bi
theorem IJ{y:F12}(hy:y≠Kf.T12.one)(hr:CR.pw y rN=Kf.T12.one){i j:Nat}(h:CR.pw y i=CR.pw y j):i%rN=j%rN:=by
 have hs:i*(rN-1)+i=rN*i:=by
  have:rN-1+1=rN:=by decide +kernel
  rw[← Nat.mul_add_one,this,Nat.mul_comm]
 have h1:CR.pw y (j+i*(rN-1))=Kf.T12.one:=by
  rw[← pwm,← h,pwm,Nat.add_comm,hs,CR.bM,hr,Kf.T12.ef]
 obtain⟨t,ht⟩:=Kf.T12.II Pr.pL hr hy h1
 change j+i*(rN-1)=rN*t at ht
 have h2:j+rN*i=i+rN*t:=by
  omega
 have h3:=congrArg (· % rN) h2
 simp only[Nat.add_mul_mod_self_left]at h3
 exact h3.symm
theorem CJ{b:F2}(h2:Kf.K2.No2 b){Q:Kf.K2.Pt p}(ho:Kf.K2.Onc b Q)(hr:Kf.K2.tim Q rN=none)(i:Nat):Kf.K2.tim Q i=Kf.K2.tim Q (i%rN):=by
 have h:rN*(i/rN)+i%rN=i:=Nat.div_add_mod _ _
 have h1:Kf.K2.tim Q (rN*(i/rN)+i%rN)=Kf.K2.tim Q (i%rN):=by
  rw[Kf.K2.fi p_3 h2 ho,Kf.K2.iA p_3 h2 ho,hr,Kf.K2.f7];rfl
 rw[h]at h1
 exact h1
theorem yv{b:F2}(h2:Kf.K2.No2 b){Q:Kf.K2.Pt p}(ho:Kf.K2.Onc b Q)(hr:Kf.K2.tim Q rN=none){i j:Nat}(h:i%rN=j%rN):Kf.K2.tim Q i=Kf.K2.tim Q j:=by
 rw[CJ h2 ho hr i,h,← CJ h2 ho hr j]
theorem UM{P Q:Kf.K2.Pt p}(hP:Kf.T12.Rp c4 P)(hQ:Ok2 Q):CR.pw (pr P Q) rN=Kf.T12.one:=Kf.T12.Wj rp H3 hP.1 hQ.1
theorem vz{P Q:Kf.K2.Pt p}(hP:Kf.T12.Rp c4 P)(hQ:Ok2 Q)(k:Nat):pr P (Kf.K2.tim Q k)=CR.pw (pr P Q) k:=Kf.T12.By rp H3 Nk hP (wN hQ) k
theorem Ce{P Q:Kf.K2.Pt p}(hP:Kf.T12.Rp c4 P)(hQ:Ok2 Q)(k:Nat):pr (Kf.K2.tim P k) Q=CR.pw (pr P Q) k:=Kf.T12.Bx rp H3 Nk hP (wN hQ) k
theorem Mf{P Q R:Kf.K2.Pt p}(hP:Kf.T12.Rp c4 P)(hQ:Ok2 Q)(hR:Ok2 R):pr P (Kf.K2.pa Q R)=Kf.T12.mul (pr P Q) (pr P R):=Kf.T12.Bw rp H3 Nk hP (wN hQ) (wN hR)
theorem rh:Ok2 e4:=⟨oF,K9⟩
theorem RO{S T:Kf.K2.Pt p}(hS:Ok2 S)(hT:Ok2 T)(h:pr bo S=pr bo T):S=T:=by
 obtain⟨i,rfl⟩:=zM hS
 obtain⟨j,rfl⟩:=zM hT
 rw[vz dw rh,vz dw rh]at h
 exact yv no2 oF K9 (IJ Oj (UM dw rh) h)
theorem Mg(P:Kf.K2.Pt p):pr P none=Kf.T12.one:=Kf.T12.NX rp P
theorem Ic:Ok2 none:=⟨trivial,Kf.K2.f7 _⟩
theorem FR{i j:Nat}(h:Kf.K2.tim bo i=Kf.K2.tim bo j):i%rN=j%rN:=by
 have h2:=congrArg (fun P=>pr P e4) h
 simp only[Ce dw rh]at h2
 exact IJ Oj (UM dw rh) h2
theorem JA{H K:Kf.K2.Pt p}(hH:Ok2 H)(hK:Ok2 K){k:Nat}(hk:¬rN∣k)(h:Kf.K2.tim H k=Kf.K2.tim K k):H=K:=by
 obtain⟨t,ht⟩:=Pr.AG.uW Pr.pL hk
 have h1:∀{Q:Kf.K2.Pt p},Ok2 Q→Kf.K2.tim (Kf.K2.tim Q k) t=Q:=fun hQ=>by
  rw[← Kf.K2.iA p_3 no2 hQ.1,yv no2 hQ.1 hQ.2 (j:=1) (show k*t%rN=1%rN from ht.trans (by decide +kernel))];rfl
 rw[← h1 hH,← h1 hK,h]
def prs:List (Kf.K2.Pt p)→List (Kf.K2.Pt p)→F12
 | P::ps,Q::qs=>Kf.T12.mul (pr P Q) (prs ps qs)
 | _,_=>Kf.T12.one
theorem wU:∀(ps qs:List (Kf.K2.Pt p))(f:F12),f≠Kf.T12.zero→(∀P∈ps,Kf.T12.Rp c4 P)→(∀Q∈qs,Ok2 Q)→Kf.T12.fin nN (ec ps qs f)=Kf.T12.mul (Kf.T12.fin nN f) (prs ps qs)
 | [],_,_,_,_,_=>(Kf.T12.am _).symm
 | _::_,[],_,_,_,_=>(Kf.T12.am _).symm
 | P::ps,Q::qs,f,hf,hP,hQ=>by
  have hm:=Kf.T12.ji sE (Kf.T12.vd rp (hP P (by simp)).1 (hQ Q (by simp)).1 xB).1
  rw[ec,pr2,wU ps qs _ (Kf.T12.bP sE hf hm) (fun P h=>hP P (by simp[h])) (fun Q h=>hQ Q (by simp[h])),Kf.T12.dp sE hf hm,Kf.T12.mul_assoc'];rfl
def AT:List (Nat×Kf.K2.Pt p)→Kf.K2.Pt p
 | []=>none
 | (a,H)::l=>Kf.K2.pa (Kf.K2.tim H a) (AT l)
theorem wa:∀{l:List (Nat×Kf.K2.Pt p)},(∀x∈l,Ok2 x.2)→Ok2 (AT l)
 | [],_=>Ic
 | (a,H)::_,h=>RC (jr (h (a,H) (by simp)) a) (wa fun x hx=>h x (by simp[hx]))
theorem Cf(S:Kf.K2.Pt p):∀(l:List (Nat×Kf.K2.Pt p)),(∀x∈l,Ok2 x.2) →
  prs (l.map (fun x=>Kf.K2.tim bo x.1)++[Kf.K2.pn bo]) (l.map (fun x=>x.2)++[S])=Kf.T12.mul (pr bo (AT l)) (pr (Kf.K2.pn bo) S)
 | [],_=>by
  show Kf.T12.mul (pr _ S) Kf.T12.one=_
  rw[AT,Mg,Kf.T12.am,Kf.T12.bh]
 | (a,H)::l,h=>by
  have hH:Ok2 H:=h (a,H) (by simp)
  have hl:=fun x hx=>h x (List.mem_cons_of_mem _ hx)
  show Kf.T12.mul (pr (Kf.K2.tim bo a) H) (prs (l.map _++_) (l.map _++_))=_
  rw[Cf S l hl,AT,Mf dw (jr hH a) (wa hl),Ce dw hH,vz dw hH,Kf.T12.mul_assoc']
theorem UK:Kf.T12.Rp c4 (Kf.K2.pn bo):=⟨Kf.K2.cF dS,Kf.K2.FG j5⟩
theorem pk0:bi []=(Kf.T12.one:F12):=by unfold bi;rfl
theorem JL{l:List (Nat×Kf.K2.Pt p)}(h:∀x∈l,Ok2 x.2){S:Kf.K2.Pt p}(hS:Ok2 S):
  gh (ec (l.map (fun x=>Kf.K2.tim bo x.1)++[Kf.K2.pn bo]) (l.map (fun x=>x.2)++[S]) (bi []))=Kf.T12.one↔S=AT l:=by
 rw[GI,wU _ _ _ (by rw[pk0];exact Kf.T12.cH sE),Cf S l h,pk0,Kf.T12.eV sE,Kf.T12.bh]
 ·have hi:Kf.T12.mul (pr (Kf.K2.pn bo) S) (pr bo S)=Kf.T12.one:=Kf.T12.Qz rp H3 Nk dw (wN hS)
  constructor
  ·intro e
   refine RO hS (wa h) ?_
   rw[← Kf.T12.bh (pr bo S),← e,Kf.T12.mul_assoc',hi,Kf.T12.am]
  ·intro e
   rw[← e,Kf.T12.mul_comm',hi]
 ·intro P hP
  rcases List.mem_append.1 hP with hP | hP
  ·obtain⟨x,_,rfl⟩:=List.mem_map.1 hP
   exact Kf.T12.ut rp dw x.1
  ·rw[List.mem_singleton.1 hP];exact UK
 ·intro Q hQ
  rcases List.mem_append.1 hQ with hQ | hQ
  ·obtain⟨x,hx,rfl⟩:=List.mem_map.1 hQ
   exact h x hx
  ·rw[List.mem_singleton.1 hQ];exact hS
end
section
attribute [local irreducible] Code.wp wpList Af bodyPost L.Go
open Num
attribute [local simp] ae aD
theorem xF{a:Nat}(ha:a<W^6):Spec Tryz.prog 119 [LV .u64 (D 6 a)] ai [] (IsV (LV .u8 (bv (a%p) 48))):=by
 refine ad Tryz.func119 rfl rfl rfl fun w _=>?_
 have hla:=ae 6 a
 have hl1:=ae 6 (a%p)
 have hol:=aD (a%p) 48
 have hv:=eR (oJ a)
 have htk:(bv (a%p) 48).take 48=bv (a%p) 48:=List.take_of_length_le (by omega)
 repeat (first|refine aq (v:=LV .u8 (List.replicate 48 0)) (by rfl) (by rfl) fun _=>?_|refine y_4 (bR ha) ?_|((refine ax (by rfl) (by rfl) (by rfl) (oL _ (D 6 (a%p)) 48 (dr _ _) (by omega) (by decide)) .nil (RdW.arrAll (m:=6) fd hl1) (by rfl) ?_;rintro u _ rfl);rw[hv])|rw[htk]|refine VS ?_|refine Z81 fun _=>?_|refine Z82 fun _=>?_)
 refine Zec fun _ hw=>aa hw SubW.nil ⟨?_,rfl⟩
 rfl
theorem At(s:Value)(bs:List Nat)(hb:Lt 256 bs)(h:bs.length=48)(hlt:bA bs<p):
  Spec Tryz.prog 93 [s] (fun w=>Rd w s (bs.map (N .u8))) [] (IsV (.tuple #[LV .u64 (D 6 (bA bs)),N .i64 0])):=by
 refine ad Tryz.func93 rfl rfl rfl fun w hr=>?_
 have hr:=RdC.mk0 hr
 have hdl:=ae 6 (bA bs)
 have hfit:=kR hb
 rw[h,show(48+7)/8=6 from rfl]at hfit
 have hdm:=ae 6 (bA bs%p)
 have htk:(D 6 (bA bs)).take 6=D 6 (bA bs):=List.take_of_length_le (by omega)
 have he:(!decide (D 6 (bA bs%p)=D 6 (bA bs)))=false:=by rw[Nat.mod_eq_of_lt hlt];simp
 repeat (first|(refine cJ ?_;intro _)|refine y_5 ?_|((refine ax (by rfl) (by rfl) (by rfl) (ii s bs hb (by omega)) .nil (RdW.old hr) (by rfl) ?_;rintro u _ rfl);rw[h,show(48+7)/8=6 from rfl])|rw[htk]|refine Nq ?_|refine Z82 fun _=>?_)
 refine R.af [0,1,2,3] (by rfl) ?_
 repeat (first|(refine R.Zpf (by rfl) (by intro _ _ _;(first|refine VT ?_);exact Zq) ?_)|refine VU ?_|refine ag (bR hfit) ?_|refine aA ?_|(refine A6 ?_;intro _))
 refine R.Zp0 ?_
 repeat (first|rw[he]|refine Nq ?_|refine Z82 fun _=>?_)
 refine aJ (by rfl) (by rfl) (by rfl) fd (by rfl) (by rfl) (by first | with_reducible assumption | (simp[*];done)) fun _ hw=>aa hw SubW.nil ⟨?_,rfl⟩
 rfl
end
section
attribute [local irreducible] Code.wp wpList Af bodyPost L.Go ab
open Num
attribute [local simp] ae aD
def Q6s(l:List Fq):List (List Nat):=l.map Q6
theorem fN(l:List Fq):∀v∈Q6s l,v.length=6:=by
 intro v hv
 obtain⟨x,_,rfl⟩:=List.mem_map.1 hv
 exact ae _ _
def fbs(l:List Fq):List Nat:=(l.map fun x=>bv x.val 48).flatten
theorem mz(l:List Fq):(fbs l).length=48*l.length:=by
 unfold fbs
 induction l with
 | nil=>rfl
 | cons x r ih=>rw[List.map_cons,List.flatten_cons,List.length_append,aD,ih,List.length_cons];omega
theorem T8{l:List Fq}{i:Nat}{x:Fq}(h:l[i]?=some x):fbs (l.take i)++bv x.val 48=fbs (l.take (i+1)):=by
 rw[List.take_add_one,h]
 simp[fbs,Option.toList]
theorem L5(x:Fq):Spec Tryz.prog 119 [LV .u64 (Q6 x)] ai [] (IsV (LV .u8 (bv x.val 48))):=by
 have h:=xF (a:=x.val) (Nat.lt_trans x.isLt lL)
 rwa [Nat.mod_eq_of_lt x.isLt]at h
attribute [local irreducible] fbs Q6s
theorem Da{a b:Prop}(k:b)(h:Rm b→a:=by intro k;(first|refine Z01 ?_|refine Z02 ?_|refine Z03 ?_|refine Z04 ?_|refine Z05 ?_|refine Z06 ?_|refine Z07 ?_|refine Z08 ?_|refine Z09 ?_|refine Z10 ?_|refine Z11 ?_|refine Z12 ?_|refine Z13 ?_|refine Z14 ?_|refine Z15 ?_|refine Z17 ?_|refine Z18 ?_|refine Z20 ?_|refine Z21 ?_|refine Z22 ?_|refine Z23 ?_|refine Z24 ?_|refine Z26 ?_|refine Z27 ?_|refine Z29 ?_|refine Z30 ?_|refine Z31 ?_|refine Z32 ?_|refine Z62 ?_|refine Z63 ?_|refine Z67 ?_);exact k.h):a:=h ⟨k⟩
set_option maxHeartbeats 2000000 in
theorem oI(s:Value)(xs:List Fq)(hl:xs.length<1000):Spec Tryz.prog 65 [s] (fun w=>Rd w (wide 6 s) ((Q6s xs).flatten.map (N .u64))) []
  (fun v Wr=>Wr=[.sl v ((fbs xs).map (N .u8)) 5]):=by
 refine ad Tryz.func65 rfl rfl rfl fun w hr=>?_
 have h1:=RdC.mk0 hr
 have hE:=fN xs
 have el:(Q6s xs).length=xs.length:=by unfold Q6s;simp
 have hxl:((Q6s xs).flatten.map (N .u64)).length=xs.length*6:=by rw[List.length_map,fw hE,el]
 have e0:fbs (xs.take 0)=[]:=by unfold fbs;rfl
 repeat (first|refine ib (m:=6) (k:=xs.length) (s:=s) (by rfl) (by rfl) (RdW.old h1) (by decide) hxl (by rfl) ?_|refine Da ?_|refine Z82 fun _=>?_|refine Z84 fun _=>?_)
 refine jE 5 ?_
 refine ay (ι:=Nat×Value) (fun q=>q.1≤xs.length) (fun q=>[(6,s),(7,N .i64 xs.length),(8,N .i64 q.1),(2,q.2)]) (fun q=>[.sl q.2 ((fbs (xs.take q.1)).map (N .u8)) 5]) (fun q=>xs.length-q.1) (0,.slice none 0 0) (by simp) sbq (by rw[e0];exact sw) ?_
 rintro⟨i,v⟩ hi
 simp only at hi ⊢
 repeat (first|refine Da ?_|refine Z82 fun _=>?_|refine Z84 fun _=>?_)
 refine ao (by rfl) (fun h=>?_) (fun h=>?_)
 ·obtain⟨x,hx⟩:∃x,xs[i]?=some x:=⟨_,List.getElem?_eq_getElem h⟩
  have hz:(Q6s xs)[i]?=some (Q6 x):=by unfold Q6s;rw[List.getElem?_map,hx];rfl
  have hs:=T8 hx
  have hol:=aD x.val 48
  have hlen:(fbs (xs.take i)).length<100000:=by rw[mz,List.length_take];omega
  repeat (first|(refine cJ ?_;intro _)|refine aq (v:=LV .u8 (List.replicate 48 0)) (by rfl) (by rfl) fun _=>?_|refine fg (m:=6) (s:=s) (i:=i) (k:=xs.length) (by rfl) (by rfl) (by rfl) (by rfl) (RdW.old h1) (by decide) hxl h (by rfl) ?_|refine eE (m:=6) (s:=wide 6 s) (i:=i) (by rfl) (by rfl) (by rfl) (RdW.old h1) hE hz (by decide) (by rfl) ?_|refine y_4 (L5 x) ?_|(refine g8 (xs:=fbs (xs.take i)) (ys:=bv x.val 48) (kk:=.u8) (by rfl) (by rfl) fd (RdW.arrAll (m:=48) fd hol) (by rfl) (by rfl) (by rfl) (by rfl) (by rw[hol];omega) (by rw[hol];omega) (by rfl) fun _=>?_)|refine Da ?_|refine Z82 fun _=>?_|refine Z84 fun _=>?_)
  rw[hs]
  rename_i v2
  exact ap (i+1,v2) (by simp only;omega) (by simp only;omega) sbq sw
 ·have hi':i=xs.length:=by omega
  subst hi'
  rw[List.take_length]
  repeat (first|refine Da ?_|refine Z82 fun _=>?_|refine Z84 fun _=>?_)
  exact Ze1 fun _ hw=>aa hw (Wout:=[.sl v ((fbs xs).map (N .u8)) 5]) (by exact sw) rfl
def flg(is:Bool)(f:Nat)(xs:List Nat):List Nat:=if is then xs.set 0 (xs.getD 0 0 ||| f)else xs
theorem OY{a b:Prop}(k:b)(h:Rm b→a:=by intro k;(first|refine Z01 ?_|refine Z03 ?_|refine Z04 ?_|refine Z05 ?_|refine Z06 ?_|refine Z07 ?_|refine Z08 ?_|refine Z09 ?_|refine Z10 ?_|refine Z11 ?_|refine Z12 ?_|refine Z13 ?_|refine Z14 ?_|refine Z22 ?_|refine Z23 ?_|refine Z24 ?_|refine Z26 ?_|refine Z27 ?_|refine Z29 ?_|refine Z30 ?_|refine Z31 ?_|refine Z32 ?_|refine Z41 ?_|refine Z67 ?_);exact k.h):a:=h ⟨k⟩
set_option maxHeartbeats 2000000 in
theorem rB(is:Bool){f:Nat}(hf:f<256)(s:Value)(xs:List Nat)(hx:0<xs.length)(hb:Lt 256 xs)(bb:Nat)(U:TypeId)(hs:s.oneCell'=true):
  Spec Tryz.prog 120 [.bool is,N .u8 f,pt bb 0] ai [.blk bb s U,.sl s (xs.map (N .u8)) 5]
   (fun v Wr=>v = .tuple #[]∧Wr=[.blk bb s U,.sl s ((flg is f xs).map (N .u8)) 5]):=by
 refine ad Tryz.func120 rfl rfl rfl fun w _=>?_
 cases is with
 | false=>
  repeat (first|refine OY ?_)
  refine gC (by rfl) fun _ hw=>aa hw (Wout:=[.blk bb s U,.sl s (xs.map (N .u8)) 5]) (by exact sw) ⟨rfl,rfl⟩
 | true=>
  have h0:xs.getD 0 0<256:=hb.getD (by decide) 0
  repeat (first|refine fF (by rfl) fd hs (by rfl) (by rfl) ?_|refine OY ?_)
  rw[Nat.mod_eq_of_lt h0,Nat.mod_eq_of_lt hf]
  refine gC (by rfl) fun _ hw=>aa hw (Wout:=[.blk bb s U,.sl s ((flg true f xs).map (N .u8)) 5]) (by exact sw) ⟨rfl,rfl⟩
theorem gv(is:Bool)(f:Nat)(xs:List Nat):(flg is f xs).length=xs.length:=by
 unfold flg
 cases is <;> simp
theorem nR{is:Bool}{f:Nat}(hf:f<256){xs:List Nat}(h:Lt 256 xs):Lt 256 (flg is f xs):=by
 unfold flg
 cases is with
 | false=>exact h
 | true=>exact h.set (Nat.or_lt_two_pow (n:=8) (h.getD (by decide) 0) hf) 0
def qw(inf big:Bool)(xs:List Nat):List Nat:=flg (big && !inf) 32 (flg inf 64 (flg true 128 xs))
theorem F4{s:Value}(h:s.oneCell'=true)(k:Nat):(cut3 s k).oneCell'=true:=by
 unfold cut3
 cases s <;> first | rfl | exact h
attribute [local irreducible] flg
theorem J6{a b:Prop}(k:b)(h:Rm b→a:=by intro k;(first|refine Z01 ?_|refine Z02 ?_|refine Z03 ?_|refine Z04 ?_|refine Z05 ?_|refine Z06 ?_|refine Z07 ?_|refine Z08 ?_|refine Z09 ?_|refine Z10 ?_|refine Z11 ?_|refine Z12 ?_|refine Z13 ?_|refine Z14 ?_|refine Z20 ?_|refine Z21 ?_|refine Z24 ?_|refine Z26 ?_|refine Z27 ?_|refine Z29 ?_|refine Z30 ?_|refine Z31 ?_|refine Z32 ?_|refine Z37 ?_|refine Z48 ?_|refine Z49 ?_|refine Z50 ?_|refine Z51 ?_|refine Z52 ?_|refine Z54 ?_|refine Z62 ?_|refine Z63 ?_|refine Z67 ?_);exact k.h):a:=h ⟨k⟩
set_option maxHeartbeats 2000000 in
theorem mA(inf big:Bool)(s:Value)(xs:List Nat){k:Nat}(hk:xs.length=2*k)(h0:0<k)(h1:k<1000)(hb:Lt 256 xs):
  Spec Tryz.prog 66 [s,.bool true,.bool inf,.bool big] ai [.sl s (xs.map (N .u8)) 5]
   (fun v Wr=>Wr=[.sl v ((qw inf big (xs.take k)).map (N .u8)) 5]):=by
 refine ad Tryz.func66 rfl rfl rfl fun w _=>?_
 refine gE (p:=s.oneCell'=true) (fun w hw=>(RdW.own (W:=[.sl s (xs.map (N .u8)) 5]) Find.here w hw).one) fun hs=>?_
 have hs2:=F4 hs k
 have hl1:(xs.take k).length=k:=by rw[List.length_take];omega
 have hb1:Lt 256 (xs.take k):=hb.take k
 have c1:=rB true (f:=128) (by decide) (cut3 s k) (xs.take k) (by omega) hb1
 have c2:=rB inf (f:=64) (by decide) (cut3 s k) (flg true 128 (xs.take k)) (by rw[gv];omega) (nR (by decide) hb1)
 have c3:=rB (big && !inf) (f:=32) (by decide) (cut3 s k) (flg inf 64 (flg true 128 (xs.take k))) (by rw[gv,gv];omega) (nR (by decide) (nR (by decide) hb1))
 have hq:xs.length/2=k:=by omega
 repeat (first|refine fF (by rfl) fd hs (by rfl) (by rfl) ?_|rw[hq]|(refine ow (k:=k) (by rfl) (by rfl) (by rfl) (RdW.own fd) (by rfl) (by rfl) (by simp;omega) (by rfl) ?_)|refine ig (by rfl) (by rfl) fd hs hs2 (by rfl) ?_|refine J6 ?_|refine Z81 fun _=>?_)
 rename_i b4
 refine yn (s:=s) (xs:=xs.map (N .u8)) k fd (by simp;omega) ?_
 rw[← List.map_take]
 have d1:=c1 b4 23 hs2
 have d2:=c2 b4 23 hs2
 have d3:=c3 b4 23 hs2
 repeat (first|(refine ax (by rfl) (by rfl) (by rfl) d1 (.cons fd (.cons fd .nil)) (fun _ _=>trivial) (by rfl) ?_;rintro _ _ ⟨rfl,rfl⟩)|(refine ax (by rfl) (by rfl) (by rfl) d2 (.cons fd (.cons fd .nil)) (fun _ _=>trivial) (by rfl) ?_;rintro _ _ ⟨rfl,rfl⟩)|refine J6 ?_|refine Z81 fun _=>?_)
 clear c1 c2 c3 d1 d2
 cases big <;> cases inf
 all_goals
  repeat (first|(refine ax (by rfl) (by rfl) (by rfl) d3 (.cons fd (.cons fd .nil)) (fun _ _=>trivial) (by rfl) ?_;rintro _ _ ⟨rfl,rfl⟩)|refine fF (by rfl) fd hs2 (by rfl) (by rfl) ?_|refine J6 ?_|refine Z81 fun _=>?_)
  exact Ze1 fun _ hw=>aa hw (Wout:=[.sl (cut3 s k) ((qw _ _ (xs.take k)).map (N .u8)) 5]) (by exact sw) rfl
end
end Go.Proofs.YtndhfbecpghinaaGreat.L
