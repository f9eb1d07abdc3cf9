/- What the proof of the statement about TopTogether stands on, part G. Conditions: as each statement says. -/
import Derived.Test.YtndhfbecpghinaaGreatTopTogetherF
import Derived.Test.YtndhfbecpghinaaGreatProg
namespace Go.Proofs.YtndhfbecpghinaaGreat.L
open Go Go.Proofs
set_option maxRecDepth 100000
section
attribute [local irreducible] Code.wp wpList Af bodyPost L.Go ab
open Num
attribute [local simp] ae
section
variable {P:Program} {c:Cx} {n:Nn} {l:Sl} {W:List Res} {ops:Array Oper} {Q:Exit→Act→World→Prop} {rest:List Oper}
variable {d:Nat} {T:TypeId} {pos:String} {after:Array Edge}
end
def hu(m d:List Nat)(i:Nat):F2:=k2 (bC (((fk m d (128*2)).drop (128*i)).take 64)) (bC ((((fk m d (128*2)).drop (128*i)).take 128).drop 64))
theorem QP(m d:List Nat)(i:Nat):fel ((fk m d (128*2)).drop (128*i))=E2 (hu m d i):=BM _
theorem Vf(x y:F2):Spec Tryz.prog 22 [LV .u64 (E2 x),LV .u64 (E2 y)] ai [] (IsV (GV (gY x y))):=by
 have:=EV (ap x.re) (ap x.im) (ap y.re) (ap y.im);rwa [bq,bq]at this
set_option maxHeartbeats 8000000 in
theorem Ly(s1 s2:Value)(m d:List Nat)(hm:Lt 256 m)(hd:Lt 256 d)(hl1:m.length<1073741824)(h1:1≤d.length)(h2:d.length≤255):
  Spec Tryz.prog 9 [s1,s2] (fun w=>Rd w s1 (m.map (N .u8))∧Rd w s2 (d.map (N .u8))) [] (IsV (.tuple [GV (gY (hu m d 0) (hu m d 1)),N .i64 0].toArray)):=by
 refine ad Tryz.func9 rfl rfl rfl fun w hr=>?_
 have hr1:=RdC.mk0 hr.1
 have hr2:=RdC.mk0 hr.2
 have hl0:=fun x=>ae 6 x
 have hle:=fun x:F2=>ak x
 have hs:=Vf (hu m d 0) (hu m d 1)
 have hfl:(((j2 (fk m d (128*2)) 2).flatten).map (N .u64)).length=2*12:=by rw[List.length_map,sY,j3]
 have g0:=qD (fk m d (128*2)) (k:=2) (i:=0) (by decide)
 have g1:=qD (fk m d (128*2)) (k:=2) (i:=1) (by decide)
 rw[QP]at g0 g1
 have hE:=sX (fk m d (128*2)) 2
 obtain⟨x1,y1,i1,hq⟩:∃x1 y1 i1,GV (gY (hu m d 0) (hu m d 1))=GE x1 y1 i1:=⟨_,_,_,rfl⟩
 rw[hq]at hs ⊢
 generalize hu m d 0=u at *
 generalize hu m d 1=v at *
 repeat (first|(refine co ?_;intro _)|(refine aw (by rfl) (by rfl) (by rfl) (D1 s1 s2 m d 2 hm hd hl1 h1 h2 (by decide) (by decide)) .nil (fun w hw=>⟨RdW.old hr1 w hw,RdW.old hr2 w hw⟩) (by rfl) ?_;rintro _ _ ⟨x,rfl,rfl⟩)|refine y_5 ?_|refine Z01 ?_|refine Z02 ?_|refine Z03 ?_|refine Z04 ?_|refine Z05 ?_|refine Z06 ?_|refine Z07 ?_|refine Z08 ?_|refine Z09 ?_|refine Z10 ?_|refine Z11 ?_|refine Z12 ?_|refine Z13 ?_|refine Z14 ?_|refine Z17 ?_|refine Z18 ?_|refine Z19 ?_|refine Z22 ?_|refine Z23 ?_|refine Z24 ?_|refine Z26 ?_|refine Z27 ?_|refine Z29 ?_|refine Z30 ?_|refine Z31 ?_|refine Z32 ?_|refine Z67 ?_|refine Z82 fun _=>?_)
 generalize j2 (fk m d (128*2)) 2=L at *
 refine R.af [0,1,2,3,4,5,6,7,8] (by rfl) ?_
 repeat (first|(refine R.Zpf (by rfl) (by intro _ _ _;(first|refine Z01 ?_|refine Z02 ?_|refine Z17 ?_|refine Z18 ?_|refine Z19 ?_|refine Z22 ?_|refine Z23 ?_);exact Zq) ?_)|(refine R.Zpp (by rfl) (by intro _ _ _;(first|refine Ti ?_);exact Zq) ?_)|(refine R.Zpp (by rfl) (by intro _ _ _;(refine fh (m:=12) (s:=x) (i:=0) (k:=2) (kk:=.i64) (by rfl) (by rfl) (by rfl) (by rfl) (RdW.own fd) (by decide) hfl (by decide) (by rfl) ?_);exact Zq) ?_)|(refine R.Zpp (by rfl) (by intro _ _ _;(refine fh (m:=12) (s:=x) (i:=1) (k:=2) (kk:=.i64) (by rfl) (by rfl) (by rfl) (by rfl) (RdW.own fd) (by decide) hfl (by decide) (by rfl) ?_);exact Zq) ?_)|(refine R.Zpp (by rfl) (by intro _ _ _;(refine eJ (m:=12) (s:=wide 12 x) (i:=0) (by rfl) (by rfl) (by rfl) (RdW.own fd) hE g0 (by decide) (by rfl) ?_);exact Zq) ?_)|(refine R.Zpp (by rfl) (by intro _ _ _;(refine eJ (m:=12) (s:=wide 12 x) (i:=1) (by rfl) (by rfl) (by rfl) (RdW.own fd) hE g1 (by decide) (by rfl) ?_);exact Zq) ?_)|refine ag hs ?_|refine gb ?_|(refine Bj ?_;intro _))
 refine R.Zp0 ?_
 repeat (first|refine Z01 ?_|refine Z02 ?_|refine Z03 ?_|refine Z04 ?_|refine Z05 ?_|refine Z06 ?_|refine Z07 ?_|refine Z08 ?_|refine Z09 ?_|refine Z10 ?_|refine Z11 ?_|refine Z12 ?_|refine Z13 ?_|refine Z14 ?_|refine Z17 ?_|refine Z18 ?_|refine Z19 ?_|refine Z22 ?_|refine Z23 ?_|refine Z24 ?_|refine Z26 ?_|refine Z27 ?_|refine Z29 ?_|refine Z30 ?_|refine Z31 ?_|refine Z32 ?_|refine Z67 ?_|refine Z82 fun _=>?_)
 refine bH (m:=24) (by rfl) (by rfl) (by rfl) fd (by rfl) (by rfl) (by first|with_reducible assumption|simp) fun _ hw=>aa hw SubW.nil ⟨?_,rfl⟩
 rfl
end
end Go.Proofs.YtndhfbecpghinaaGreat.L
namespace Go.Proofs.YtndhfbecpghinaaGreat.L.Pr
structure AG (G:Type) where
 add:G→G→G
 zero:G
 neg:G→G
 assoc:∀a b c,add (add a b) c=add a (add b c)
 comm:∀a b,add a b=add b a
 zadd:∀a,add zero a=a
 nadd:∀a,add (neg a) a=zero
namespace AG
variable {G:Type} (A:AG G)
theorem addz(a:G):A.add a A.zero=a:=by rw[A.comm,A.zadd]
theorem addn(a:G):A.add a (A.neg a)=A.zero:=by rw[A.comm,A.nadd]
theorem can{a b c:G}(h:A.add a b=A.add a c):b=c:=by
 rw[← A.zadd b,← A.nadd a,A.assoc,h,← A.assoc,A.nadd,A.zadd]
theorem four(a b c d:G):A.add (A.add a b) (A.add c d)=A.add (A.add a c) (A.add b d):=by
 rw[A.assoc,A.assoc,← A.assoc b c d,A.comm b c,A.assoc c b d]
def mul(a:G):Nat→G
 | 0=>A.zero
 | k+1=>A.add (mul a k) a
theorem Ce(a:G)(k:Nat):A.mul a (k+1)=A.add (A.mul a k) a:=rfl
theorem mul_one(a:G):A.mul a 1=a:=A.zadd a
theorem mul_add(a:G)(j k:Nat):A.mul a (j+k)=A.add (A.mul a j) (A.mul a k):=by
 induction k with
 | zero=>exact(A.addz _).symm
 | succ k ih=>rw[← Nat.add_assoc,Ce,ih,Ce,A.assoc]
theorem mul_mul(a:G)(j k:Nat):A.mul a (j*k)=A.mul (A.mul a j) k:=by
 induction k with
 | zero=>rfl
 | succ k ih=>rw[Nat.mul_succ,mul_add,ih,Ce]
theorem mul_zero(k:Nat):A.mul A.zero k=A.zero:=by
 induction k with
 | zero=>rfl
 | succ k ih=>rw[Ce,ih,A.zadd]
theorem neg_eq{a b:G}(h:A.add a b=A.zero):A.neg b=a:=by
 apply A.can (a:=b)
 rw[A.addn,A.comm,h]
theorem lagrange{H:List G}(hn:H.Nodup)(h0:A.zero∈H)(hs:∀a∈H,∀b∈H,A.add a (A.neg b)∈H):
  ∀(n:Nat)(L:List G),L.length=n→L.Nodup→(∀x∈L,∀h∈H,A.add x h∈L)→H.length∣L.length:=by
 intro n
 induction n using Nat.strongRecOn with
 | ind n ih=>
  intro L hL hd hc
  cases L with
  | nil=>exact Nat.dvd_zero _
  | cons g r=>
   obtain⟨C,hC⟩:∃C,C=H.map (A.add g):=⟨_,rfl⟩
   have hCn:C.Nodup:=by
    rw[hC];exact List.pairwise_map.2 (hn.imp fun h e=>h (A.can e))
   have hm:∀x,x∈C↔∃h∈H,A.add g h=x:=fun x=>by rw[hC];exact List.mem_map
   haveI:DecidablePred (fun x=>x∈C):=fun _=>Classical.propDecidable _
   obtain⟨L',hL'⟩:∃L',L'=(g::r).filter (fun x=>!decide (x∈C)):=⟨_,rfl⟩
   have hm':∀x,x∈L'↔x∈g::r∧x∉C:=fun x=>by rw[hL',List.mem_filter];simp
   have hn':L'.Nodup:=by rw[hL'];exact hd.filter _
   have hp:(C++L').Perm (g::r):=by
    refine(List.perm_ext_iff_of_nodup ?_ hd).2 fun x=>?_
    ·rw[List.nodup_append]
     exact⟨hCn,hn',fun a ha b hb e=>((hm' b).1 hb).2 (e ▸ ha)⟩
    ·rw[List.mem_append,hm' x]
     constructor
     ·rintro(h | h)
      ·obtain⟨y,hy,rfl⟩:=(hm x).1 h
       exact hc g (List.mem_cons_self ..) y hy
      ·exact h.1
     ·intro h
      by_cases hx:x∈C
      ·exact .inl hx
      ·exact .inr ⟨h,hx⟩
   have hlen:=hp.length_eq
   rw[List.length_append,show C.length=H.length by rw[hC,List.length_map]]at hlen
   have hH:0<H.length:=List.length_pos_of_mem h0
   have:=ih L'.length (by omega) L' rfl hn' (fun x hx h hh=>by
    have hx':=(hm' x).1 hx
    refine(hm' _).2 ⟨hc x hx'.1 h hh,fun hin=>hx'.2 ?_⟩
    obtain⟨y,hy,he⟩:=(hm _).1 hin
    refine(hm x).2 ⟨A.add y (A.neg h),hs y hy h hh,?_⟩
    rw[← A.assoc,he,A.assoc,A.addn,A.addz])
   rw[← hlen]
   exact Nat.dvd_add (Nat.dvd_refl _) this
structure All (L:List G):Prop where
 nd:L.Nodup
 all:∀x,x∈L
theorem km{f:Nat→G}{n:Nat}(h:∀i j,i<j→j<n→f i≠f j):((List.range n).map f).Nodup:=by
 refine List.pairwise_map.2 ?_
 refine List.Pairwise.imp_of_mem ?_ List.pairwise_lt_range
 intro i j hi hj hij
 exact h i j hij (List.mem_range.1 hj)
theorem mul_sub0{a:G}{i j:Nat}(hij:i≤j)(h:A.mul a i=A.mul a j):A.mul a (j-i)=A.zero:=by
 apply A.can (a:=A.mul a i)
 rw[← A.mul_add,A.addz,Nat.add_sub_cancel' hij,h]
theorem yO:∀{l L:List G},l.Nodup→(∀x∈l,x∈L)→l.length≤L.length
 | [],_,_,_=>Nat.zero_le _
 | x::l,L,hl,hs=>by
  haveI:DecidableEq G:=fun _ _=>Classical.propDecidable _
  have hx:=hs x (List.mem_cons_self ..)
  have hn:=List.nodup_cons.1 hl
  have:=yO (l:=l) (L:=L.erase x) hn.2 (fun y hy=>(List.mem_erase_of_ne (show y≠x from fun e=>hn.1 (e ▸ hy))).2 (hs y (List.mem_cons_of_mem _ hy)))
  rw[List.length_erase_of_mem hx]at this
  have:=List.length_pos_of_mem hx
  rw[List.length_cons]
  omega
theorem u4{p j:Nat}(hp:aU p)(hj:¬p∣j):∃t,j*t%p=1:=by
 have h1:=hp.1
 have:=z9 hp hj
 obtain⟨q,rfl⟩:∃q,p=q+2:=⟨p-2,by omega⟩
 refine⟨j^q,?_⟩
 rwa [show q+2-1=q+1 by omega,Nat.pow_succ,Nat.mul_comm]at this
theorem order{L:List G}(hL:All L)(a:G):∃d,0<d∧A.mul a d=A.zero∧(∀m,A.mul a m=A.zero→d∣m)∧d∣L.length:=by
 have hex:∃d,0<d∧A.mul a d=A.zero:=by
  apply Classical.byContradiction
  intro hc
  have:=yO (L:=L) (l:=(List.range (L.length+1)).map (A.mul a)) (km fun i j hij _ e=>hc ⟨j-i,by omega,A.mul_sub0 (Nat.le_of_lt hij) e⟩) (fun x _=>hL.all x)
  rw[List.length_map,List.length_range]at this
  omega
 have hmin:∃d,(0<d∧A.mul a d=A.zero)∧∀m,m<d→¬(0<m∧A.mul a m=A.zero):=by
  obtain⟨d,hd⟩:=hex
  induction d using Nat.strongRecOn with
  | ind d ih=>
   by_cases h:∃m,m<d∧0<m∧A.mul a m=A.zero
   ·obtain⟨m,hm,h2⟩:=h
    exact ih m hm h2
   ·exact⟨d,hd,fun m hm h2=>h ⟨m,hm,h2⟩⟩
 obtain⟨d,⟨hd0,hd⟩,hlt⟩:=hmin
 have hdiv:∀m,A.mul a m=A.zero→d∣m:=by
  intro m hm
  have h1:A.mul a (m%d)=A.zero:=by
   have h2:A.mul a (d*(m/d)+m%d)=A.zero:=by rw[Nat.div_add_mod];exact hm
   rwa [A.mul_add,A.mul_mul,hd,A.mul_zero,A.zadd]at h2
  apply Nat.dvd_of_mod_eq_zero
  apply Classical.byContradiction
  intro h0
  exact hlt _ (Nat.mod_lt _ hd0) ⟨by omega,h1⟩
 refine⟨d,hd0,hd,hdiv,?_⟩
 have hH:((List.range d).map (A.mul a)).Nodup:=km fun i j hij hj e=>hlt (j-i) (by omega) ⟨by omega,A.mul_sub0 (Nat.le_of_lt hij) e⟩
 have hmem:∀k,A.mul a k∈(List.range d).map (A.mul a):=fun k=>List.mem_map.2 ⟨k%d,List.mem_range.2 (Nat.mod_lt _ hd0),by
  have:A.mul a (d*(k/d)+k%d)=A.mul a (k%d):=by rw[A.mul_add,A.mul_mul,hd,A.mul_zero,A.zadd]
  rw[← this,Nat.div_add_mod]⟩
 have:=A.lagrange hH (hmem 0) (by
  intro x hx y hy
  obtain⟨i,_,rfl⟩:=List.mem_map.1 hx
  obtain⟨j,hj,rfl⟩:=List.mem_map.1 hy
  have hj:=List.mem_range.1 hj
  have e:A.neg (A.mul a j)=A.mul a (d-j):=A.neg_eq (by rw[← A.mul_add,Nat.sub_add_cancel (Nat.le_of_lt hj),hd])
  rw[e,← A.mul_add]
  exact hmem _) L.length L rfl hL.nd (fun x _ h _=>hL.all _)
 rwa [List.length_map,List.length_range]at this
theorem mul_all{L:List G}(hL:All L)(a:G):A.mul a L.length=A.zero:=by
 obtain⟨d,_,h1,_,e,he⟩:=A.order hL a
 rw[he,A.mul_mul,h1,A.mul_zero]
theorem prime_dvd{L:List G}(hL:All L){a:G}{p:Nat}(hp:aU p)(ha:a≠A.zero)(h:A.mul a p=A.zero):p∣L.length:=by
 obtain⟨d,_,h1,h2,h3⟩:=A.order hL a
 rcases hp.2 d (h2 p h)with rfl | rfl
 ·exact absurd (by rw[← A.mul_one a];exact h1) ha
 ·exact h3
theorem square_dvd{L:List G}(hL:All L){a b:G}{p:Nat}(hp:aU p)(ha:a≠A.zero)(h1:A.mul a p=A.zero)(h2:A.mul b p=A.zero)
  (hb:∀i,i<p→b≠A.mul a i):p*p∣L.length:=by
 have hp0:=hp.pos
 have hmod:∀(c:G),A.mul c p=A.zero→∀k,A.mul c k=A.mul c (k%p):=fun c hc k=>by
  have:A.mul c (p*(k/p)+k%p)=A.mul c (k%p):=by rw[A.mul_add,A.mul_mul,hc,A.mul_zero,A.zadd]
  rw[← this,Nat.div_add_mod]
 have hneg:∀(c:G),A.mul c p=A.zero→∀j,A.neg (A.mul c j)=A.mul c (p*j-j):=fun c hc j=>A.neg_eq (by
  rw[← A.mul_add,Nat.sub_add_cancel (Nat.le_mul_of_pos_left j hp0),A.mul_mul,hc,A.mul_zero])
 have hord:∀(c:G),c≠A.zero→A.mul c p=A.zero→∀k,A.mul c k=A.zero→p∣k:=fun c hc hcp k hk=>by
  obtain⟨d,_,e1,e2,_⟩:=A.order hL c
  rcases hp.2 d (e2 p hcp)with rfl | rfl
  ·exact absurd (by rw[← A.mul_one c];exact e1) hc
  ·exact e2 k hk
 have hb0:b≠A.zero:=hb 0 hp0
 have key:∀i j,A.mul b j=A.mul a i→p∣j:=by
  intro i j hij
  apply Classical.byContradiction
  intro hj
  obtain⟨t,ht⟩:=u4 hp hj
  have e1:A.mul b (j*t)=b:=by rw[hmod b h2,ht,A.mul_one]
  rw[A.mul_mul,hij,← A.mul_mul,hmod a h1]at e1
  exact hb _ (Nat.mod_lt _ hp0) e1.symm
 let f:Nat→G:=fun k=>A.add (A.mul a (k/p)) (A.mul b (k%p))
 have hlin:∀i j i' j',A.add (A.mul a i) (A.mul b j)=A.add (A.mul a i') (A.mul b j')→p∣(i+(p*i'-i'))∧p∣(j+(p*j'-j')):=by
  intro i j i' j' h
  have e1:A.add (A.mul a (i+(p*i'-i'))) (A.mul b (j+(p*j'-j')))=A.zero:=by
   rw[A.mul_add,A.mul_add,A.four,h,A.four,← A.mul_add,← A.mul_add,Nat.add_sub_cancel' (Nat.le_mul_of_pos_left i' hp0),Nat.add_sub_cancel' (Nat.le_mul_of_pos_left j' hp0),A.mul_mul,A.mul_mul,h1,h2,A.mul_zero,A.mul_zero,A.zadd]
  have e2:A.mul b (j+(p*j'-j'))=A.neg (A.mul a (i+(p*i'-i'))):=(A.neg_eq (by rw[A.comm];exact e1)).symm
  have e3:=key _ _ (e2.trans (hneg a h1 _))
  refine⟨?_,e3⟩
  obtain⟨m,hm⟩:=e3
  rw[hm,A.mul_mul,h2,A.mul_zero,A.addz]at e1
  exact hord a ha h1 _ e1
 have hmodeq:∀x y,x<p→y<p→p∣(x+(p*y-y))→x=y:=by
  intro x y hx hy h
  obtain⟨q,rfl⟩:∃q,p=q+1:=⟨p-1,by omega⟩
  rw[show(q+1)*y-y=q*y by rw[Nat.add_mul,Nat.one_mul,Nat.add_sub_cancel]]at h
  have e:(x+q*y+y)%(q+1)=y%(q+1):=by
   obtain⟨m,hm⟩:=h
   rw[hm,Nat.mul_add_mod]
  rw[show x+q*y+y=x+(q+1)*y by rw[Nat.add_mul,Nat.one_mul,Nat.add_assoc],Nat.add_mul_mod_self_left,Nat.mod_eq_of_lt hx,Nat.mod_eq_of_lt hy]at e
  exact e
 have hH:((List.range (p*p)).map f).Nodup:=km fun k k' hk hk' e=>by
  have hlt:k/p<p:=Nat.div_lt_of_lt_mul (by omega)
  have hlt':k'/p<p:=Nat.div_lt_of_lt_mul hk'
  obtain⟨e1,e2⟩:=hlin _ _ _ _ e
  have e1:=hmodeq _ _ hlt hlt' e1
  have e2:=hmodeq _ _ (Nat.mod_lt _ hp0) (Nat.mod_lt _ hp0) e2
  have:=Nat.div_add_mod k p
  have:=Nat.div_add_mod k' p
  rw[e1,e2]at *
  omega
 have hmem:∀i j,A.add (A.mul a i) (A.mul b j)∈(List.range (p*p)).map f:=fun i j=>List.mem_map.2 ⟨p*(i%p)+j%p,List.mem_range.2 (by
  have h3:=Nat.mod_lt i hp0
  have h4:=Nat.mod_lt j hp0
  calc p*(i%p)+j%p<p*(i%p)+p:=by omega
   _=p*(i%p+1):=by rw[Nat.mul_add,Nat.mul_one]
   _≤p*p:=Nat.mul_le_mul_left _ h3),by
  show A.add (A.mul a ((p*(i%p)+j%p)/p)) (A.mul b ((p*(i%p)+j%p)%p))=_
  rw[Nat.mul_add_div hp0,Nat.div_eq_of_lt (Nat.mod_lt j hp0),Nat.add_zero,Nat.mul_add_mod,Nat.mod_mod,← hmod a h1,← hmod b h2]⟩
 have:=A.lagrange hH (by have:=hmem 0 0;rwa [show A.add (A.mul a 0) (A.mul b 0)=A.zero from A.zadd _]at this) (by
  intro x hx y hy
  obtain⟨k,_,rfl⟩:=List.mem_map.1 hx
  obtain⟨k',_,rfl⟩:=List.mem_map.1 hy
  show A.add (A.add (A.mul a (k/p)) (A.mul b (k%p))) (A.neg (A.add (A.mul a (k'/p)) (A.mul b (k'%p))))∈_
  have e:A.neg (A.add (A.mul a (k'/p)) (A.mul b (k'%p)))=A.add (A.mul a (p*(k'/p)-k'/p)) (A.mul b (p*(k'%p)-k'%p)):=A.neg_eq (by
   rw[A.four,← A.mul_add,← A.mul_add,Nat.sub_add_cancel (Nat.le_mul_of_pos_left _ hp0),Nat.sub_add_cancel (Nat.le_mul_of_pos_left _ hp0),A.mul_mul,A.mul_mul,h1,h2,A.mul_zero,A.mul_zero,A.zadd])
  rw[e,A.four,← A.mul_add,← A.mul_add]
  exact hmem _ _) L.length L rfl hL.nd (fun x _ h _=>hL.all _)
 rwa [List.length_map,List.length_range]at this
end AG
theorem WO{α:Type}(l:List α):∃m:List α,m.Nodup∧(∀x,x∈m↔x∈l)∧m.length≤l.length:=by
 induction l with
 | nil=>exact⟨[],List.nodup_nil,fun _=>Iff.rfl,Nat.le_refl _⟩
 | cons x l ih=>
  obtain⟨m,h1,h2,h3⟩:=ih
  by_cases h:x∈m
  ·exact⟨m,h1,fun y=>by
    rw[List.mem_cons,h2 y]
    exact⟨.inr,fun hy=>hy.elim (fun e=>e ▸ (h2 x).1 h) id⟩,Nat.le_succ_of_le h3⟩
  ·exact⟨x::m,List.nodup_cons.2 ⟨h,h1⟩,fun y=>by rw[List.mem_cons,List.mem_cons,h2 y],Nat.succ_le_succ h3⟩
end Go.Proofs.YtndhfbecpghinaaGreat.L.Pr
namespace Go.Proofs.YtndhfbecpghinaaGreat.L.Kf
open Pr
namespace K2
variable {n:Nat} [NeZero n]
attribute [local irreducible] add mul sub neg zero one inv
abbrev Cu(b:K2 n):={q:Pt n // Onc b q}
section
variable (hp:P3 n) {b:K2 n} (h2:No2 b)
def cg:AG (Cu b) where
 add P Q:=⟨pa P.1 Q.1,di hp P.2 Q.2⟩
 zero:=⟨none,trivial⟩
 neg P:=⟨pn P.1,cF P.2⟩
 assoc P Q R:=Subtype.ext (dW hp h2 P.2 Q.2 R.2)
 comm P Q:=Subtype.ext (dr hp P.2 Q.2)
 zadd _:=Subtype.ext rfl
 nadd P:=Subtype.ext (m7 hp P.1)
theorem F9(P:Cu b)(k:Nat):((cg hp h2).mul P k).1=tim P.1 k:=by
 induction k with
 | zero=>rfl
 | succ k ih=>show pa ((cg hp h2).mul P k).1 P.1=pa (tim P.1 k) P.1;rw[ih]
theorem uD{P:Cu b}:P=(cg hp h2).zero↔P.1=none:=⟨fun e=>congrArg Subtype.val e,fun e=>Subtype.ext e⟩
theorem pC{P:Cu b}{k:Nat}:(cg hp h2).mul P k=(cg hp h2).zero↔tim P.1 k=none:=by
 rw[uD,F9]
end
def FY(n:Nat)[NeZero n]:List (K2 n):=(List.range (n*n)).map fun k=>⟨κ n (k/n),κ n (k%n)⟩
theorem FZ(x:K2 n):x∈FY n:=by
 have h0:0<n:=Nat.pos_of_ne_zero (NeZero.ne n)
 refine List.mem_map.2 ⟨n*x.re.val+x.im.val,List.mem_range.2 ?_,?_⟩
 ·have h1:=x.re.isLt
  have h3:=x.im.isLt
  calc n*x.re.val+x.im.val<n*x.re.val+n:=by omega
   _=n*(x.re.val+1):=by rw[Nat.mul_add,Nat.mul_one]
   _≤n*n:=Nat.mul_le_mul_left _ h1
 ·refine ext' ?_ ?_
  ·show κ n ((n*x.re.val+x.im.val)/n)=x.re
   rw[Nat.mul_add_div h0,Nat.div_eq_of_lt x.im.isLt,Nat.add_zero,iO]
  ·show κ n ((n*x.re.val+x.im.val)%n)=x.im
   rw[Nat.mul_add_mod,mf,iO]
theorem w7{α β:Type}(f:α→List β)(h:∀x,(f x).length≤2):∀l:List α,(l.flatMap f).length≤2*l.length
 | []=>Nat.le_refl _
 | x::l=>by
  rw[List.flatMap_cons,List.length_append,List.length_cons]
  have:=h x
  have:=w7 f h l
  omega
open Classical in
noncomputable def over(b x:K2 n):List (Cu b):=
 if h:∃y,Onc b (some (x,y))then[⟨some (x,h.choose),h.choose_spec⟩,⟨some (x,neg h.choose),cF h.choose_spec⟩]else[]
theorem Iy(b x:K2 n):(over b x).length≤2:=by
 unfold over
 split
 ·exact Nat.le_refl _
 ·exact Nat.zero_le _
theorem Ix(hp:P3 n){b x y:K2 n}(h:Onc b (some (x,y))):(⟨some (x,y),h⟩:Cu b)∈over b x:=by
 unfold over
 have hex:∃y,Onc b (some (x,y)):=⟨y,h⟩
 rw[dif_pos hex]
 have hz:mul hex.choose hex.choose=mul y y:=(bL hex.choose_spec).trans (bL h).symm
 rcases aW hp (CI hz)with e | e
 ·have e:=aE e
  refine List.mem_cons.2 (.inl (Subtype.ext ?_))
  show some (x,y)=some (x,hex.choose)
  rw[e]
 ·have e:=aP e
  refine List.mem_cons_of_mem _ (List.mem_singleton.2 (Subtype.ext ?_))
  show some (x,y)=some (x,neg hex.choose)
  rw[e,bv]
theorem IR(hp:P3 n)(b:K2 n):∃L:List (Cu b),AG.All L∧L.length≤2*(n*n)+1:=by
 obtain⟨L,h1,h2,h3⟩:=WO ((⟨none,trivial⟩:Cu b)::(FY n).flatMap (over b))
 refine⟨L,⟨h1,fun P=>(h2 P).2 ?_⟩,Nat.le_trans h3 ?_⟩
 ·obtain⟨P,hP⟩:=P
  cases P with
  | none=>exact List.mem_cons_self ..
  | some q=>exact List.mem_cons_of_mem _ (List.mem_flatMap.2 ⟨q.1,FZ _,Ix hp hP⟩)
 ·rw[List.length_cons]
  have:=w7 (over b) (Iy b) (FY n)
  rw[show(FY n).length=n*n by unfold FY;rw[List.length_map,List.length_range]]at this
  exact Nat.succ_le_succ this
theorem A9{b:K2 n}(h2:No2 b){q:Pt n}(ho:Onc b q)(h:pa q q=none):q=none:=by
 cases q with
 | none=>rfl
 | some q=>
  have hy:=gD h2 (bL ho)
  exfalso
  have:pa (some q) (some q)=some (cx (f6 q.1 q.2) q.1 q.1,cy (f6 q.1 q.2) q.1 q.2 q.1):=by
   show(if q.1=q.1 then if q.2=q.2∧q.2≠zero then _ else _ else _)=_
   rw[if_pos rfl,if_pos ⟨rfl,hy⟩]
  rw[this]at h
  cases h
theorem UB(hp:P3 n){b:K2 n}(h2:No2 b){M:Nat}(hM:∀L:List (Cu b),AG.All L→M∣L.length)(hb:2*(n*n)+1<3*M){q:Pt n}(ho:Onc b q):tim q M=none:=by
 obtain⟨L,hL,hlen⟩:=IR hp b
 obtain⟨k,hk⟩:=hM L hL
 have h0:0<L.length:=List.length_pos_of_mem (hL.all (⟨none,trivial⟩:Cu b))
 have h:=(cg hp h2).mul_all hL ⟨q,ho⟩
 rw[pC]at h
 rw[hk]at h h0 hlen
 have hk3:k<3:=by
  apply Classical.byContradiction
  intro hc
  have:=Nat.mul_le_mul_left M (Nat.le_of_not_lt hc)
  omega
 have hk0:k≠0:=by rintro rfl;rw[Nat.mul_zero]at h0;omega
 rcases(show k=1∨k=2 by omega)with rfl | rfl
 ·rwa [Nat.mul_one]at h
 ·rw[Nat.mul_two]at h
  have h3:pa (tim q M) (tim q M)=none:=by rw[← fj hp h2 ho];exact h
  exact A9 h2 (cW hp ho M) h3
theorem rB(hp:P3 n){b:K2 n}(h2:No2 b){q:Pt n}(ho:Onc b q)(hq:q≠none){l:Nat}(hl:aU l)(h:tim q l=none):∀L:List (Cu b),AG.All L→l∣L.length:=fun _ hL=>
 (cg hp h2).prime_dvd hL (a:=⟨q,ho⟩) hl (fun e=>hq ((uD hp h2).1 e)) ((pC hp h2).2 h)
theorem vK(hp:P3 n){b:K2 n}(h2:No2 b){q s:Pt n}(ho:Onc b q)(hs:Onc b s)(hq:q≠none){l:Nat}(hl:aU l)(h:tim q l=none)(h':tim s l=none)(hn:∀i,i<l→s≠tim q i):∀L:List (Cu b),AG.All L→l*l∣L.length:=fun _ hL=>
 (cg hp h2).square_dvd hL (a:=⟨q,ho⟩) (b:=⟨s,hs⟩) hl (fun e=>hq ((uD hp h2).1 e)) ((pC hp h2).2 h) ((pC hp h2).2 h') (fun i hi e=>hn i hi (by rw[← F9 hp h2 ⟨q,ho⟩];exact congrArg Subtype.val e))
end K2
end Go.Proofs.YtndhfbecpghinaaGreat.L.Kf
namespace Go.Proofs.YtndhfbecpghinaaGreat.L.Pr
set_option maxRecDepth 100000
theorem IH:aU 13:=jO 2 (by decide +kernel)
theorem II:aU 23:=jO 2 (by decide +kernel)
theorem AK:aU 2713:=jO 6 (by decide +kernel)
theorem xX:aU 11953:=jO 7 (by decide +kernel)
theorem vG:aU 262069:=jO 9 (by decide +kernel)
theorem sE:aU 1367711:=jO 11 (by decide +kernel)
theorem ED:aU 541:=jO 5 (by decide +kernel)
theorem IJ:aU 12192593745179:=lS (f:=44) [(1367711,0,2),(541,0,2)] (by
 intro x hx
 simp only[List.mem_cons,List.not_mem_nil,or_false]at hx
 rcases hx with rfl | rfl
 ·exact sE
 ·exact ED) (by decide +kernel)
theorem IK:aU 512088937297519:=lS (f:=49) [(12192593745179,0,2)] (by
 intro x hx
 simp only[List.mem_cons,List.not_mem_nil,or_false]at hx
 rcases hx with rfl
 ·exact IJ) (by decide +kernel)
theorem EE:aU 1857858664515398933:=lS (f:=61) [(512088937297519,0,2)] (by
 intro x hx
 simp only[List.mem_cons,List.not_mem_nil,or_false]at hx
 rcases hx with rfl
 ·exact IK) (by decide +kernel)
theorem EF:aU 22294303974184787197:=lS (f:=65) [(1857858664515398933,0,2)] (by
 intro x hx
 simp only[List.mem_cons,List.not_mem_nil,or_false]at hx
 rcases hx with rfl
 ·exact EE) (by decide +kernel)
theorem EG:aU 19931107752921199754119:=lS (f:=75) [(22294303974184787197,0,2)] (by
 intro x hx
 simp only[List.mem_cons,List.not_mem_nil,or_false]at hx
 rcases hx with rfl
 ·exact EF) (by decide +kernel)
theorem EH:aU 81162125843606155545104998607900118769099783:=lS (f:=146) [(19931107752921199754119,0,2)] (by
 intro x hx
 simp only[List.mem_cons,List.not_mem_nil,or_false]at hx
 rcases hx with rfl
 ·exact EG) (by decide +kernel)
theorem EI:aU 26935696298915610574513298451669528361624243820491956655650666425177:=lS (f:=224) [(81162125843606155545104998607900118769099783,0,2)] (by
 intro x hx
 simp only[List.mem_cons,List.not_mem_nil,or_false]at hx
 rcases hx with rfl
 ·exact EH) (by decide +kernel)
theorem EJ:aU 4638704574076146691498289350639807119782054683906549022985642612861209609656189848749536921852444848596916990932297:=lS (f:=381) [(26935696298915610574513298451669528361624243820491956655650666425177,0,2)] (by
 intro x hx
 simp only[List.mem_cons,List.not_mem_nil,or_false]at hx
 rcases hx with rfl
 ·exact EI) (by decide +kernel)
theorem Mw:aU 402096035359507321594726366720466575392706800671181159425656785868777272553337714697862511267018014931937703598282857976535744623203249:=lS (f:=448) [(4638704574076146691498289350639807119782054683906549022985642612861209609656189848749536921852444848596916990932297,0,2)] (by
 intro x hx
 simp only[List.mem_cons,List.not_mem_nil,or_false]at hx
 rcases hx with rfl
 ·exact EJ) (by decide +kernel)
end Go.Proofs.YtndhfbecpghinaaGreat.L.Pr
namespace Go.Proofs.YtndhfbecpghinaaGreat.L
open Go Go.Proofs
set_option maxRecDepth 100000
section
attribute [local irreducible] Code.wp wpList Af bodyPost L.Go
open Num
theorem RG{S:Kf.K2.St}{P:Kf.K2.Pt p}{x:Kf.K2.PN}{y:F2}(h:Kf.K2.Stands S P)(hd:(Kf.K2.isz S.z || !Kf.K2.isz (Kf.K2.plH p S x))=true):(some (Kf.K2.red p x,y):Kf.K2.Pt p)≠P:=by
 intro e
 have hz:Kf.K2.isz S.z=false:=by
  cases hz:Kf.K2.isz S.z with
  | false=>rfl
  | true=>rw[h.none_iff.1 hz]at e;cases e
 rw[hz,Bool.false_or]at hd
 have z0:Kf.K2.red p S.z≠Kf.K2.zero:=fun e=>by rw[(Kf.K2.dY h.z).2 e]at hz;cases hz
 rw[← h.e,Kf.K2.pq z0]at e
 have e1:Kf.K2.red p x=Kf.K2.jx (Kf.K2.red p S.x) (Kf.K2.red p S.z):=congrArg (fun o:Kf.K2.Pt p=>match o with | none=>Kf.K2.zero | some q=>q.1) e
 have hi:=(Kf.K2.aI p_3 z0).trans Kf.K2.dN.symm
 have e2:=Kf.K2.Ou hi e1.symm
 have hn:=Nat.dvd_refl p
 have h0:=bY
 have e3:Kf.K2.red p (Kf.K2.plH p S x)=Kf.K2.zero:=by
  rw[← e2]
  simp only[Kf.K2.plH,Kf.K2.d8 hn h0,Kf.K2.cZ hn h0,Kf.K2.pH]
 have e4:=(Kf.K2.dY (Kf.K2.jt h0 _ _)).2 e3
 rw[show Kf.K2.dv p (Kf.K2.aO p x (Kf.K2.aO p S.z S.z)) S.x=Kf.K2.plH p S x from rfl]at e4
 rw[e4]at hd
 cases hd
theorem Ih{a b x:Kf.K2.PN}{y:F2}{l f:Nat}(ha:Kf.K2.ltP p a)(hb:Kf.K2.ltP p b)(ho:Kf.K2.Onc b2c (some (Kf.K2.red p a,Kf.K2.red p b)))(hl:l≤2^f)
  (h:(List.range l).all (fun i=>(Kf.K2.jgo p a b i f Kf.K2.vq).g&&(Kf.K2.isz (Kf.K2.jgo p a b i f Kf.K2.vq).z || !Kf.K2.isz (Kf.K2.plH p (Kf.K2.jgo p a b i f Kf.K2.vq) x)))=true):
  ∀i,i<l→(some (Kf.K2.red p x,y):Kf.K2.Pt p)≠Kf.K2.tim (some (Kf.K2.red p a,Kf.K2.red p b)) i:=by
 intro i hi
 have:=List.all_eq_true.1 h i (List.mem_range.2 hi)
 rw[Bool.and_eq_true]at this
 exact RG (Kf.K2.kW p_3 no2 ha hb ho (Nat.lt_of_lt_of_le hi hl) this.1) this.2
theorem gA{a b:Kf.K2.PN}{l f:Nat}(ha:Kf.K2.ltP p a)(hb:Kf.K2.ltP p b)(ho:Kf.K2.Onc b2c (some (Kf.K2.red p a,Kf.K2.red p b)))(hl:l<2^f)
  (h:((Kf.K2.jgo p a b l f Kf.K2.vq).g&&Kf.K2.isz (Kf.K2.jgo p a b l f Kf.K2.vq).z)=true):Kf.K2.tim (some (Kf.K2.red p a,Kf.K2.red p b)) l=none:=by
 rw[Bool.and_eq_true]at h
 exact(Kf.K2.kW p_3 no2 ha hb ho hl h.1).none_iff.1 h.2
def e0x:Kf.K2.PN:=(2732930528131101971611217246881750180683106134772116261772097223311611715341772080980349520485631927061565093082500,1624804182323061415002419486356893015843508388518757766191076390287001054493882962454462225453782815125112967330584)
def e0y:Kf.K2.PN:=(3893467846353003864083661299790087060260354055047221126513507759929187214484574158304677596688901387144120631851774,2873576094645233262270805484403102892230821419438861944784945239971798137977557654440842298211373996744583467941995)
theorem TV:Kf.K2.ltP p e0x:=by unfold Kf.K2.ltP;decide +kernel
theorem TW:Kf.K2.ltP p e0y:=by unfold Kf.K2.ltP;decide +kernel
theorem NT:Kf.K2.Onc b2c (some (Kf.K2.red p e0x,Kf.K2.red p e0y)):=show Kf.K2.mul (Kf.K2.red p e0y) (Kf.K2.red p e0y)=Kf.K2.add (Kf.K2.mul (Kf.K2.mul (Kf.K2.red p e0x) (Kf.K2.red p e0x)) (Kf.K2.red p e0x)) b2c by decide +kernel
theorem Wu:Kf.K2.tim (some (Kf.K2.red p e0x,Kf.K2.red p e0y)) 2713=none:=gA (f:=12) TV TW NT (by decide +kernel) (by decide +kernel)
def e1x:Kf.K2.PN:=(1854247552200671796290762094682081485062549137983414518419843264824777516848488982835075644141168762016099863964496,2453262726586132397845514920992038643697890559672297260083862336800848889493047522898371412514810404361560560182806)
def e1y:Kf.K2.PN:=(631050874728479091129663852256436773847489913836429807617462696769036715252939950774471986733361765681933794962003,3319851878711540555087758712995160246069763043719470346209582337524366152400752646724264963790353006193191809034212)
theorem T4:Kf.K2.ltP p e1x:=by unfold Kf.K2.ltP;decide +kernel
theorem T5:Kf.K2.ltP p e1y:=by unfold Kf.K2.ltP;decide +kernel
theorem NV:Kf.K2.Onc b2c (some (Kf.K2.red p e1x,Kf.K2.red p e1y)):=show Kf.K2.mul (Kf.K2.red p e1y) (Kf.K2.red p e1y)=Kf.K2.add (Kf.K2.mul (Kf.K2.mul (Kf.K2.red p e1x) (Kf.K2.red p e1x)) (Kf.K2.red p e1x)) b2c by decide +kernel
theorem Wz:Kf.K2.tim (some (Kf.K2.red p e1x,Kf.K2.red p e1y)) 11953=none:=gA (f:=14) T4 T5 NV (by decide +kernel) (by decide +kernel)
def e2x:Kf.K2.PN:=(3585882940940123013268656861893695144087016218084638877734548085628496539673708874517800297462173798022978434573316,3249695541147246801462394281019803944823620003741077476887539079277689246216854906768188995244707190556741090520591)
def e2y:Kf.K2.PN:=(1351827535497653296159023728595899920703594823441352227036821938812534411340809485437529542203114709240362216682344,2134882000594129960028861217504277504257556173374576646915278154221857029512890132494487016649875117503216456548496)
theorem T7:Kf.K2.ltP p e2x:=by unfold Kf.K2.ltP;decide +kernel
theorem T8:Kf.K2.ltP p e2y:=by unfold Kf.K2.ltP;decide +kernel
theorem NW:Kf.K2.Onc b2c (some (Kf.K2.red p e2x,Kf.K2.red p e2y)):=show Kf.K2.mul (Kf.K2.red p e2y) (Kf.K2.red p e2y)=Kf.K2.add (Kf.K2.mul (Kf.K2.mul (Kf.K2.red p e2x) (Kf.K2.red p e2x)) (Kf.K2.red p e2x)) b2c by decide +kernel
theorem WB:Kf.K2.tim (some (Kf.K2.red p e2x,Kf.K2.red p e2y)) 262069=none:=gA (f:=18) T7 T8 NW (by decide +kernel) (by decide +kernel)
def e3x:Kf.K2.PN:=(221936139291288489439513367527481495057882256099240953159569289799120704596728113827679483911795605698084286051573,3415555305535896194370153360405012379594754145007175298728826366042527546586477148490156050006251723613414992878937)
def e3y:Kf.K2.PN:=(3077596325830596161068317882852825580913622505477201261085323465694381487244631311082363101032370366548699883569914,951286233704538839119986282443269760452142569860253286581374505157382986650620546008451758486869596980584371380856)
theorem Ua:Kf.K2.ltP p e3x:=by unfold Kf.K2.ltP;decide +kernel
theorem Ub:Kf.K2.ltP p e3y:=by unfold Kf.K2.ltP;decide +kernel
theorem NY:Kf.K2.Onc b2c (some (Kf.K2.red p e3x,Kf.K2.red p e3y)):=show Kf.K2.mul (Kf.K2.red p e3y) (Kf.K2.red p e3y)=Kf.K2.add (Kf.K2.mul (Kf.K2.mul (Kf.K2.red p e3x) (Kf.K2.red p e3x)) (Kf.K2.red p e3x)) b2c by decide +kernel
theorem WC:Kf.K2.tim (some (Kf.K2.red p e3x,Kf.K2.red p e3y)) 402096035359507321594726366720466575392706800671181159425656785868777272553337714697862511267018014931937703598282857976535744623203249=none:=gA (f:=448) Ua Ub NY (by decide +kernel) (by decide +kernel)
def e4x:Kf.K2.PN:=(3724786844502180167891558729416129449000115420642389737248204246659523970410542797357533898368708494837061665677680,1141335301852042111109904309412722578402802990019776025308351928836484500914601819891608123758423149595378570951794)
def e4y:Kf.K2.PN:=(3659199057390176532242870202066124952884786772473267866939750082073367303377577444236085326897248847277067207759400,1458838372592766091508702817080480380647037193169483027221674853013145380294636776981066911163277917352681107466967)
theorem NZ:Kf.K2.ltP p e4x:=by unfold Kf.K2.ltP;decide +kernel
theorem N0:Kf.K2.ltP p e4y:=by unfold Kf.K2.ltP;decide +kernel
theorem oL:Kf.K2.Onc b2c (some (Kf.K2.red p e4x,Kf.K2.red p e4y)):=show Kf.K2.mul (Kf.K2.red p e4y) (Kf.K2.red p e4y)=Kf.K2.add (Kf.K2.mul (Kf.K2.mul (Kf.K2.red p e4x) (Kf.K2.red p e4x)) (Kf.K2.red p e4x)) b2c by decide +kernel
theorem Lk:Kf.K2.tim (some (Kf.K2.red p e4x,Kf.K2.red p e4y)) 52435875175126190479447740508185965837690552500527637822603658699938581184513=none:=gA (f:=255) NZ N0 oL (by decide +kernel) (by decide +kernel)
def DY:Kf.K2.PN:=(249367334142669963646324981136200765326260363708790066858131337966551089777386290072409819006724137548003034317840,630214770544375407070343935183851022115778996321952592597513998296250362306921804284466551526689698439285130190803)
def GO:Kf.K2.PN:=(3255931259487654311761675973442790385748961685389911941626630586830515265085259697684420727150124840128609202119395,3805088508598071439828456387093867998299269280435293096449769375317715796189840460067869641218405040002254200256628)
theorem GM:Kf.K2.ltP p DY:=by unfold Kf.K2.ltP;decide +kernel
theorem GN:Kf.K2.ltP p GO:=by unfold Kf.K2.ltP;decide +kernel
theorem z7:Kf.K2.Onc b2c (some (Kf.K2.red p DY,Kf.K2.red p GO)):=show Kf.K2.mul (Kf.K2.red p GO) (Kf.K2.red p GO)=Kf.K2.add (Kf.K2.mul (Kf.K2.mul (Kf.K2.red p DY) (Kf.K2.red p DY)) (Kf.K2.red p DY)) b2c by decide +kernel
theorem Uh:Kf.K2.tim (some (Kf.K2.red p DY,Kf.K2.red p GO)) 13=none:=gA (f:=4) GM GN z7 (by decide +kernel) (by decide +kernel)
def D7:Kf.K2.PN:=(3302811696236693048817432710937200207154146062888472244124401231088541568825880779436480055488906969507825521497988,2159161761998572029827115715135251648516413537530764144546098409415901214338605707709859368308445700024446995204964)
def Hf:Kf.K2.PN:=(918272763181459299777785049801485251739425764325067183332904369815332912808088109486288125688779618627172051883901,1520342217214845708397311524493951876842629938360259965595483298367599583510590171163992542460916921937176980633828)
theorem QY:Kf.K2.ltP p D7:=by unfold Kf.K2.ltP;decide +kernel
theorem QZ:Kf.K2.ltP p Hf:=by unfold Kf.K2.ltP;decide +kernel
theorem He:Kf.K2.Onc b2c (some (Kf.K2.red p D7,Kf.K2.red p Hf)):=show Kf.K2.mul (Kf.K2.red p Hf) (Kf.K2.red p Hf)=Kf.K2.add (Kf.K2.mul (Kf.K2.mul (Kf.K2.red p D7) (Kf.K2.red p D7)) (Kf.K2.red p D7)) b2c by decide +kernel
theorem Up:Kf.K2.tim (some (Kf.K2.red p D7,Kf.K2.red p Hf)) 13=none:=gA (f:=4) QY QZ He (by decide +kernel) (by decide +kernel)
def DZ:Kf.K2.PN:=(2100989141674736290334623335377785686341226648588822499472792282048962536451111251404132830159345397652384226341187,3840522637552796655335982991642318043474496655907274714563720532856438633635476919160308843927093044748568693045924)
def GR:Kf.K2.PN:=(199154094337164924625675979139541069878298196429898264448916972753328318735204784864697614111604578469428835674533,1275072922746497953683575457784634997213136127181158649310296974027492714454889277511457129178967738291649294335720)
theorem GP:Kf.K2.ltP p DZ:=by unfold Kf.K2.ltP;decide +kernel
theorem GQ:Kf.K2.ltP p GR:=by unfold Kf.K2.ltP;decide +kernel
theorem z8:Kf.K2.Onc b2c (some (Kf.K2.red p DZ,Kf.K2.red p GR)):=show Kf.K2.mul (Kf.K2.red p GR) (Kf.K2.red p GR)=Kf.K2.add (Kf.K2.mul (Kf.K2.mul (Kf.K2.red p DZ) (Kf.K2.red p DZ)) (Kf.K2.red p DZ)) b2c by decide +kernel
theorem Ui:Kf.K2.tim (some (Kf.K2.red p DZ,Kf.K2.red p GR)) 23=none:=gA (f:=5) GP GQ z8 (by decide +kernel) (by decide +kernel)
def D8:Kf.K2.PN:=(1958017204391899394539162206591781961608870984938316392030853326152268775835027896430372983811689995677676747072868,1850899225844837626114930600540447784016769379102227377138527684896245565298183789770612318797852436809847033533128)
def Hh:Kf.K2.PN:=(453219839902191911911834952005864423867881091105845164171390316115950752220286130881322572399315885808516372185458,2884609588929288605226694121021975550067649551179596463553381328192507286764160491648258213571772038164332954648007)
theorem Q0:Kf.K2.ltP p D8:=by unfold Kf.K2.ltP;decide +kernel
theorem Q5:Kf.K2.ltP p Hh:=by unfold Kf.K2.ltP;decide +kernel
theorem Hg:Kf.K2.Onc b2c (some (Kf.K2.red p D8,Kf.K2.red p Hh)):=show Kf.K2.mul (Kf.K2.red p Hh) (Kf.K2.red p Hh)=Kf.K2.add (Kf.K2.mul (Kf.K2.mul (Kf.K2.red p D8) (Kf.K2.red p D8)) (Kf.K2.red p D8)) b2c by decide +kernel
theorem Uq:Kf.K2.tim (some (Kf.K2.red p D8,Kf.K2.red p Hh)) 23=none:=gA (f:=5) Q0 Q5 Hg (by decide +kernel) (by decide +kernel)
theorem Cr(L:List (Kf.K2.Cu b2c))(hL:Pr.AG.All L):16019282247729705411943748644318972617695120099330552659862384536985976748491357143400656079302193429974954385540174732940659106207100323726025938325193045129788127168347624263893040187112659960846674086295148469572963088890738917∣L.length:=by
 have h0:2713∣L.length:=Kf.K2.rB p_3 no2 NT (by intro h;cases h) Pr.AK Wu L hL
 have h1:11953∣L.length:=Kf.K2.rB p_3 no2 NV (by intro h;cases h) Pr.xX Wz L hL
 have k1:32428489∣L.length:=by
  have:=Nat.Coprime.mul_dvd_of_dvd_of_dvd (show Nat.Coprime 2713 11953 by decide +kernel) h0 h1
  rwa [show 2713*11953=32428489 by decide +kernel]at this
 have h2:262069∣L.length:=Kf.K2.rB p_3 no2 NW (by intro h;cases h) Pr.vG WB L hL
 have k2:8498501683741∣L.length:=by
  have:=Nat.Coprime.mul_dvd_of_dvd_of_dvd (show Nat.Coprime 32428489 262069 by decide +kernel) k1 h2
  rwa [show 32428489*262069=8498501683741 by decide +kernel]at this
 have h3:402096035359507321594726366720466575392706800671181159425656785868777272553337714697862511267018014931937703598282857976535744623203249∣L.length:=Kf.K2.rB p_3 no2 NY (by intro h;cases h) Pr.Mw WC L hL
 have k3:3417213833528353644824999196800052619260030863795574352274180747220585946275454234589181635096475183139252053545727862789966597950563999243361674509∣L.length:=by
  have:=Nat.Coprime.mul_dvd_of_dvd_of_dvd (show Nat.Coprime 8498501683741 402096035359507321594726366720466575392706800671181159425656785868777272553337714697862511267018014931937703598282857976535744623203249 by decide +kernel) k2 h3
  rwa [show 8498501683741*402096035359507321594726366720466575392706800671181159425656785868777272553337714697862511267018014931937703598282857976535744623203249=3417213833528353644824999196800052619260030863795574352274180747220585946275454234589181635096475183139252053545727862789966597950563999243361674509 by decide +kernel]at this
 have h4:52435875175126190479447740508185965837690552500527637822603658699938581184513∣L.length:=Kf.K2.rB p_3 no2 oL (by intro h;cases h) Pr.pQ Lk L hL
 have k4:179184598021607201395328336867808778623227034365729160298681049842686063338121018147455353735441364525843719707164066765927216767229676667218777623574602578604133367281659313250333219842201540931831568844813240003724377679117∣L.length:=by
  have:=Nat.Coprime.mul_dvd_of_dvd_of_dvd (show Nat.Coprime 3417213833528353644824999196800052619260030863795574352274180747220585946275454234589181635096475183139252053545727862789966597950563999243361674509 52435875175126190479447740508185965837690552500527637822603658699938581184513 by decide +kernel) k3 h4
  rwa [show 3417213833528353644824999196800052619260030863795574352274180747220585946275454234589181635096475183139252053545727862789966597950563999243361674509*52435875175126190479447740508185965837690552500527637822603658699938581184513=179184598021607201395328336867808778623227034365729160298681049842686063338121018147455353735441364525843719707164066765927216767229676667218777623574602578604133367281659313250333219842201540931831568844813240003724377679117 by decide +kernel]at this
 have h5:169∣L.length:=Kf.K2.vK p_3 no2 z7 He (by intro h;cases h) Pr.IH Uh Up (Ih (f:=4) GM GN z7 (by decide) (by decide +kernel)) L hL
 have k5:30282197065651617035810488930659683587325368807808228090477097423413944704142452066919954781289590604867588630510727283441699633661815356759973418384107835784098539070600423939306314153332060417479535134773437560629419827770773∣L.length:=by
  have:=Nat.Coprime.mul_dvd_of_dvd_of_dvd (show Nat.Coprime 179184598021607201395328336867808778623227034365729160298681049842686063338121018147455353735441364525843719707164066765927216767229676667218777623574602578604133367281659313250333219842201540931831568844813240003724377679117 169 by decide +kernel) k4 h5
  rwa [show 179184598021607201395328336867808778623227034365729160298681049842686063338121018147455353735441364525843719707164066765927216767229676667218777623574602578604133367281659313250333219842201540931831568844813240003724377679117*169=30282197065651617035810488930659683587325368807808228090477097423413944704142452066919954781289590604867588630510727283441699633661815356759973418384107835784098539070600423939306314153332060417479535134773437560629419827770773 by decide +kernel]at this
 have h6:529∣L.length:=Kf.K2.vK p_3 no2 z8 Hg (by intro h;cases h) Pr.II Ui Uq (Ih (f:=5) GP GQ z8 (by decide) (by decide +kernel)) L hL
 have k6:16019282247729705411943748644318972617695120099330552659862384536985976748491357143400656079302193429974954385540174732940659106207100323726025938325193045129788127168347624263893040187112659960846674086295148469572963088890738917∣L.length:=by
  have:=Nat.Coprime.mul_dvd_of_dvd_of_dvd (show Nat.Coprime 30282197065651617035810488930659683587325368807808228090477097423413944704142452066919954781289590604867588630510727283441699633661815356759973418384107835784098539070600423939306314153332060417479535134773437560629419827770773 529 by decide +kernel) k5 h6
  rwa [show 30282197065651617035810488930659683587325368807808228090477097423413944704142452066919954781289590604867588630510727283441699633661815356759973418384107835784098539070600423939306314153332060417479535134773437560629419827770773*529=16019282247729705411943748644318972617695120099330552659862384536985976748491357143400656079302193429974954385540174732940659106207100323726025938325193045129788127168347624263893040187112659960846674086295148469572963088890738917 by decide +kernel]at this
 exact k6
theorem IS{q:Kf.K2.Pt p}(ho:Kf.K2.Onc b2c q):Kf.K2.tim q 16019282247729705411943748644318972617695120099330552659862384536985976748491357143400656079302193429974954385540174732940659106207100323726025938325193045129788127168347624263893040187112659960846674086295148469572963088890738917=none:=Kf.K2.UB p_3 no2 Cr (by decide +kernel) ho
theorem WH:V hC*52435875175126190479447740508185965837690552500527637822603658699938581184513=16019282247729705411943748644318972617695120099330552659862384536985976748491357143400656079302193429974954385540174732940659106207100323726025938325193045129788127168347624263893040187112659960846674086295148469572963088890738917*686966430457948734194560730881182400509:=by decide +kernel
theorem Lb{q:Kf.K2.Pt p}(ho:Kf.K2.Onc b2c q):Kf.K2.tim (Kf.K2.tim q (V hC)) 52435875175126190479447740508185965837690552500527637822603658699938581184513=none:=by
 rw[← Kf.K2.iE p_3 no2 ho,WH,Kf.K2.iE p_3 no2 ho,IS ho,Kf.K2.f7]
end
section
attribute [local irreducible] Code.wp wpList Af bodyPost L.Go ab
open Num
attribute [local simp] ae
def rL:List Nat:=[18446744069414584321,6034159408538082302,3691218898639771653,8353516859464449352]
theorem OB:Lt 18446744073709551616 rL:=by unfold Lt rL;decide
theorem Sa:rL.length=4:=rfl
theorem U9:V rL=52435875175126190479447740508185965837690552500527637822603658699938581184513:=by decide +kernel
theorem G9:Spec Tryz.prog 121 [] ai [] (IsV (LV .u64 rL)):=by
 refine ad Tryz.func121 rfl rfl rfl fun w _=>?_
 repeat (first|(refine sN ?_;intro _)|(refine oy (m:=4) (kk:=.u64) (by rfl) (by rfl) (by rfl) (by rfl) (by rfl) (by rfl) (by rfl) (by rfl) ?_;rw[show[18446744069414584321,6034159408538082302,3691218898639771653,8353516859464449352]++List.replicate (4-[18446744069414584321,6034159408538082302,3691218898639771653,8353516859464449352].length) 0=rL from rfl])|refine Tf ?_|refine Z82 fun _=>?_)
 refine Zec fun _ hw=>aa hw SubW.nil ⟨?_,rfl⟩
 rfl
theorem HJ(x y:F2)(i:Bool):Spec Tryz.prog 116 [GE x y i] ai [] (IsV (.bool i)):=by
 refine ad Tryz.func116 rfl rfl rfl fun w _=>?_
 have hl0:=fun x=>ae 6 x
 have hle:=fun x:F2=>ak x
 repeat (first|refine fm ?_|refine bK ?_|refine eQ ?_|refine Z02 ?_|refine Z03 ?_|refine Z04 ?_|refine Z05 ?_|refine Z06 ?_|refine Z07 ?_|refine Z08 ?_|refine Z09 ?_|refine Z10 ?_|refine Z11 ?_|refine Z12 ?_|refine Z13 ?_|refine Z14 ?_|refine Z24 ?_|refine Z26 ?_|refine Z27 ?_|refine Z67 ?_|refine Z81 fun _=>?_)
 refine Ze1 fun _ hw=>aa hw SubW.nil ⟨?_,rfl⟩
 rfl
theorem OV{a b:Prop}(k:b)(h:Rm b→a:=by intro k;(first|refine ah (by rfl) (by rfl) (by rfl) (G9) (fun _ _=>trivial) (by rfl) ?_|refine Z01 ?_|refine Z02 ?_|refine Z03 ?_|refine Z04 ?_|refine Z05 ?_|refine Z06 ?_|refine Z07 ?_|refine Z08 ?_|refine Z09 ?_|refine Z10 ?_|refine Z11 ?_|refine Z12 ?_|refine Z13 ?_|refine Z14 ?_|refine Z17 ?_|refine Z18 ?_|refine Z19 ?_|refine Z24 ?_|refine Z26 ?_|refine Z27 ?_|refine Z29 ?_|refine Z30 ?_|refine Z31 ?_|refine Z32 ?_|refine Z49 ?_|refine Z50 ?_|refine Z51 ?_|refine Z52 ?_|refine Z62 ?_|refine Z63 ?_|refine Z67 ?_);exact k.h):a:=h ⟨k⟩
theorem OW{a b:Prop}(k:b)(h:Rm b→a:=by intro k;(first|refine Z01 ?_|refine Z02 ?_|refine Z17 ?_|refine Z18 ?_|refine Z19 ?_|refine Z49 ?_|refine Z50 ?_|refine Z62 ?_|refine Z63 ?_);exact k.h):a:=h ⟨k⟩
theorem OX{S1 a b:Prop}(s1:S1)(k:b)(h:S1→Rm b→a:=by intro s1 k;refine R.Zpp (by rfl) (by intro _ _ _;refine ah (by rfl) (by rfl) (by rfl) s1 (RdW.arrAll (m:=4) fd Sa) (by rfl) ?_;exact Zq) ?_;exact k.h):a:=h s1 ⟨k⟩
theorem PE{a b:Prop}(k:b)(h:Rm b→a:=by intro k;(first|refine y_8 ?_|refine Z01 ?_|refine Z02 ?_|refine Z03 ?_|refine Z04 ?_|refine Z05 ?_|refine Z06 ?_|refine Z07 ?_|refine Z08 ?_|refine Z09 ?_|refine Z10 ?_|refine Z11 ?_|refine Z12 ?_|refine Z13 ?_|refine Z14 ?_|refine Z17 ?_|refine Z18 ?_|refine Z19 ?_|refine Z24 ?_|refine Z26 ?_|refine Z27 ?_|refine Z29 ?_|refine Z30 ?_|refine Z31 ?_|refine Z32 ?_|refine Z49 ?_|refine Z50 ?_|refine Z51 ?_|refine Z52 ?_|refine Z62 ?_|refine Z63 ?_|refine Z67 ?_);exact k.h):a:=h ⟨k⟩
set_option maxHeartbeats 8000000 in
theorem Iw{P:Kf.K2.Pt p}(h:Kf.K2.Onc b2c P)(hr:Kf.K2.tim P 52435875175126190479447740508185965837690552500527637822603658699938581184513=none):
  Spec Tryz.prog 115 [GV P,.func (.func 37) #[] #[],.func (.func 116) #[] #[]] ai [] (IsV (.bool true)):=by
 refine ad Tryz.func115 rfl rfl rfl fun w _=>?_
 have hl0:=fun x=>ae 6 x
 have hle:=fun x:F2=>ak x
 have hm:∀s,Spec Tryz.prog 37 [s,GV P] (fun w=>Rd w s (rL.map (N .u64))) [] (IsV (.tuple [GV (Kf.K2.tim P (V rL)),N .i64 0].toArray)):=fun s=>
  uY h (ap (gx P).re) (ap (gx P).im) (ap (gy P).re) (ap (gy P).im) (gi P) (by rw[bq,bq,oo]) s rL OB (by decide)
 rw[U9,hr,kD]at hm
 obtain⟨x1,y1,i1,hq⟩:∃x1 y1 i1,GV P=GE x1 y1 i1:=⟨_,_,_,rfl⟩
 rw[hq]at hm ⊢
 have hi:=HJ Kf.K2.zero Kf.K2.zero true
 repeat (first|(refine co ?_;intro _)|(refine sN ?_;intro _)|refine OV ?_|refine Z81 fun _=>?_|refine Z82 fun _=>?_)
 refine R.af [0,1,2,3,4,5,6,7,8,9] (by rfl) ?_
 repeat (first|(refine R.Zpf (by rfl) (by intro _ _ _;(first|refine OW ?_);exact Zq) ?_)|refine ur ?_|refine za ?_|refine OX (hm _) ?_|refine gb ?_|(refine Ka ?_;intro _)|(refine aV ?_;intro _))
 refine R.Zp0 ?_
 repeat (first|refine du ?_|refine y_4 hi ?_|refine PE ?_|refine Z81 fun _=>?_|refine Z82 fun _=>?_)
 refine Ze1 fun _ hw=>aa hw SubW.nil ⟨?_,rfl⟩
 rfl
theorem OY{a b:Prop}(k:b)(h:Rm b→a:=by intro k;(first|refine Z02 ?_|refine Z03 ?_|refine Z04 ?_|refine Z05 ?_|refine Z06 ?_|refine Z07 ?_|refine Z08 ?_|refine Z09 ?_|refine Z10 ?_|refine Z11 ?_|refine Z12 ?_|refine Z13 ?_|refine Z14 ?_|refine Z24 ?_|refine Z26 ?_|refine Z27 ?_|refine Z67 ?_);exact k.h):a:=h ⟨k⟩
theorem Rn{P:Kf.K2.Pt p}(h:Kf.K2.Onc b2c P)(hr:Kf.K2.tim P 52435875175126190479447740508185965837690552500527637822603658699938581184513=none):Spec Tryz.prog 61 [GV P] ai [] (IsV (.bool true)):=by
 refine ad Tryz.func61 rfl rfl rfl fun w _=>?_
 have hl0:=fun x=>ae 6 x
 have hle:=fun x:F2=>ak x
 have ho:=Iw h hr
 obtain⟨x1,y1,i1,hq⟩:∃x1 y1 i1,GV P=GE x1 y1 i1:=⟨_,_,_,rfl⟩
 rw[hq]at ho ⊢
 repeat (first|refine du ?_|refine y_4 ho ?_|refine OY ?_|refine Z81 fun _=>?_)
 refine Ze1 fun _ hw=>aa hw SubW.nil ⟨?_,rfl⟩
 rfl
theorem So(u v:F2):Kf.K2.tim (gY u v) 52435875175126190479447740508185965837690552500527637822603658699938581184513=none:=Lb (Kf.K2.di p_3 (fS u) (fS v))
end
end Go.Proofs.YtndhfbecpghinaaGreat.L
namespace Go.Proofs.YtndhfbecpghinaaGreat.L.Kf
namespace T6
variable {n:Nat} [NeZero n]
def cr(a b c d e f:K2 n):K2 n:=K2.sub (K2.mul (K2.add a b) (K2.add c d)) (K2.add e f)
attribute [local irreducible] K2.add K2.mul K2.sub K2.neg K2.zero K2.one K2.inv K2.xi
theorem rk(x y:T6 n):(⟨K2.add (K2.mul x.a y.a) (K2.mul K2.xi (cr x.b x.c y.b y.c (K2.mul x.b y.b) (K2.mul x.c y.c))),K2.add (cr x.a x.b y.a y.b (K2.mul x.a y.a) (K2.mul x.b y.b)) (K2.mul K2.xi (K2.mul x.c y.c)),K2.add (cr x.a x.c y.a y.c (K2.mul x.a y.a) (K2.mul x.c y.c)) (K2.mul x.b y.b)⟩:T6 n)=mul x y:=by
 unfold cr
 exact ext'
  (CR.aH (x:=(.a (.m (.v 0) (.v 3)) (.m (.v 6) (.s (.m (.a (.v 1) (.v 2)) (.a (.v 4) (.v 5))) (.a (.m (.v 1) (.v 4)) (.m (.v 2) (.v 5))))))) (y:=(.a (.m (.v 0) (.v 3)) (.m (.v 6) (.a (.m (.v 1) (.v 5)) (.m (.v 2) (.v 4)))))) (by decide +kernel) [x.a,x.b,x.c,y.a,y.b,y.c,K2.xi])
  (CR.aH (x:=(.a (.s (.m (.a (.v 0) (.v 1)) (.a (.v 3) (.v 4))) (.a (.m (.v 0) (.v 3)) (.m (.v 1) (.v 4)))) (.m (.v 6) (.m (.v 2) (.v 5))))) (y:=(.a (.a (.m (.v 0) (.v 4)) (.m (.v 1) (.v 3))) (.m (.v 6) (.m (.v 2) (.v 5))))) (by decide +kernel) [x.a,x.b,x.c,y.a,y.b,y.c,K2.xi])
  (CR.aH (x:=(.a (.s (.m (.a (.v 0) (.v 2)) (.a (.v 3) (.v 5))) (.a (.m (.v 0) (.v 3)) (.m (.v 2) (.v 5)))) (.m (.v 1) (.v 4)))) (y:=(.a (.a (.m (.v 0) (.v 5)) (.m (.v 1) (.v 4))) (.m (.v 2) (.v 3)))) (by decide +kernel) [x.a,x.b,x.c,y.a,y.b,y.c,K2.xi])
theorem RE(x:T6 n)(k:K2 n):mul x (em k)=⟨K2.mul x.a k,K2.mul x.b k,K2.mul x.c k⟩:=by
 unfold mul em
 simp only[K2.aj,K2.add_zero',K2.aM]
theorem Vq(x:T6 n):(⟨K2.mul K2.xi x.c,x.a,x.b⟩:T6 n)=mul vv x:=by
 unfold mul vv
 simp only[K2.aj,K2.aG,K2.add_zero',K2.aM,K2.aR]
end T6
namespace T12
variable {n:Nat} [NeZero n]
attribute [local irreducible] T6.add T6.mul T6.sub T6.neg T6.zero T6.one T6.inv T6.vv
theorem rk(x y:T12 n):(⟨T6.add (T6.mul x.a y.a) (T6.mul T6.vv (T6.mul x.b y.b)),T6.sub (T6.mul (T6.add x.a x.b) (T6.add y.a y.b)) (T6.add (T6.mul x.a y.a) (T6.mul x.b y.b))⟩:T12 n)=mul x y:=
 ext' rfl (CR.aH (x:=(.s (.m (.a (.v 0) (.v 1)) (.a (.v 2) (.v 3))) (.a (.m (.v 0) (.v 2)) (.m (.v 1) (.v 3))))) (y:=(.a (.m (.v 0) (.v 3)) (.m (.v 1) (.v 2)))) (by decide +kernel) [x.a,x.b,y.a,y.b])
end T12
end Go.Proofs.YtndhfbecpghinaaGreat.L.Kf
namespace Go.Proofs.YtndhfbecpghinaaGreat.L
open Go Go.Proofs
set_option maxRecDepth 100000
section
attribute [local irreducible] Code.wp wpList Af bodyPost L.Go ab
open Num
attribute [local simp] ae
abbrev F6:=Kf.T6 p
abbrev E6(x:F6):List Nat:=E2 x.a++(E2 x.b++E2 x.c)
theorem dh(x:F6):(E6 x).length=36:=by simp
theorem S8(x:F2):(⟨x.re-x.im,x.re+x.im⟩:F2)=Kf.K2.mul Kf.K2.xi x:=by
 unfold Kf.K2.mul Kf.K2.xi
 exact Kf.K2.ext' (by grind) (by grind)
theorem Fk(x:F2):Spec Tryz.prog 165 [LV .u64 (E2 x)] ai [] (IsV (LV .u64 (E2 (Kf.K2.mul Kf.K2.xi x)))):=by
 have:=Xa x;rwa [S8]at this
theorem fx{m:Nat}{xss:List (List Nat)}(h:∀v∈xss,v.length=m):xss.flatten.length=xss.length*m:=by
 induction xss with
 | nil=>simp
 | cons x r ih=>
  rw[List.flatten_cons,List.length_append,h x (by simp),ih fun v hv=>h v (by simp[hv]),List.length_cons,Nat.succ_mul,Nat.add_comm]
def py(l:List F2):F2:=l.foldl Kf.K2.add Kf.K2.zero
theorem SQ{l:List F2}{i:Nat}{x:F2}(h:l[i]?=some x):Kf.K2.add (py (l.take i)) x=py (l.take (i+1)):=by
 rw[List.take_add_one,h]
 simp only[py,Option.toList,List.foldl_append,List.foldl_cons,List.foldl_nil]
def E2s(l:List F2):List (List Nat):=l.map E2
theorem KW(l:List F2):∀v∈E2s l,v.length=12:=by
 intro v hv
 obtain⟨x,_,rfl⟩:=List.mem_map.1 hv
 exact ak x
attribute [local irreducible] py E2s
theorem uj{a b:Prop}(k:b)(h:Rm b→a:=by intro k;(first|refine Z01 ?_|refine Z03 ?_|refine Z04 ?_|refine Z05 ?_|refine Z06 ?_|refine Z07 ?_|refine Z08 ?_|refine Z09 ?_|refine Z10 ?_|refine Z11 ?_|refine Z12 ?_|refine Z13 ?_|refine Z14 ?_|refine Z15 ?_|refine Z17 ?_|refine Z18 ?_|refine Z20 ?_|refine Z21 ?_|refine Z22 ?_|refine Z23 ?_|refine Z24 ?_|refine Z26 ?_|refine Z27 ?_|refine Z29 ?_|refine Z30 ?_|refine Z31 ?_|refine Z32 ?_|refine Z67 ?_);exact k.h):a:=h ⟨k⟩
set_option maxHeartbeats 2000000 in
theorem Fw(s:Value)(xs:List F2)(hl:xs.length<1000000):Spec Tryz.prog 164 [s] (fun w=>Rd w (wide 12 s) ((E2s xs).flatten.map (N .u64))) [] (IsV (LV .u64 (E2 (py xs)))):=by
 refine ad Tryz.func164 rfl rfl rfl fun w hr=>?_
 have h1:=RdC.mk0 hr
 have hE:=KW xs
 have el:(E2s xs).length=xs.length:=by unfold E2s;simp
 have hxl:((E2s xs).flatten.map (N .u64)).length=xs.length*12:=by rw[List.length_map,fx hE,el]
 have e0:py (xs.take 0)=Kf.K2.zero:=by unfold py;rfl
 have hz12:List.replicate 12 0=E2 (py (xs.take 0)):=by rw[e0,wo]
 repeat (first|(refine bI ?_;intro _)|refine hJ (m:=12) (k:=xs.length) (s:=s) (by rfl) (by rfl) (RdW.old h1) (by decide) hxl (by rfl) ?_|refine uj ?_|refine Z82 fun _=>?_)
 rw[hz12]
 rename_i p2
 refine ay (ι:=Nat) (fun i=>i≤xs.length) (fun i=>[(5,s),(6,N .i64 xs.length),(7,N .i64 i),(2,pt p2 0)]) (fun i=>[.blk p2 (LV .u64 (E2 (py (xs.take i)))) 34]) (fun i=>xs.length-i) 0 (by omega) sbq sw ?_
 intro i hi
 repeat (first|refine uj ?_|refine Z82 fun _=>?_)
 refine an (by rfl) (fun h=>?_) (fun h=>?_)
 ·obtain⟨x,hx⟩:∃x,xs[i]?=some x:=⟨_,List.getElem?_eq_getElem h⟩
  have hz:(E2s xs)[i]?=some (E2 x):=by unfold E2s;rw[List.getElem?_map,hx];rfl
  have hs:=cV (py (xs.take i)) x
  rw[SQ hx]at hs
  repeat (first|(refine bI ?_;intro _)|refine fh (m:=12) (s:=s) (i:=i) (k:=xs.length) (by rfl) (by rfl) (by rfl) (by rfl) (RdW.old h1) (by decide) hxl h (by rfl) ?_|refine eJ (m:=12) (s:=wide 12 s) (i:=i) (by rfl) (by rfl) (by rfl) (RdW.old h1) hE hz (by decide) (by rfl) ?_|refine eQ ?_|refine y_4 hs ?_|refine uj ?_|refine Z82 fun _=>?_)
  exact ao (i+1) (by omega) (by omega) sbq sw
 ·have hi':i=xs.length:=by omega
  subst hi'
  rw[List.take_length]
  repeat (first|refine eQ ?_|refine Z01 ?_|refine Z03 ?_|refine Z04 ?_|refine Z05 ?_|refine Z06 ?_|refine Z07 ?_|refine Z08 ?_|refine Z09 ?_|refine Z10 ?_|refine Z11 ?_|refine Z12 ?_|refine Z13 ?_|refine Z14 ?_|refine Z15 ?_|refine Z17 ?_|refine Z18 ?_|refine Z20 ?_|refine Z21 ?_|refine Z22 ?_|refine Z23 ?_|refine Z24 ?_|refine Z26 ?_|refine Z27 ?_|refine Z29 ?_|refine Z30 ?_|refine Z31 ?_|refine Z32 ?_|refine Z67 ?_|refine Z82 fun _=>?_)
  refine Zec fun _ hw=>aa hw SubW.nil ⟨?_,rfl⟩
  rfl
abbrev LE2(x:F2):Value:=LV .u64 (E2 x)
abbrev LE6(x:F6):Value:=LV .u64 (E6 x)
def KY(w:World)(o:List (Nat×F2)):Prop:=∀q∈o,eN w q.1 (LV .u64 (E2 q.2)) 34
def Wg(c:Cx)(o:List (Nat×F2)):Prop:=∀q∈o,OldB c q.1 (LV .u64 (E2 q.2)) 34
theorem lD{a b:Prop}(k:b)(h:Rm b→a:=by intro k;refine aq (v:=LV .u64 (List.replicate 36 0)) (by rfl) (by rfl) ?_;exact k.h):a:=h ⟨k⟩
theorem OZ{a b:Prop}(k:b)(h:Rm b→a:=by intro k;(first|refine Z01 ?_|refine Z03 ?_|refine Z04 ?_|refine Z05 ?_|refine Z06 ?_|refine Z07 ?_|refine Z08 ?_|refine Z09 ?_|refine Z10 ?_|refine Z11 ?_|refine Z12 ?_|refine Z13 ?_|refine Z14 ?_|refine Z24 ?_|refine Z26 ?_|refine Z27 ?_|refine Z29 ?_|refine Z30 ?_|refine Z31 ?_|refine Z32 ?_|refine Z67 ?_);exact k.h):a:=h ⟨k⟩
set_option maxHeartbeats 2000000 in
theorem md{F:FuncId}{caps:List Value}{o:List (Nat×F2)}{g:F2→F2}(hF:∀x,Spec Tryz.prog F ([LV .u64 (E2 x)]++caps) (fun w=>KY w o) [] (IsV (LV .u64 (E2 (g x)))))(x y z:F2):
  Spec Tryz.prog 168 [LV .u64 (E2 x++(E2 y++E2 z)),.func (.func F) #[] caps.toArray] (fun w=>KY w o) [] (IsV (LV .u64 (E2 (g x)++(E2 (g y)++E2 (g z))))):=by
 refine ad Tryz.func168 rfl rfl rfl fun w hr=>?_
 have ho:Wg ⟨w,fps []⟩ o:=fun q hq=>OldB.mk0 (hr q hq)
 have hl0:=fun x=>ae 6 x
 have hle:=fun x:F2=>ak x
 have a1:=hF x
 have a2:=hF y
 have a3:=hF z
 repeat (first|(refine lD ?_;intro _)|refine OZ ?_|refine Z81 fun _=>?_|refine Z82 fun _=>?_)
 refine R.af [0,1,2,3,4,5,6,7,8,9,10,11,12,13] (by rfl) ?_
 repeat (first|(refine R.Zpf (by rfl) (by intro _ _ _;(first|refine bK ?_|refine jg ?_|refine r9 ?_|refine Z01 ?_);exact Zq) ?_)|refine aL ?_|refine jP ?_|refine jQ ?_|refine jR ?_|refine cz ?_|(refine R.Zpp (by rfl) (by intro _ _ _;refine ah (by rfl) (by rfl) (by rfl) (a1) (fun w hw q hq=>((ho q hq).shift (by assumption)).now w hw) (by rfl) ?_;exact Zq) ?_)|(refine R.Zpp (by rfl) (by intro _ _ _;refine ah (by rfl) (by rfl) (by rfl) (a2) (fun w hw q hq=>((ho q hq).shift (by assumption)).now w hw) (by rfl) ?_;exact Zq) ?_)|(refine R.Zpp (by rfl) (by intro _ _ _;refine ah (by rfl) (by rfl) (by rfl) (a3) (fun w hw q hq=>((ho q hq).shift (by assumption)).now w hw) (by rfl) ?_;exact Zq) ?_)|refine lE ?_|(refine aV ?_;intro _))
 refine R.Zp0 ?_
 repeat (first|refine OZ ?_|refine Z81 fun _=>?_|refine Z82 fun _=>?_)
 refine Zec fun _ hw=>aa hw SubW.nil ⟨?_,rfl⟩
 rfl
end
section
attribute [local irreducible] Code.wp wpList Af bodyPost L.Go ab
open Num
attribute [local simp] ae
theorem noL(w:World):KY w []:=fun _ h=>by cases h
theorem oG(x:F6):Spec Tryz.prog 157 [LE6 x] ai [] (IsV (LE6 x)):=by
  refine ad Tryz.func157 rfl rfl rfl fun w hr=>?_
  have hle:=dh x
  repeat (first|(refine lD ?_;intro _)|refine ah (by rfl) (by rfl) (by rfl) (md (caps:=[]) (o:=[]) (g:=id) (fun y=>⟨(CJ y).call,fun w _=>(CJ y).run w trivial⟩) x.a x.b x.c) (fun w _=>noL w) (by rfl) ?_|refine bV ?_|refine Z81 fun _=>?_|refine Z82 fun _=>?_)
  refine Zec fun _ hw=>aa hw SubW.nil ⟨?_,rfl⟩
  rfl
theorem ue(x:F6):Spec Tryz.prog 158 [LE6 x] ai [] (IsV (LE6 (Kf.T6.neg x))):=by
  refine ad Tryz.func158 rfl rfl rfl fun w hr=>?_
  have hle:=dh x
  repeat (first|(refine lD ?_;intro _)|refine ah (by rfl) (by rfl) (by rfl) (md (caps:=[]) (o:=[]) (g:=Kf.K2.neg) (fun y=>⟨(o0 y).call,fun w _=>(o0 y).run w trivial⟩) x.a x.b x.c) (fun w _=>noL w) (by rfl) ?_|refine bV ?_|refine Z81 fun _=>?_|refine Z82 fun _=>?_)
  refine Zec fun _ hw=>aa hw SubW.nil ⟨?_,rfl⟩
  rfl
theorem VU{a b:Prop}(k:b)(h:Rm b→a:=by intro k;(first|refine bK ?_|refine jg ?_|refine r9 ?_);exact k.h):a:=h ⟨k⟩
theorem V2{a b:Prop}(k:b)(h:Rm b→a:=by intro k;refine R.Zpf (by rfl) (by intro _ _ _;(first|refine VU ?_);exact Zq) ?_;exact k.h):a:=h ⟨k⟩
theorem DG{a b:Prop}(k:b)(h:Rm b→a:=by intro k;(first|refine V2 ?_|refine aL ?_|refine jP ?_|refine jQ ?_|refine jR ?_|refine cz ?_);exact k.h):a:=h ⟨k⟩
theorem kY(x y:F6):Spec Tryz.prog 148 [LE6 x,LE6 y] ai [] (IsV (LE6 (Kf.T6.add x y))):=by
  refine ad Tryz.func148 rfl rfl rfl fun w hr=>?_
  have hl0:=fun x=>ae 6 x
  have hle:=fun x:F2=>ak x
  have a1:=cV x.a y.a
  have a2:=cV x.b y.b
  have a3:=cV x.c y.c
  repeat (first|(refine lD ?_;intro _)|refine bV ?_|refine Z81 fun _=>?_|refine Z82 fun _=>?_)
  refine R.af [0,1,2,3,4,5,6,7,8,9,10,11,12,13,14,15,16] (by rfl) ?_
  repeat (first|refine DG ?_|refine ag a1 ?_|refine ag a2 ?_|refine ag a3 ?_|refine lE ?_|(refine aV ?_;intro _))
  refine R.Zp0 ?_
  repeat (first|refine bV ?_|refine Z81 fun _=>?_|refine Z82 fun _=>?_)
  refine Zec fun _ hw=>aa hw SubW.nil ⟨?_,rfl⟩
  rfl
theorem uf(x y:F6):Spec Tryz.prog 150 [LE6 x,LE6 y] ai [] (IsV (LE6 (Kf.T6.sub x y))):=by
  refine ad Tryz.func150 rfl rfl rfl fun w hr=>?_
  have hl0:=fun x=>ae 6 x
  have hle:=fun x:F2=>ak x
  have a1:=bG x.a y.a
  have a2:=bG x.b y.b
  have a3:=bG x.c y.c
  repeat (first|(refine lD ?_;intro _)|refine bV ?_|refine Z81 fun _=>?_|refine Z82 fun _=>?_)
  refine R.af [0,1,2,3,4,5,6,7,8,9,10,11,12,13,14,15,16] (by rfl) ?_
  repeat (first|refine DG ?_|refine ag a1 ?_|refine ag a2 ?_|refine ag a3 ?_|refine lE ?_|(refine aV ?_;intro _))
  refine R.Zp0 ?_
  repeat (first|refine bV ?_|refine Z81 fun _=>?_|refine Z82 fun _=>?_)
  refine Zec fun _ hw=>aa hw SubW.nil ⟨?_,rfl⟩
  rfl
theorem NA(x:F6):Spec Tryz.prog 149 [LE6 x] ai [] (IsV (LE6 ⟨Kf.K2.mul Kf.K2.xi x.c,x.a,x.b⟩)):=by
 refine ad Tryz.func149 rfl rfl rfl fun w hr=>?_
 have hl0:=fun x=>ae 6 x
 have hle:=fun x:F2=>ak x
 have a1:=Fk x.c
 have a2:=CJ x.a
 have a3:=CJ x.b
 repeat (first|(refine lD ?_;intro _)|refine bV ?_|refine Z81 fun _=>?_|refine Z82 fun _=>?_)
 refine R.af [0,1,2,3,4,5,6,7,8,9,10] (by rfl) ?_
 repeat (first|refine DG ?_|refine ag a1 ?_|refine ag a2 ?_|refine ag a3 ?_|refine lE ?_|(refine aV ?_;intro _))
 refine R.Zp0 ?_
 repeat (first|refine bV ?_|refine Z81 fun _=>?_|refine Z82 fun _=>?_)
 refine Zec fun _ hw=>aa hw SubW.nil ⟨?_,rfl⟩
 rfl
def jn(a b c d e f:F2):F2:=Kf.K2.sub (Kf.K2.mul (Kf.K2.add a b) (Kf.K2.add c d)) (Kf.K2.add e f)
theorem kB(a b c d e f:F2):Spec Tryz.prog 163 [LE2 a,LE2 b,LE2 c,LE2 d,LE2 e,LE2 f] ai [] (IsV (LE2 (jn a b c d e f))):=by
 refine ad Tryz.func163 rfl rfl rfl fun w hr=>?_
 have hl0:=fun x=>ae 6 x
 have hle:=fun x:F2=>ak x
 have a1:=cV a b
 have a2:=cV c d
 have a3:=cV e f
 have a4:=aF (Kf.K2.add a b) (Kf.K2.add c d)
 have a5:=bG (Kf.K2.mul (Kf.K2.add a b) (Kf.K2.add c d)) (Kf.K2.add e f)
 repeat (first|(refine bI ?_;intro _)|refine bV ?_|refine Z81 fun _=>?_|refine Z82 fun _=>?_)
 refine R.af [0,1,2,3,4,5,6,7,8,9,10,11] (by rfl) ?_
 repeat (first|(refine R.Zpf (by rfl) (by intro _ _ _;(first|contradiction);exact Zq) ?_)|refine aL ?_|refine cz ?_|refine ag a1 ?_|refine ag a2 ?_|refine ag a3 ?_|refine ag a4 ?_|refine ag a5 ?_|refine aA ?_|(refine aV ?_;intro _))
 refine R.Zp0 ?_
 repeat (first|refine bV ?_|refine Z81 fun _=>?_|refine Z82 fun _=>?_)
 refine Zec fun _ hw=>aa hw SubW.nil ⟨?_,rfl⟩
 rfl
theorem FG(k x:F2)(b:Nat):Spec Tryz.prog 172 [LE2 x,pt b 0] (fun w=>KY w [(b,k)]) [] (IsV (LE2 (Kf.K2.mul x k))):=by
 refine ad Tryz.func172 rfl rfl rfl fun w hr=>?_
 have h1:=OldB.mk0 (hr _ (List.mem_singleton.2 rfl))
 have hl0:=fun x=>ae 6 x
 have hle:=fun x:F2=>ak x
 have a1:=aF x k
 repeat (first|(refine bI ?_;intro _)|refine Tq h1 ?_|refine eQ ?_|refine y_4 a1 ?_|refine bV ?_|refine Z81 fun _=>?_|refine Z82 fun _=>?_)
 refine Zec fun _ hw=>aa hw SubW.nil ⟨?_,rfl⟩
 rfl
theorem O0{a b:Prop}(k:b)(h:Rm b→a:=by intro k;(first|refine Z03 ?_|refine Z04 ?_|refine Z05 ?_|refine Z06 ?_|refine Z07 ?_|refine Z08 ?_|refine Z09 ?_|refine Z10 ?_|refine Z11 ?_|refine Z12 ?_|refine Z13 ?_|refine Z14 ?_|refine Z24 ?_|refine Z26 ?_|refine Z27 ?_|refine Z29 ?_|refine Z30 ?_|refine Z31 ?_|refine Z32 ?_|refine Z48 ?_|refine Z67 ?_);exact k.h):a:=h ⟨k⟩
theorem yX(x:F6)(k:F2):Spec Tryz.prog 169 [LE6 x,LE2 k] ai [] (IsV (LE6 ⟨Kf.K2.mul x.a k,Kf.K2.mul x.b k,Kf.K2.mul x.c k⟩)):=by
 refine ad Tryz.func169 rfl rfl rfl fun w hr=>?_
 have hl0:=fun x=>ae 6 x
 have hle:=fun x:F2=>ak x
 have hl6:=dh x
 repeat (first|(refine lD ?_;intro _)|refine O0 ?_|refine Z81 fun _=>?_|refine Z82 fun _=>?_)
 repeat (first|(refine ah (by rfl) (by rfl) (by rfl) (md (caps:=[pt _ 0]) (o:=[(_,k)]) (g:=fun y=>Kf.K2.mul y k) (fun y=>FG k y _) x.a x.b x.c) (fun w hw q hq=>by rw[List.mem_singleton.1 hq];exact eN.own fd w hw) (by rfl) ?_)|refine O0 ?_|refine Z81 fun _=>?_|refine Z82 fun _=>?_)
 refine Zec fun _ hw=>aa hw SubW.nil ⟨?_,rfl⟩
 rfl
end
section
attribute [local irreducible] Code.wp wpList Af bodyPost L.Go ab
open Num
attribute [local simp] ae
abbrev sl2(x y:F2):List (List Nat):=[E2 x,E2 y]
theorem jD(x y:F2):∀v∈sl2 x y,v.length=12:=by
 intro v hv
 rcases List.mem_cons.1 hv with rfl | hv
 ·exact ak x
 ·rw[List.mem_singleton.1 hv];exact ak y
theorem W8(x y:F2):py [x,y]=Kf.K2.add x y:=by
 unfold py
 show Kf.K2.add (Kf.K2.add Kf.K2.zero x) y=_
 rw[Kf.K2.aM]
theorem ig(s:Value)(x y:F2):Spec Tryz.prog 164 [s] (fun w=>Rd w (wide 12 s) ((sl2 x y).flatten.map (N .u64))) [] (IsV (LE2 (Kf.K2.add x y))):=by
 have:=Fw s [x,y] (by simp)
 rw[W8]at this
 unfold E2s at this
 exact this
theorem Sq(x y:F2):(sl2 x y).flatten.length=2*12:=by simp
attribute [local irreducible] jn
theorem uk{a b:Prop}(k:b)(h:Rm b→a:=by intro k;(first|refine Z01 ?_|refine Z02 ?_|refine Z03 ?_|refine Z04 ?_|refine Z05 ?_|refine Z06 ?_|refine Z07 ?_|refine Z08 ?_|refine Z09 ?_|refine Z10 ?_|refine Z11 ?_|refine Z12 ?_|refine Z13 ?_|refine Z14 ?_|refine Z24 ?_|refine Z26 ?_|refine Z27 ?_|refine Z29 ?_|refine Z30 ?_|refine Z31 ?_|refine Z32 ?_|refine Z67 ?_);exact k.h):a:=h ⟨k⟩
theorem zg{S1 a b:Prop}(s1:S1)(k:b)(h:S1→Rm b→a:=by intro s1 k;refine R.Zpp (by rfl) (by intro _ _ _;refine ah (by rfl) (by rfl) (by rfl) s1 (RdW.slv fd (Sq _ _)) (by rfl) ?_;exact Zq) ?_;exact k.h):a:=h s1 ⟨k⟩
theorem Kz{a b:Prop}(k:b)(h:Rm b→a:=by intro k;(first|refine jP ?_|refine jQ ?_|refine jR ?_|refine cz ?_);exact k.h):a:=h ⟨k⟩
set_option maxHeartbeats 4000000 in
theorem JX(x y:F6):Spec Tryz.prog 146 [LE6 x,LE6 y] ai [] (IsV (LE6 ⟨Kf.K2.add (Kf.K2.mul x.a y.a) (Kf.K2.mul Kf.K2.xi (jn x.b x.c y.b y.c (Kf.K2.mul x.b y.b) (Kf.K2.mul x.c y.c))),
  Kf.K2.add (jn x.a x.b y.a y.b (Kf.K2.mul x.a y.a) (Kf.K2.mul x.b y.b)) (Kf.K2.mul Kf.K2.xi (Kf.K2.mul x.c y.c)),Kf.K2.add (jn x.a x.c y.a y.c (Kf.K2.mul x.a y.a) (Kf.K2.mul x.c y.c)) (Kf.K2.mul x.b y.b)⟩)):=by
 refine ad Tryz.func146 rfl rfl rfl fun w hr=>?_
 have hl0:=fun x=>ae 6 x
 have hle:=fun x:F2=>ak x
 obtain⟨x0,x1,x2⟩:=x
 obtain⟨y0,y1,y2⟩:=y
 have a1:=aF x0 y0
 have a2:=aF x1 y1
 have a3:=aF x2 y2
 have c1:=kB x1 x2 y1 y2 (Kf.K2.mul x1 y1) (Kf.K2.mul x2 y2)
 have c2:=kB x0 x1 y0 y1 (Kf.K2.mul x0 y0) (Kf.K2.mul x1 y1)
 have c3:=kB x0 x2 y0 y2 (Kf.K2.mul x0 y0) (Kf.K2.mul x2 y2)
 show Go _ _ [(0,LV .u64 (E2 x0++(E2 x1++E2 x2))),(1,LV .u64 (E2 y0++(E2 y1++E2 y2)))] _ _
 show Go _ _ _ _ (_)
 generalize jn x1 x2 y1 y2 (Kf.K2.mul x1 y1) (Kf.K2.mul x2 y2)=k1 at *
 generalize jn x0 x1 y0 y1 (Kf.K2.mul x0 y0) (Kf.K2.mul x1 y1)=k2 at *
 generalize jn x0 x2 y0 y2 (Kf.K2.mul x0 y0) (Kf.K2.mul x2 y2)=k3 at *
 have e1:=Fk k1
 have e2:=Fk (Kf.K2.mul x2 y2)
 generalize Kf.K2.mul x0 y0=z0 at *
 generalize Kf.K2.mul x1 y1=z1 at *
 generalize Kf.K2.mul x2 y2=z2 at *
 generalize Kf.K2.mul Kf.K2.xi k1=v1 at *
 generalize Kf.K2.mul Kf.K2.xi z2=v2 at *
 have s1:=fun b=>ig (slv b 2) z0 v1
 have s2:=fun b=>ig (slv b 2) k2 v2
 have s3:=fun b=>ig (slv b 2) k3 z1
 generalize Kf.K2.add z0 v1=t1 at *
 generalize Kf.K2.add k2 v2=t2 at *
 generalize Kf.K2.add k3 z1=t3 at *
 repeat (first|(refine lD ?_;intro _)|refine uk ?_|refine Z81 fun _=>?_|refine Z82 fun _=>?_|refine Z85 fun _=>?_)
 rename_i p2 p3 p4
 refine M0 (fun a b d=>[(2,pt p2 0),(3,pt p3 0),(4,pt p4 0),(5,pt a 0),(6,pt b 0),(7,pt d 0)]) (fun a b d=>[.blk a (LE2 z0) 34,.blk b (LE2 z1) 34,.blk d (LE2 z2) 34,.blk p4 (LV .u64 (List.replicate 36 0)) 136,.blk p3 (LV .u64 (E2 y0++(E2 y1++E2 y2))) 136,.blk p2 (LV .u64 (E2 x0++(E2 x1++E2 x2))) 136]) (fun p5 p6 p7=>?_) (fun hK=>?_)
 case refine_2=>
  refine R.af [0,1,2,3,4,5,6,7,8,9,10,11,12,13,14,15,16,17,18,19,20] (by rfl) ?_
  repeat' (first|(refine R.Zpf (by rfl) (by intro _ _ _;(first|refine bK ?_|refine jg ?_|refine Z01 ?_|refine Z02 ?_);exact Zq) ?_)|refine aL ?_|refine jP ?_|refine jQ ?_|refine jR ?_|refine cz ?_|refine ag a1 ?_|refine ag a2 ?_|refine ag a3 ?_|refine aA ?_|(refine R.TL (R.Mks.mk (R.Mk.mk' (by rfl) (by intro _ _ _;refine aq (v:=LV .u64 (List.replicate 12 0)) (by rfl) (by rfl) fun _=>?_;first|exact R.iH|exact R.dO|exact R.iI)) (fun _=>?_)) (R.Mks.mk (R.Mk.mk' (by rfl) (by intro _ _ _;refine aq (v:=LV .u64 (List.replicate 12 0)) (by rfl) (by rfl) fun _=>?_;first|exact R.iH|exact R.dO|exact R.iI)) (fun _=>?_)) (R.Mks.mk (R.Mk.mk' (by rfl) (by intro _ _ _;refine aq (v:=LV .u64 (List.replicate 12 0)) (by rfl) (by rfl) fun _=>?_;first|exact R.iH|exact R.dO|exact R.iI)) (fun _=>?_)))|(refine R.FV (R.Mks.mk (R.Mk.mk' (by rfl) (by intro _ _ _;refine aq (v:=LV .u64 (List.replicate 12 0)) (by rfl) (by rfl) fun _=>?_;first|exact R.iH|exact R.dO|exact R.iI)) (fun _=>?_)) (R.Mks.mk (R.Mk.mk' (by rfl) (by intro _ _ _;refine aq (v:=LV .u64 (List.replicate 12 0)) (by rfl) (by rfl) fun _=>?_;first|exact R.iH|exact R.dO|exact R.iI)) (fun _=>?_)))|(refine fK ?_;intro _)|(refine sA ?_;intro _))
  all_goals refine R.Zp0 ?_
  all_goals exact d9 sbq sw (hK _ _ _)
 case refine_1=>
  repeat (first|refine uk ?_|refine Z81 fun _=>?_|refine Z82 fun _=>?_|refine Z85 fun _=>?_)
  refine R.af [0,1,2,3,4,5,6,7,8,9,10,11,16,17,18,19,20,21,22,23,24,25,26,28,32,33,34,35,36,37,38,39,40,41,42,44,12,13,14,15,27,29,30,31,43,45,46,47,48] (by rfl) ?_
  repeat (first|(refine R.Zpf (by rfl) (by intro _ _ _;(first|refine bK ?_|refine jg ?_|refine r9 ?_|refine Z01 ?_|refine Z02 ?_);exact Zq) ?_)|refine aL ?_|refine zg (s1 _) ?_|refine zg (s2 _) ?_|refine zg (s3 _) ?_|refine Kz ?_|refine ag c1 ?_|refine ag c2 ?_|refine ag c3 ?_|refine ag e1 ?_|refine ag e2 ?_|refine lE ?_|(refine R.Zpd (by rfl) (by intro _ _ _;(refine av (m:=12) (kk:=.u64) (vss:=sl2 z0 v1) (by rfl) (by rfl) (by rfl) (by rfl) (by rfl) (by rfl) (by rfl) (jD _ _) (by rfl) (by rfl) fun _=>?_);exact R.dO) fun _=>?_)|(refine R.Zpd (by rfl) (by intro _ _ _;(refine av (m:=12) (kk:=.u64) (vss:=sl2 k2 v2) (by rfl) (by rfl) (by rfl) (by rfl) (by rfl) (by rfl) (by rfl) (jD _ _) (by rfl) (by rfl) fun _=>?_);exact R.dO) fun _=>?_)|(refine R.Zpd (by rfl) (by intro _ _ _;(refine av (m:=12) (kk:=.u64) (vss:=sl2 k3 z1) (by rfl) (by rfl) (by rfl) (by rfl) (by rfl) (by rfl) (by rfl) (jD _ _) (by rfl) (by rfl) fun _=>?_);exact R.dO) fun _=>?_)|(refine sA ?_;intro _))
  refine R.Zp0 ?_
  repeat (first|refine uk ?_|refine Z81 fun _=>?_|refine Z82 fun _=>?_|refine Z85 fun _=>?_)
  refine Zec fun _ hw=>aa hw SubW.nil ⟨?_,rfl⟩
  rfl
end
section
attribute [local irreducible] Code.wp wpList Af bodyPost L.Go ab
open Num
attribute [local simp] ae
theorem fH(x y:F6):Spec Tryz.prog 146 [LE6 x,LE6 y] ai [] (IsV (LE6 (Kf.T6.mul x y))):=by
 have:=JX x y
 have e:=Kf.T6.rk x y
 unfold jn at this
 unfold Kf.T6.cr at e
 rwa [e]at this
theorem yY(x:F6):Spec Tryz.prog 149 [LE6 x] ai [] (IsV (LE6 (Kf.T6.mul Kf.T6.vv x))):=by
 have:=NA x
 rwa [Kf.T6.Vq]at this
theorem FH(x:F6)(k:F2):Spec Tryz.prog 169 [LE6 x,LE2 k] ai [] (IsV (LE6 (Kf.T6.mul x (Kf.T6.em k)))):=by
 have:=yX x k
 rwa [← Kf.T6.RE]at this
theorem Kb{a b:Prop}(k:b)(h:Rm b→a:=by intro k;refine R.Zpb (by rfl) (by intro _ _ _;refine aq (v:=LV .u64 (List.replicate 36 0)) (by rfl) (by rfl) fun _=>?_;exact R.eO) ?_;exact k.h):a:=h ⟨k⟩
set_option maxHeartbeats 4000000 in
theorem FD(x:F6):Spec Tryz.prog 159 [LE6 x] ai [] (IsV (LE6 (Kf.T6.inv x))):=by
 refine ad Tryz.func159 rfl rfl rfl fun w hr=>?_
 have hl0:=fun x=>ae 6 x
 have hle:=fun x:F2=>ak x
 have e0:Kf.T6.inv x=Kf.T6.mul (Kf.T6.cof x) (Kf.T6.em (Kf.K2.inv (Kf.T6.nrm x))):=rfl
 have e1:Kf.T6.nrm x=Kf.K2.add (Kf.K2.mul x.a (Kf.T6.cof x).a) (Kf.K2.mul Kf.K2.xi (Kf.K2.add (Kf.K2.mul x.c (Kf.T6.cof x).b) (Kf.K2.mul x.b (Kf.T6.cof x).c))):=rfl
 have c0:(Kf.T6.cof x).a=Kf.K2.sub (Kf.K2.mul x.a x.a) (Kf.K2.mul Kf.K2.xi (Kf.K2.mul x.b x.c)):=rfl
 have c1:(Kf.T6.cof x).b=Kf.K2.sub (Kf.K2.mul Kf.K2.xi (Kf.K2.mul x.c x.c)) (Kf.K2.mul x.a x.b):=rfl
 have c2:(Kf.T6.cof x).c=Kf.K2.sub (Kf.K2.mul x.b x.b) (Kf.K2.mul x.a x.c):=rfl
 have s9:=FH (Kf.T6.cof x) (Kf.K2.inv (Kf.T6.nrm x))
 rw[← e0]at s9
 have s8:=kw (Kf.T6.nrm x)
 generalize Kf.T6.inv x=r at *
 generalize Kf.K2.inv (Kf.T6.nrm x)=i at *
 generalize Kf.T6.cof x=z at *
 obtain⟨z0,z1,z2⟩:=z
 obtain⟨x0,x1,x2⟩:=x
 simp only at c0 c1 c2 e1
 have a1:=aF x0 x0
 have a2:=aF x1 x2
 have a3:=Fk (Kf.K2.mul x1 x2)
 have a4:=bG (Kf.K2.mul x0 x0) (Kf.K2.mul Kf.K2.xi (Kf.K2.mul x1 x2))
 have b1:=aF x2 x2
 have b2:=Fk (Kf.K2.mul x2 x2)
 have b3:=aF x0 x1
 have b4:=bG (Kf.K2.mul Kf.K2.xi (Kf.K2.mul x2 x2)) (Kf.K2.mul x0 x1)
 have d1:=aF x1 x1
 have d2:=aF x0 x2
 have d3:=bG (Kf.K2.mul x1 x1) (Kf.K2.mul x0 x2)
 rw[← c0]at a4
 rw[← c1]at b4
 rw[← c2]at d3
 have n1:=aF x0 z0
 have n2:=aF x2 z1
 have n3:=aF x1 z2
 have n4:=fun b=>ig (slv b 2) (Kf.K2.mul x2 z1) (Kf.K2.mul x1 z2)
 have n5:=Fk (Kf.K2.add (Kf.K2.mul x2 z1) (Kf.K2.mul x1 z2))
 have n6:=fun b=>ig (slv b 2) (Kf.K2.mul x0 z0) (Kf.K2.mul Kf.K2.xi (Kf.K2.add (Kf.K2.mul x2 z1) (Kf.K2.mul x1 z2)))
 rw[← e1]at n6
 generalize Kf.K2.mul Kf.K2.xi (Kf.K2.add (Kf.K2.mul x2 z1) (Kf.K2.mul x1 z2))=m1 at *
 generalize Kf.K2.add (Kf.K2.mul x2 z1) (Kf.K2.mul x1 z2)=m2 at *
 generalize Kf.K2.mul x0 z0=m3 at *
 generalize Kf.K2.mul x2 z1=m4 at *
 generalize Kf.K2.mul x1 z2=m5 at *
 generalize Kf.T6.nrm ⟨x0,x1,x2⟩=nn at *
 clear e0 e1 c0 c1 c2
 generalize Kf.K2.mul Kf.K2.xi (Kf.K2.mul x1 x2)=k1 at *
 generalize Kf.K2.mul Kf.K2.xi (Kf.K2.mul x2 x2)=k2 at *
 generalize Kf.K2.mul x0 x0=k3 at *
 generalize Kf.K2.mul x1 x2=k4 at *
 generalize Kf.K2.mul x2 x2=k5 at *
 generalize Kf.K2.mul x0 x1=k6 at *
 generalize Kf.K2.mul x1 x1=k7 at *
 generalize Kf.K2.mul x0 x2=k8 at *
 have hz:(E2 z0++(E2 z1++E2 z2)).length=36:=eR _ _ _
 repeat (first|(refine lD ?_;intro _)|refine bV ?_|refine Z81 fun _=>?_|refine Z82 fun _=>?_|refine Z85 fun _=>?_)
 refine R.af [0,1,2,3,4,5,6,7,8,9,10,11,12,13,14,15,16,17,18,19,20,21,22,23,24,25,26,27,28,29,30,31,32,33,34,35,36,37] (by rfl) ?_
 repeat (first|refine DG ?_|refine ag a1 ?_|refine ag a2 ?_|refine ag a3 ?_|refine ag a4 ?_|refine ag b1 ?_|refine ag b2 ?_|refine ag b3 ?_|refine ag b4 ?_|refine ag d1 ?_|refine ag d2 ?_|refine ag d3 ?_|refine lE ?_|(refine Kb ?_;intro _)|(refine sA ?_;intro _))
 refine R.Zp0 ?_
 repeat (first|refine bV ?_|refine Z81 fun _=>?_|refine Z82 fun _=>?_|refine Z85 fun _=>?_)
 rename_i p1 p2 p3
 refine nu (fun a=>[(1,pt p1 0),(2,pt p2 0),(3,pt p3 0),(4,pt a 0)]) (fun a=>[.blk a (LE2 nn) 34,.blk p3 (LV .u64 (E2 z0++(E2 z1++E2 z2))) 136,.blk p2 (LV .u64 (List.replicate 36 0)) 136]) (fun p4=>?_) (fun hK=>?_)
 case refine_2=>
  refine R.af [0,1,2,3,5,6,7,8,10,11,12,13,4,9,14,15,20,16,17,18,19,21] (by rfl) ?_
  repeat' (first|(refine R.Zpf (by rfl) (by intro _ _ _;(first|refine bK ?_|refine jg ?_);exact Zq) ?_)|refine aL ?_|refine zg (n4 _) ?_|refine zg (n6 _) ?_|refine Kz ?_|refine ag n1 ?_|refine ag n2 ?_|refine ag n3 ?_|refine ag n5 ?_|refine aA ?_|(refine R.Zpd (by rfl) (by intro _ _ _;(refine av (m:=12) (kk:=.u64) (vss:=sl2 m4 m5) (by rfl) (by rfl) (by rfl) (by rfl) (by rfl) (by rfl) (by rfl) (jD _ _) (by rfl) (by rfl) fun _=>?_);exact R.dO) fun _=>?_)|(refine R.Zpd (by rfl) (by intro _ _ _;(refine av (m:=12) (kk:=.u64) (vss:=sl2 m3 m1) (by rfl) (by rfl) (by rfl) (by rfl) (by rfl) (by rfl) (by rfl) (jD _ _) (by rfl) (by rfl) fun _=>?_);exact R.dO) fun _=>?_)|(refine R.zI (i:=15) (j:=20) [16,17,18,20,19,21] [15,16,17,18,19,21] (R.Mks.mk (R.Mk.mk' (by rfl) (by intro _ _ _;(refine av (m:=12) (kk:=.u64) (vss:=sl2 m4 m5) (by rfl) (by rfl) (by rfl) (by rfl) (by rfl) (by rfl) (by rfl) (jD _ _) (by rfl) (by rfl) fun _=>?_);first|exact R.iH|exact R.dO|exact R.iI)) (fun _=>?_)) (R.Mks.mk (R.Mk.mk' (by rfl) (by intro _ _ _;refine aq (v:=LV .u64 (List.replicate 12 0)) (by rfl) (by rfl) fun _=>?_;first|exact R.iH|exact R.dO|exact R.iI)) (fun _=>?_)))|(refine R.zI (i:=18) (j:=20) [19,20,21] [18,19,21] (R.Mks.mk (R.Mk.mk' (by rfl) (by intro _ _ _;(refine av (m:=12) (kk:=.u64) (vss:=sl2 m3 m1) (by rfl) (by rfl) (by rfl) (by rfl) (by rfl) (by rfl) (by rfl) (jD _ _) (by rfl) (by rfl) fun _=>?_);first|exact R.iH|exact R.dO|exact R.iI)) (fun _=>?_)) (R.Mks.mk (R.Mk.mk' (by rfl) (by intro _ _ _;refine aq (v:=LV .u64 (List.replicate 12 0)) (by rfl) (by rfl) fun _=>?_;first|exact R.iH|exact R.dO|exact R.iI)) (fun _=>?_)))|(refine fK ?_;intro _)|(refine sA ?_;intro _))
  all_goals refine R.Zp0 ?_
  all_goals exact d9 sbq sw (hK _)
 case refine_1=>
  repeat (first|refine bV ?_|refine Z81 fun _=>?_|refine Z82 fun _=>?_|refine Z85 fun _=>?_)
  refine R.af [0,1,2,3,4] (by rfl) ?_
  repeat (first|(refine R.Zpf (by rfl) (by intro _ _ _;(first|refine bK ?_);exact Zq) ?_)|refine aL ?_|(refine R.Zpp (by rfl) (by intro _ _ _;(refine bJ (by rfl) fd (by rfl) (by rfl) (ab.all hz) (by rfl) ?_);exact Zq) ?_)|refine Kz ?_|refine ag s8 ?_|refine ag s9 ?_|refine lE ?_|(refine sA ?_;intro _))
  refine R.Zp0 ?_
  repeat (first|refine bV ?_|refine Z81 fun _=>?_|refine Z82 fun _=>?_|refine Z85 fun _=>?_)
  refine Zec fun _ hw=>aa hw SubW.nil ⟨?_,rfl⟩
  rfl
abbrev F12:=Kf.T12 p
abbrev E12(x:F12):List Nat:=E6 x.a++E6 x.b
abbrev bM(x:F12):Value:=LV .u64 (E12 x)
theorem be(x:F12):(E12 x).length=72:=by rw[List.length_append,dh,dh]
theorem ab.h0(x:F12):ab (E12 x) 0 36 (E6 x.a):=ab.l (dh _)
theorem ab.h1(x:F12):ab (E12 x) 36 36 (E6 x.b):=ab.r (dh _) (dh _)
theorem ab.k0(x:F12):ab (E12 x) 0 12 (E2 x.a.a):=ab.inl (ab.t0 (ak _))
theorem ab.k1(x:F12):ab (E12 x) 12 12 (E2 x.a.b):=ab.inl (ab.t1 (ak _) (ak _))
theorem ab.k2(x:F12):ab (E12 x) 24 12 (E2 x.a.c):=ab.inl (ab.t2 (ak _) (ak _) (ak _))
theorem ab.k3(x:F12):ab (E12 x) 36 12 (E2 x.b.a):=by
 have h:=ab.inr (xs:=E6 x.a) (show ab (E6 x.b) 0 12 (E2 x.b.a)from ab.t0 (ak x.b.a))
 rwa [dh]at h
theorem ab.k4(x:F12):ab (E12 x) 48 12 (E2 x.b.b):=by
 have h:=ab.inr (xs:=E6 x.a) (show ab (E6 x.b) 12 12 (E2 x.b.b)from ab.t1 (ak x.b.a) (ak x.b.b))
 rwa [dh]at h
theorem ab.k5(x:F12):ab (E12 x) 60 12 (E2 x.b.c):=by
 have h:=ab.inr (xs:=E6 x.a) (show ab (E6 x.b) 24 12 (E2 x.b.c)from ab.t2 (ak x.b.a) (ak x.b.b) (ak x.b.c))
 rwa [dh]at h
theorem ab.whole(x:F12):ab (E12 x) 0 72 (E12 x):=ab.all (be x)
theorem ab.whole6(x:F6):ab (E6 x) 0 36 (E6 x):=ab.all (dh x)
theorem cL{a b:Prop}(k:b)(h:Rm b→a:=by intro k;refine aq (v:=LV .u64 (List.replicate 72 0)) (by rfl) (by rfl) ?_;exact k.h):a:=h ⟨k⟩
theorem zi{a b:Prop}(k:b)(h:Rm b→a:=by intro k;refine oA (by rfl) (by first | exact(show _=some (0,36)from rfl) | exact(show _=some (36,36)from rfl) | exact(show _=some (0,12)from rfl) | exact(show _=some (12,12)from rfl) | exact(show _=some (24,12)from rfl)) (by rfl) (by rfl) ?_;exact k.h):a:=h ⟨k⟩
theorem O1{a b:Prop}(k:b)(h:Rm b→a:=by intro k;refine cA (m:=36) (by rfl) (by rfl) (by rfl) (by rfl) (dh _) (dh _) (by rfl) ?_;exact k.h):a:=h ⟨k⟩
theorem zj{a b:Prop}(k:b)(h:Rm b→a:=by intro k;refine R.Zpp (by rfl) (by intro _ _ _;(refine bJ (by rfl) fd (by rfl) (by rfl) (ab.k0 _) (by rfl) ?_);exact Zq) ?_;exact k.h):a:=h ⟨k⟩
theorem zk{a b:Prop}(k:b)(h:Rm b→a:=by intro k;refine R.Zpp (by rfl) (by intro _ _ _;(refine bJ (by rfl) fd (by rfl) (by rfl) (ab.k1 _) (by rfl) ?_);exact Zq) ?_;exact k.h):a:=h ⟨k⟩
theorem zl{a b:Prop}(k:b)(h:Rm b→a:=by intro k;refine R.Zpp (by rfl) (by intro _ _ _;(refine bJ (by rfl) fd (by rfl) (by rfl) (ab.k2 _) (by rfl) ?_);exact Zq) ?_;exact k.h):a:=h ⟨k⟩
theorem zm{a b:Prop}(k:b)(h:Rm b→a:=by intro k;refine R.Zpp (by rfl) (by intro _ _ _;(refine bJ (by rfl) fd (by rfl) (by rfl) (ab.k3 _) (by rfl) ?_);exact Zq) ?_;exact k.h):a:=h ⟨k⟩
theorem zn{a b:Prop}(k:b)(h:Rm b→a:=by intro k;refine R.Zpp (by rfl) (by intro _ _ _;(refine bJ (by rfl) fd (by rfl) (by rfl) (ab.k4 _) (by rfl) ?_);exact Zq) ?_;exact k.h):a:=h ⟨k⟩
theorem zo{a b:Prop}(k:b)(h:Rm b→a:=by intro k;refine R.Zpp (by rfl) (by intro _ _ _;(refine bJ (by rfl) fd (by rfl) (by rfl) (ab.k5 _) (by rfl) ?_);exact Zq) ?_;exact k.h):a:=h ⟨k⟩
theorem zp{a b:Prop}(k:b)(h:Rm b→a:=by intro k;refine R.Zpp (by rfl) (by intro _ _ _;(refine bJ (by rfl) fd (by rfl) (by rfl) (ab.h0 _) (by rfl) ?_);exact Zq) ?_;exact k.h):a:=h ⟨k⟩
theorem zq{a b:Prop}(k:b)(h:Rm b→a:=by intro k;refine R.Zpp (by rfl) (by intro _ _ _;(refine bJ (by rfl) fd (by rfl) (by rfl) (ab.h1 _) (by rfl) ?_);exact Zq) ?_;exact k.h):a:=h ⟨k⟩
theorem Di{a b:Prop}(k:b)(h:Rm b→a:=by intro k;refine R.Zps (by rfl) (by intro _ _ _;(refine aX (m:=72) (by rfl) (by rfl) fd (by rfl) (by simp) (be _) ?_);exact Zqq) ?_;exact k.h):a:=h ⟨k⟩
theorem PF{a b:Prop}(k:b)(h:Rm b→a:=by intro k;refine R.Zpf (by rfl) (by intro _ _ _;(first|refine zi ?_|refine O1 ?_);exact Zq) ?_;exact k.h):a:=h ⟨k⟩
theorem PW{a b:Prop}(k:b)(h:Rm b→a:=by intro k;(first|refine PF ?_|refine aL ?_|refine zj ?_|refine zk ?_|refine zl ?_|refine zm ?_|refine zn ?_|refine zo ?_|refine zp ?_|refine zq ?_);exact k.h):a:=h ⟨k⟩
theorem nL{a b:Prop}(k:b)(h:Rm b→a:=by intro k;(first|refine aA ?_|refine Di ?_);exact k.h):a:=h ⟨k⟩
theorem FC(x:F12):Spec Tryz.prog 160 [bM x] ai [] (IsV (bM x)):=by
  refine ad Tryz.func160 rfl rfl rfl fun w hr=>?_
  have a1:=oG x.a
  have a2:=oG x.b
  repeat (first|(refine cL ?_;intro _)|refine bV ?_|refine Z81 fun _=>?_|refine Z82 fun _=>?_)
  refine R.af [0,1,2,3,4,5,6,7] (by rfl) ?_
  repeat (first|refine PW ?_|refine ag a1 ?_|refine ag a2 ?_|refine nL ?_|(refine aV ?_;intro _))
  refine R.Zp0 ?_
  repeat (first|refine bV ?_|refine Z81 fun _=>?_|refine Z82 fun _=>?_)
  refine Zec fun _ hw=>aa hw SubW.nil ⟨?_,rfl⟩
  rfl
theorem jI(x:F12):Spec Tryz.prog 142 [bM x] ai [] (IsV (bM (Kf.T12.conj x))):=by
  refine ad Tryz.func142 rfl rfl rfl fun w hr=>?_
  have a1:=oG x.a
  have a2:=ue x.b
  repeat (first|(refine cL ?_;intro _)|refine bV ?_|refine Z81 fun _=>?_|refine Z82 fun _=>?_)
  refine R.af [0,1,2,3,4,5,6,7] (by rfl) ?_
  repeat (first|refine PW ?_|refine ag a1 ?_|refine ag a2 ?_|refine nL ?_|(refine aV ?_;intro _))
  refine R.Zp0 ?_
  repeat (first|refine bV ?_|refine Z81 fun _=>?_|refine Z82 fun _=>?_)
  refine Zec fun _ hw=>aa hw SubW.nil ⟨?_,rfl⟩
  rfl
theorem Kc{a b:Prop}(k:b)(h:Rm b→a:=by intro k;refine R.Zps (by rfl) (by intro _ _ _;(refine aX (m:=36) (by rfl) (by rfl) fd (by rfl) (by simp) (dh _) ?_);exact Zqq) ?_;exact k.h):a:=h ⟨k⟩
theorem Fy(u v:Nat)(x y:F12):Spec Tryz.prog 147 [pt u 0,pt v 0] (fun w=>eN w u (bM x) 138∧eN w v (bM y) 138) [] (IsV (LE6 (Kf.T6.mul (Kf.T6.add x.a x.b) (Kf.T6.add y.a y.b)))):=by
 refine ad Tryz.func147 rfl rfl rfl fun w hr=>?_
 have h1:=OldB.mk0 hr.1
 have h2:=OldB.mk0 hr.2
 have a1:=kY x.a x.b
 have a2:=kY y.a y.b
 have a3:=fH (Kf.T6.add x.a x.b) (Kf.T6.add y.a y.b)
 repeat (first|(refine lD ?_;intro _)|refine bV ?_|refine Z82 fun _=>?_)
 refine R.af [0,1,2,3,4,5,6,7,8,9,10,11] (by rfl) ?_
 repeat (first|(refine R.Zpf (by rfl) (by intro _ _ _;(first|refine zi ?_);exact Zq) ?_)|refine aL ?_|(refine R.Zpp (by rfl) (by intro _ _ _;(refine ep (by rfl) (h1.shift (by assumption)) (by rfl) (by rfl) (ab.h0 x) (by rfl) ?_);exact Zq) ?_)|(refine R.Zpp (by rfl) (by intro _ _ _;(refine ep (by rfl) (h1.shift (by assumption)) (by rfl) (by rfl) (ab.h1 x) (by rfl) ?_);exact Zq) ?_)|(refine R.Zpp (by rfl) (by intro _ _ _;(refine ep (by rfl) (h2.shift (by assumption)) (by rfl) (by rfl) (ab.h0 y) (by rfl) ?_);exact Zq) ?_)|(refine R.Zpp (by rfl) (by intro _ _ _;(refine ep (by rfl) (h2.shift (by assumption)) (by rfl) (by rfl) (ab.h1 y) (by rfl) ?_);exact Zq) ?_)|refine ag a1 ?_|refine ag a2 ?_|refine ag a3 ?_|refine aA ?_|refine Kc ?_|(refine Bj ?_;intro _))
 refine R.Zp0 ?_
 repeat (first|refine bV ?_|refine Z82 fun _=>?_)
 refine Zec fun _ hw=>aa hw SubW.nil ⟨?_,rfl⟩
 rfl
theorem O2{a b:Prop}(k:b)(h:Rm b→a:=by intro k;refine R.Zpp (by rfl) (by intro _ _ _;(refine bJ (by rfl) fd (by rfl) (by rfl) (ab.whole6 _) (by rfl) ?_);exact Zq) ?_;exact k.h):a:=h ⟨k⟩
set_option maxHeartbeats 2000000 in
theorem jf(x y:F12):Spec Tryz.prog 129 [bM x,bM y] ai [] (IsV (bM (Kf.T12.mul x y))):=by
 refine ad Tryz.func129 rfl rfl rfl fun w hr=>?_
 rw[← Kf.T12.rk]
 have a1:=fH x.a y.a
 have a2:=fH x.b y.b
 have a3:=yY (Kf.T6.mul x.b y.b)
 have a4:=kY (Kf.T6.mul x.a y.a) (Kf.T6.mul Kf.T6.vv (Kf.T6.mul x.b y.b))
 have a5:=fun u v=>Fy u v x y
 have a6:=kY (Kf.T6.mul x.a y.a) (Kf.T6.mul x.b y.b)
 have a7:=uf (Kf.T6.mul (Kf.T6.add x.a x.b) (Kf.T6.add y.a y.b)) (Kf.T6.add (Kf.T6.mul x.a y.a) (Kf.T6.mul x.b y.b))
 generalize Kf.T6.sub (Kf.T6.mul (Kf.T6.add x.a x.b) (Kf.T6.add y.a y.b)) (Kf.T6.add (Kf.T6.mul x.a y.a) (Kf.T6.mul x.b y.b))=k1 at *
 generalize Kf.T6.mul (Kf.T6.add x.a x.b) (Kf.T6.add y.a y.b)=k2 at *
 generalize Kf.T6.add (Kf.T6.mul x.a y.a) (Kf.T6.mul Kf.T6.vv (Kf.T6.mul x.b y.b))=k3 at *
 generalize Kf.T6.mul Kf.T6.vv (Kf.T6.mul x.b y.b)=k4 at *
 generalize Kf.T6.add (Kf.T6.mul x.a y.a) (Kf.T6.mul x.b y.b)=k5 at *
 generalize Kf.T6.mul x.a y.a=k6 at *
 generalize Kf.T6.mul x.b y.b=k7 at *
 repeat (first|(refine cL ?_;intro _)|refine zw ?_|refine Z81 fun _=>?_|refine Z82 fun _=>?_)
 rename_i p2 p3 p4
 refine CL (fun a b=>[(2,pt p2 0),(3,pt p3 0),(4,pt p4 0),(5,pt a 0),(6,pt b 0)]) (fun a b=>[.blk a (LE6 k6) 136,.blk b (LE6 k7) 136,.blk p4 (LV .u64 (List.replicate 72 0)) 138,.blk p3 (bM y) 138,.blk p2 (bM x) 138]) (fun p5 p6=>?_) (fun hK=>?_)
 case refine_2=>
  refine R.af [0,1,2,3,4,5,6,7,8,9,10,11,12,13] (by rfl) ?_
  repeat' (first|(refine R.Zpf (by rfl) (by intro _ _ _;(first|refine zi ?_|refine Z01 ?_|refine Z02 ?_|refine Z48 ?_);exact Zq) ?_)|refine aL ?_|refine zj ?_|refine zk ?_|refine zl ?_|refine zm ?_|refine zn ?_|refine zo ?_|refine zp ?_|refine zq ?_|refine ag a1 ?_|refine ag a2 ?_|refine aA ?_|refine Kc ?_|(refine R.FV (R.Mks.mk (R.Mk.mk' (by rfl) (by intro _ _ _;refine aq (v:=LV .u64 (List.replicate 36 0)) (by rfl) (by rfl) fun _=>?_;first|exact R.iH|exact R.dO|exact R.iI)) (fun _=>?_)) (R.Mks.mk (R.Mk.mk' (by rfl) (by intro _ _ _;refine aq (v:=LV .u64 (List.replicate 36 0)) (by rfl) (by rfl) fun _=>?_;first|exact R.iH|exact R.dO|exact R.iI)) (fun _=>?_)))|(refine Kb ?_;intro _)|(refine aV ?_;intro _))
  all_goals refine R.Zp0 ?_
  all_goals exact d9 sbq sw (hK _ _)
 case refine_1=>
  repeat (first|refine zw ?_|refine Z81 fun _=>?_|refine Z82 fun _=>?_)
  refine R.af [0,1,2,3,4,5,6,7,8,9,10,11] (by rfl) ?_
  repeat (first|(refine R.Zpf (by rfl) (by intro _ _ _;(first|refine O1 ?_|refine Z01 ?_|refine Z02 ?_|refine Z48 ?_);exact Zq) ?_)|refine aL ?_|refine O2 ?_|refine ag a3 ?_|refine ag a4 ?_|(refine R.Zpp (by rfl) (by intro _ _ _;refine ah (by rfl) (by rfl) (by rfl) (a5 _ _) (fun w hw=>⟨eN.own fd w hw,eN.own fd w hw⟩) (by rfl) ?_;exact Zq) ?_)|refine ag a6 ?_|refine ag a7 ?_|refine nL ?_|(refine aV ?_;intro _))
  refine R.Zp0 ?_
  repeat (first|refine zw ?_|refine Z81 fun _=>?_|refine Z82 fun _=>?_)
  refine Zec fun _ hw=>aa hw SubW.nil ⟨?_,rfl⟩
  rfl
set_option maxHeartbeats 2000000 in
theorem Fx(x:F12):Spec Tryz.prog 143 [bM x] ai [] (IsV (bM (Kf.T12.inv x))):=by
 refine ad Tryz.func143 rfl rfl rfl fun w hr=>?_
 have e:Kf.T12.inv x=⟨Kf.T6.mul x.a (Kf.T6.inv (Kf.T6.sub (Kf.T6.mul x.a x.a) (Kf.T6.mul Kf.T6.vv (Kf.T6.mul x.b x.b)))),Kf.T6.neg (Kf.T6.mul x.b (Kf.T6.inv (Kf.T6.sub (Kf.T6.mul x.a x.a) (Kf.T6.mul Kf.T6.vv (Kf.T6.mul x.b x.b)))))⟩:=rfl
 rw[e]
 have a1:=fH x.a x.a
 have a2:=fH x.b x.b
 have a3:=yY (Kf.T6.mul x.b x.b)
 have a4:=uf (Kf.T6.mul x.a x.a) (Kf.T6.mul Kf.T6.vv (Kf.T6.mul x.b x.b))
 generalize Kf.T6.sub (Kf.T6.mul x.a x.a) (Kf.T6.mul Kf.T6.vv (Kf.T6.mul x.b x.b))=k1 at *
 have a5:=FD k1
 generalize Kf.T6.inv k1=i at *
 have a6:=fH x.a i
 have a7:=fH x.b i
 have a8:=ue (Kf.T6.mul x.b i)
 generalize Kf.T6.neg (Kf.T6.mul x.b i)=k2 at *
 generalize Kf.T6.mul x.b i=k3 at *
 generalize Kf.T6.mul x.a i=k4 at *
 generalize Kf.T6.mul Kf.T6.vv (Kf.T6.mul x.b x.b)=k5 at *
 generalize Kf.T6.mul x.b x.b=k6 at *
 generalize Kf.T6.mul x.a x.a=k7 at *
 repeat (first|(refine cL ?_;intro _)|refine bV ?_|refine Z81 fun _=>?_|refine Z82 fun _=>?_)
 refine R.af [0,1,2,3,4,5,6,7,8,9,10,11,12,13,14] (by rfl) ?_
 repeat (first|(refine R.Zpf (by rfl) (by intro _ _ _;(first|refine zi ?_);exact Zq) ?_)|refine aL ?_|refine zj ?_|refine zk ?_|refine zl ?_|refine zm ?_|refine zn ?_|refine zo ?_|refine zp ?_|refine zq ?_|refine ag a1 ?_|refine ag a2 ?_|refine ag a3 ?_|refine ag a4 ?_|refine ag a5 ?_|refine aA ?_|refine Kc ?_|(refine Kb ?_;intro _)|(refine aV ?_;intro _))
 refine R.Zp0 ?_
 repeat (first|refine bV ?_|refine Z81 fun _=>?_|refine Z82 fun _=>?_)
 refine R.af [0,1,2,3,4,5,6,7,8,9,10] (by rfl) ?_
 repeat (first|refine PF ?_|refine aL ?_|refine zj ?_|refine zk ?_|refine zl ?_|refine zm ?_|refine zn ?_|refine zo ?_|refine zp ?_|refine zq ?_|refine O2 ?_|refine ag a6 ?_|refine ag a7 ?_|refine ag a8 ?_|refine nL ?_|(refine aV ?_;intro _))
 refine R.Zp0 ?_
 repeat (first|refine bV ?_|refine Z81 fun _=>?_|refine Z82 fun _=>?_)
 refine Zec fun _ hw=>aa hw SubW.nil ⟨?_,rfl⟩
 rfl
end
section
attribute [local irreducible] Code.wp wpList Af bodyPost L.Go ab
open Num
attribute [local simp] ae
section
variable {P:Program} {c:Cx} {n:Nn} {l:Sl} {W:List Res} {ops:Array Oper} {Q:Exit→Act→World→Prop} {rest:List Oper}
variable {d:Nat} {T:TypeId} {pos:String} {after:Array Edge}
theorem AY{t:TypeId}{fs:Array Field}{m:Nat}{k:IntKind}{xs:List Nat}{x:Operand}(ht:P.underlying t=some (.struct fs))(hpl:jU P fs.toList=some [(0,m),(m,m),(m+m,m)])(hz:cE P t=some (LV k (List.replicate (m+(m+m)) 0)))
  (hv:evs l [x]=some [LV k xs]) (h1:xs.length=m) (hn:Nat.blt d n.sz=true)
  (hk:Go c n ((d,LV k (xs++(List.replicate m 0++List.replicate m 0)))::l) W (wpList P ops Q rest)):Go c n l W (wpList P ops Q (⟨some d,.build t #[(0,x)],T,pos,after,none⟩::rest)):=
 eI (is:=[0]) (xs:=[x]) (vs:=[xs]) ht hpl hz hv (by
  have e:List.replicate (m+(m+m)) 0=[]++List.replicate m 0++(List.replicate m 0++List.replicate m 0):=by rw[List.nil_append,List.replicate_append_replicate,List.replicate_append_replicate]
  rw[e]
  exact .cons (by simp) (by simpa using h1) .nil) hn hk
theorem AZ{t:TypeId}{fs:Array Field}{m:Nat}{k:IntKind}{xs:List Nat}{x:Operand}(ht:P.underlying t=some (.struct fs))(hpl:jU P fs.toList=some [(0,m),(m,m),(m+m,m)])(hz:cE P t=some (LV k (List.replicate (m+(m+m)) 0)))
  (hv:evs l [x]=some [LV k xs]) (h1:xs.length=m) (hn:Nat.blt d n.sz=true)
  (hk:Go c n ((d,LV k (List.replicate m 0++(xs++List.replicate m 0)))::l) W (wpList P ops Q rest)):Go c n l W (wpList P ops Q (⟨some d,.build t #[(1,x)],T,pos,after,none⟩::rest)):=
 eI (is:=[1]) (xs:=[x]) (vs:=[xs]) ht hpl hz hv (by
  have e:List.replicate (m+(m+m)) 0=List.replicate m 0++List.replicate m 0++List.replicate m 0:=by rw[List.replicate_append_replicate,List.replicate_append_replicate,Nat.add_assoc]
  rw[e,← List.append_assoc]
  exact .cons (by simp) (by simpa using h1) .nil) hn hk
theorem yn{t:TypeId}{fs:Array Field}{m:Nat}{k:IntKind}{xs ys:List Nat}{x y:Operand}(ht:P.underlying t=some (.struct fs))(hpl:jU P fs.toList=some [(0,m),(m,m),(m+m,m)])(hz:cE P t=some (LV k (List.replicate (m+(m+m)) 0)))
  (hv:evs l [x,y]=some [LV k xs,LV k ys]) (h1:xs.length=m) (h2:ys.length=m) (hn:Nat.blt d n.sz=true)
  (hk:Go c n ((d,LV k (xs++(ys++List.replicate m 0)))::l) W (wpList P ops Q rest)):Go c n l W (wpList P ops Q (⟨some d,.build t #[(0,x),(1,y)],T,pos,after,none⟩::rest)):=
 eI (is:=[0,1]) (xs:=[x,y]) (vs:=[xs,ys]) ht hpl hz hv (by
  have e:List.replicate (m+(m+m)) 0=[]++List.replicate m 0++(List.replicate m 0++List.replicate m 0):=by rw[List.nil_append,List.replicate_append_replicate,List.replicate_append_replicate]
  rw[e]
  refine .cons (by simp) (by simpa using h1) ?_
  rw[List.nil_append,← List.append_assoc,← List.append_assoc]
  exact .cons (by simp[h1]) (by simpa using h2) .nil) hn hk
end
theorem KS:(List.replicate 12 0:List Nat)=E2 (Kf.K2.zero:F2):=wo
theorem PZ:(List.replicate 36 0:List Nat)=E6 Kf.T6.zero:=Bl
theorem UN:E2 (Kf.K2.one:F2)++(List.replicate 12 0++List.replicate 12 0)=E6 (Kf.T6.one:F6):=by rw[KS];rfl
theorem UP:E6 (Kf.T6.one:F6)++List.replicate 36 0=E12 (Kf.T12.one:F12):=by rw[PZ];rfl
attribute [local irreducible] Kf.T12.mul Kf.T12.one CR.pw
theorem WZ(x:F12)(m:Nat):Kf.T12.mul (CR.pw x m) (CR.pw x m)=CR.pw x (m+m):=(CR.dP x m m).symm
theorem W3(x:F12)(m:Nat):Kf.T12.mul (CR.pw x m) x=CR.pw x (m+1):=(CR.li x m).symm
theorem VE{a b:Prop}(k:b)(h:Rm b→a:=by intro k;refine AY (m:=12) (by rfl) (by rfl) (by kernel_rfl) (by rfl) (ak _) (by rfl) ?_;rw[UN];exact k.h):a:=h ⟨k⟩
theorem VF{a b:Prop}(k:b)(h:Rm b→a:=by intro k;refine eo (m:=36) (by rfl) (by rfl) (by kernel_rfl) (by rfl) (dh _) (by rfl) ?_;rw[UP];exact k.h):a:=h ⟨k⟩
theorem ul{a b:Prop}(k:b)(h:Rm b→a:=by intro k;(first|refine Z01 ?_|refine Z02 ?_|refine Z03 ?_|refine Z04 ?_|refine Z05 ?_|refine Z06 ?_|refine Z07 ?_|refine Z08 ?_|refine Z09 ?_|refine Z10 ?_|refine Z11 ?_|refine Z12 ?_|refine Z13 ?_|refine Z14 ?_|refine Z15 ?_|refine Z16 ?_|refine Z17 ?_|refine Z18 ?_|refine Z20 ?_|refine Z21 ?_|refine Z22 ?_|refine Z23 ?_|refine Z24 ?_|refine Z26 ?_|refine Z27 ?_|refine Z29 ?_|refine Z30 ?_|refine Z31 ?_|refine Z32 ?_|refine Z36 ?_|refine Z37 ?_|refine Z38 ?_|refine Z40 ?_|refine Z42 ?_|refine Z67 ?_|refine Z71 ?_);exact k.h):a:=h ⟨k⟩
theorem f9{a b:Prop}(k:b)(h:Rm b→a:=by intro k;refine bJ (by rfl) fd (by rfl) (by rfl) (ab.whole _) (by rfl) ?_;exact k.h):a:=h ⟨k⟩
theorem so{a b:Prop}(k:b)(h:Rm b→a:=by intro k;refine aX (m:=72) (by rfl) (by rfl) fd (by rfl) (be _) (be _) ?_;exact k.h):a:=h ⟨k⟩
theorem jS{a b:Prop}(k:b)(h:Rm b→a:=by intro k;refine aX (m:=72) (by rfl) (by rfl) fd (by rfl) (by simp) (be _) ?_;exact k.h):a:=h ⟨k⟩
theorem KA{a b:Prop}(k:b)(h:Rm b→a:=by intro k;(first|refine zu ?_|refine NH ?_|refine VE ?_|refine VF ?_);exact k.h):a:=h ⟨k⟩
theorem PG{a b:Prop}(k:b)(h:Rm b→a:=by intro k;(first|refine so ?_|refine Z01 ?_|refine Z02 ?_|refine Z03 ?_|refine Z04 ?_|refine Z05 ?_|refine Z06 ?_|refine Z07 ?_|refine Z08 ?_|refine Z09 ?_|refine Z10 ?_|refine Z11 ?_|refine Z12 ?_|refine Z13 ?_|refine Z14 ?_|refine Z15 ?_|refine Z16 ?_|refine Z17 ?_|refine Z18 ?_|refine Z20 ?_|refine Z21 ?_|refine Z22 ?_|refine Z23 ?_|refine Z24 ?_|refine Z26 ?_|refine Z27 ?_|refine Z29 ?_|refine Z30 ?_|refine Z31 ?_|refine Z32 ?_|refine Z36 ?_|refine Z37 ?_|refine Z38 ?_|refine Z40 ?_|refine Z42 ?_|refine Z67 ?_|refine Z71 ?_);exact k.h):a:=h ⟨k⟩
set_option maxHeartbeats 4000000 in
theorem oE(x:F12)(s:Value)(xs:List Nat)(hx:Lt 18446744073709551616 xs)(hl:xs.length<65536):
  Spec Tryz.prog 92 [bM x,s] (fun w=>Rd w s (xs.map (N .u64))) [] (IsV (bM (CR.pw x (V xs)))):=by
 refine ad Tryz.func92 rfl rfl rfl fun w hr=>?_
 have hr:=RdC.mk0 hr
 have hl0:=fun x=>ae 6 x
 have hle:=fun x:F2=>ak x
 have hz:V xs/2^(64*xs.length)=0:=Nat.div_eq_of_lt (by rw[Nat.pow_mul,← W_2];exact uz hx)
 have h0:(Kf.T12.one:F12)=CR.pw x (V xs/2^(64*xs.length-0)):=by rw[Nat.sub_zero,hz];exact(CR.R2 x).symm
 repeat (first|refine KA ?_|(refine cL ?_;intro _)|refine ul ?_|refine Z81 fun _=>?_|refine Z82 fun _=>?_)
 rw[h0]
 rename_i p2 p4 p5
 refine ay (ι:=Nat×Bool) (fun q=>q.1≤64*xs.length∧(q.2=false→V xs/2^(64*xs.length-q.1)=0)) (fun q=>[(1,s),(2,pt p2 0),(4,pt p4 0),(5,pt p5 0),(6,.bool q.2),(15,N .i64 (64*xs.length)),(16,N .i64 q.1)])
  (fun q=>[.blk p5 (bM (CR.pw x (V xs/2^(64*xs.length-q.1)))) 138,.blk p4 (LV .u64 (List.replicate 72 0)) 138,.blk p2 (bM x) 138]) (fun q=>64*xs.length-q.1) (0,false) ⟨Nat.zero_le _,fun _=>by rw[Nat.sub_zero];exact hz⟩ sbq sw ?_
 rintro⟨i,bg⟩ ⟨hi,hb⟩
 simp only at hi hb ⊢
 repeat (first|refine ul ?_|refine Z81 fun _=>?_|refine Z82 fun _=>?_)
 refine an (by rfl) (fun hc=>?_) (fun hc=>?_)
 ·have hc':i<64*xs.length:=hc
  obtain⟨k,hk⟩:∃k,64*xs.length=i+k+1:=⟨64*xs.length-i-1,by omega⟩
  have hkl:k<64*xs.length:=by omega
  have e1:64*xs.length-i=k+1:=by omega
  have e2:64*xs.length-(i+1)=k:=by omega
  have e3:64*xs.length-1-i=k:=by omega
  rw[e1]at hb ⊢
  have hst:=mw (V xs) k
  have hbt:=mv hx k
  have n1:=jf (CR.pw x (V xs/2^(k+1))) (CR.pw x (V xs/2^(k+1)))
  rw[WZ]at n1
  have n2:=jf (CR.pw x (V xs/2^(k+1)+V xs/2^(k+1))) x
  rw[W3]at n2
  generalize V xs/2^(k+1)=m at *
  cases bg with
  | false=>
   have hq:CR.pw x m=CR.pw x (m+m):=by rw[hb rfl]
   rw[hq]
   clear n1
   repeat (first|refine f9 ?_|refine y_4 n1 ?_|refine so ?_|refine ib (by rfl) (by rfl) (show k%64≤64 by omega) (by rfl) ?_|rw[hbt]|rw[e3]|refine ul ?_|refine Z81 fun _=>?_|refine Z82 fun _=>?_)
   refine an (by rfl) (fun hb1=>?_) (fun hb1=>?_)
   ·have hx1:V xs/2^k=m+m+1:=by omega
    repeat (first|refine f9 ?_|refine y_4 n2 ?_|refine PG ?_|refine Z81 fun _=>?_|refine Z82 fun _=>?_)
    rw[← hx1]
    exact ao (i+1,true) ⟨by simp only;omega,fun h=>by cases h⟩ (by simp only;omega) sbq (by simp only;rw[e2];exact sw)
   ·have hx1:V xs/2^k=m+m:=by omega
    repeat (first|refine ul ?_|refine Z81 fun _=>?_|refine Z82 fun _=>?_)
    rw[← hx1]
    exact ao (i+1,false) ⟨by simp only;omega,fun h=>by have:=hb rfl;simp only[e2];omega⟩ (by simp only;omega) sbq (by simp only;rw[e2];exact sw)
  | true=>
   clear hb
   repeat (first|refine f9 ?_|refine y_4 n1 ?_|refine so ?_|refine ib (by rfl) (by rfl) (show k%64≤64 by omega) (by rfl) ?_|rw[hbt]|rw[e3]|refine ul ?_|refine Z81 fun _=>?_|refine Z82 fun _=>?_)
   refine an (by rfl) (fun hb1=>?_) (fun hb1=>?_)
   ·have hx1:V xs/2^k=m+m+1:=by omega
    repeat (first|refine f9 ?_|refine y_4 n2 ?_|refine PG ?_|refine Z81 fun _=>?_|refine Z82 fun _=>?_)
    rw[← hx1]
    exact ao (i+1,true) ⟨by simp only;omega,fun h=>by cases h⟩ (by simp only;omega) sbq (by simp only;rw[e2];exact sw)
   ·have hx1:V xs/2^k=m+m:=by omega
    repeat (first|refine ul ?_|refine Z81 fun _=>?_|refine Z82 fun _=>?_)
    rw[← hx1]
    exact ao (i+1,true) ⟨by simp only;omega,fun h=>by cases h⟩ (by simp only;omega) sbq (by simp only;rw[e2];exact sw)
 ·have hi':i=64*xs.length:=by omega
  subst hi'
  rw[Nat.sub_self,Nat.pow_zero,Nat.div_one]
  repeat (first|refine f9 ?_|refine jS ?_|refine Z01 ?_|refine Z02 ?_|refine Z03 ?_|refine Z04 ?_|refine Z05 ?_|refine Z06 ?_|refine Z07 ?_|refine Z08 ?_|refine Z09 ?_|refine Z10 ?_|refine Z11 ?_|refine Z12 ?_|refine Z13 ?_|refine Z14 ?_|refine Z15 ?_|refine Z16 ?_|refine Z17 ?_|refine Z18 ?_|refine Z20 ?_|refine Z21 ?_|refine Z22 ?_|refine Z23 ?_|refine Z24 ?_|refine Z26 ?_|refine Z27 ?_|refine Z29 ?_|refine Z30 ?_|refine Z31 ?_|refine Z32 ?_|refine Z36 ?_|refine Z37 ?_|refine Z38 ?_|refine Z40 ?_|refine Z42 ?_|refine Z67 ?_|refine Z71 ?_|refine Z81 fun _=>?_|refine Z82 fun _=>?_)
  refine Zec fun _ hw=>aa hw SubW.nil ⟨?_,rfl⟩
  rfl
end
section
attribute [local irreducible] Code.wp wpList Af bodyPost L.Go ab
open Num
attribute [local simp] ae
def gK:F2:=k2 0x1904d3bf02bb0667c231beb4202c0d1f0fd603fd3cbd5f4f7b2443d784bab9c4f67ea53d63e7813d8d0775ed92235fb8 0x00fc3e2b36c4e03288e9e902231f9fb854a14787b6c7b36fec0c8ec971f63c5f282d5ac14d6c7ec22cf78a126ddc4af3
def qz:List (List Nat):=(List.range 6).map fun k=>E2 (Kf.K2.pw gK k)
theorem GU:∀v∈qz,v.length=12:=by
 intro v hv
 obtain⟨k,_,rfl⟩:=List.mem_map.1 hv
 exact ak _
theorem GT{k:Nat}(h:k<6):qz[k]?=some (E2 (Kf.K2.pw gK k)):=by
 unfold qz
 rw[List.getElem?_map,List.getElem?_range h];rfl
theorem uR:([0x1,0x0,0x0,0x0,0x0,0x0,0x0,0x0,0x0,0x0,0x0,0x0,
 0x8d0775ed92235fb8,0xf67ea53d63e7813d,0x7b2443d784bab9c4,0xfd603fd3cbd5f4f,0xc231beb4202c0d1f,0x1904d3bf02bb0667,0x2cf78a126ddc4af3,0x282d5ac14d6c7ec2,0xec0c8ec971f63c5f,0x54a14787b6c7b36f,0x88e9e902231f9fb8,0xfc3e2b36c4e032,
 0x0,0x0,0x0,0x0,0x0,0x0,0x8bfd00000000aaac,0x409427eb4f49fffd,0x897d29650fb85f9b,0xaa0d857d89759ad4,0xec02408663d4de85,0x1a0111ea397fe699,
 0xc81084fbede3cc09,0xee67992f72ec05f4,0x77f76e17009241c5,0x48395dabc2d3435e,0x6831e36d6bd17ffe,0x6af0e0437ff400b,0xc81084fbede3cc09,0xee67992f72ec05f4,0x77f76e17009241c5,0x48395dabc2d3435e,0x6831e36d6bd17ffe,0x6af0e0437ff400b,
 0x8bfd00000000aaad,0x409427eb4f49fffd,0x897d29650fb85f9b,0xaa0d857d89759ad4,0xec02408663d4de85,0x1a0111ea397fe699,0x0,0x0,0x0,0x0,0x0,0x0,
 0x9b18fae980078116,0xc63a3e6e257f8732,0x8beadf4d8e9c0566,0xf39816240c0b8fee,0xdf47fa6b48b1e045,0x5b2cfd9013a5fd8,0x1ee605167ff82995,0x5871c1908bd478cd,0xdb45f3536814f0bd,0x70df3560e77982d0,0x6bd3ad4afa99cc91,0x144e4211384586c1]:List Nat)=qz.flatten:=by decide +kernel
set_option maxHeartbeats 2000000 in
theorem uS:Spec Tryz.prog 170 [] ai [] (IsV (LV .u64 qz.flatten)):=by
 refine ad Tryz.func170 rfl rfl rfl fun w hr=>?_
 have hlen:(qz.flatten).length=72:=by rw[← uR];rfl
 repeat (first|(refine cL ?_;intro _)|refine C8 ?_|refine eP ?_|refine E9 (k:=6) (m:=12) (kk:=.u64) (vss:=[_,_,_,_,_,_]) (by rfl) (by rfl) (by rfl) (by rfl) (by rfl) (by rfl) (by decide) (by rfl) ?_|refine aX (m:=72) (by rfl) (by rfl) fd (by rfl) (by simp) (by rfl) ?_|refine Z03 ?_|refine Z04 ?_|refine Z05 ?_|refine Z06 ?_|refine Z07 ?_|refine Z08 ?_|refine Z09 ?_|refine Z10 ?_|refine Z11 ?_|refine Z12 ?_|refine Z13 ?_|refine Z14 ?_|refine Z29 ?_|refine Z30 ?_|refine Z31 ?_|refine Z32 ?_|refine Z82 fun _=>?_)
 refine Zec fun _ hw=>aa hw SubW.nil ⟨?_,rfl⟩
 rw[← uR];rfl
def Tx(w:World)(b:Nat):Prop:=eN w b (LV .u64 qz.flatten) 204
theorem O3{a b:Prop}(k:b)(h:Rm b→a:=by intro k;(first|refine Z01 ?_|refine Z03 ?_|refine Z04 ?_|refine Z05 ?_|refine Z06 ?_|refine Z07 ?_|refine Z08 ?_|refine Z09 ?_|refine Z10 ?_|refine Z11 ?_|refine Z12 ?_|refine Z13 ?_|refine Z14 ?_|refine Z22 ?_|refine Z23 ?_|refine Z24 ?_|refine Z26 ?_|refine Z27 ?_|refine Z29 ?_|refine Z30 ?_|refine Z31 ?_|refine Z32 ?_|refine Z67 ?_);exact k.h):a:=h ⟨k⟩
theorem fB(x:F2){k:Nat}(hk:k<6)(b:Nat):Spec Tryz.prog 171 [LE2 x,N .i64 k,pt b 0] (fun w=>Tx w b) [] (IsV (LE2 (Kf.K2.mul (Kf.K2.conj x) (Kf.K2.pw gK k)))):=by
 refine ad Tryz.func171 rfl rfl rfl fun w hr=>?_
 have h1:OldB _ b (LV .u64 qz.flatten) _:=OldB.mk0 hr
 have hl0:=fun x=>ae 6 x
 have hle:=fun x:F2=>ak x
 have hp:ab qz.flatten (0+k*12) 12 (E2 (Kf.K2.pw gK k)):=by rw[Nat.zero_add];exact ab.nth GU (GT hk)
 have a1:=Sn x
 have a2:=aF (Kf.K2.conj x) (Kf.K2.pw gK k)
 repeat (first|(refine bI ?_;intro _)|refine O3 ?_|refine Z81 fun _=>?_|refine Z82 fun _=>?_)
 refine R.af [0,1,2,3,4,5,6] (by rfl) ?_
 repeat (first|(refine R.Zpf (by rfl) (by intro _ _ _;(first|refine t4 (m:=6) (sz:=12) (i:=k) (by rfl) (by rfl) (by rfl) (by rfl) hk (by rfl) ?_|refine Z01 ?_|refine Z22 ?_|refine Z23 ?_);exact Zq) ?_)|(refine R.Zpp (by rfl) (by intro _ _ _;(first|refine Ti ?_);exact Zq) ?_)|refine cz ?_|refine ag a1 ?_|(refine R.Zpp (by rfl) (by intro _ _ _;(refine ep (by rfl) (h1.shift (by assumption)) (by rfl) (by rfl) hp (by rfl) ?_);exact Zq) ?_)|refine ag a2 ?_|refine aA ?_|(refine aV ?_;intro _))
 refine R.Zp0 ?_
 repeat (first|refine O3 ?_|refine Z81 fun _=>?_|refine Z82 fun _=>?_)
 refine Zec fun _ hw=>aa hw SubW.nil ⟨?_,rfl⟩
 rfl
theorem D6(x:F12):Kf.T12.frb gK x=⟨⟨Kf.K2.mul (Kf.K2.conj x.a.a) (Kf.K2.pw gK 0),Kf.K2.mul (Kf.K2.conj x.a.b) (Kf.K2.pw gK 2),Kf.K2.mul (Kf.K2.conj x.a.c) (Kf.K2.pw gK 4)⟩,⟨Kf.K2.mul (Kf.K2.conj x.b.a) (Kf.K2.pw gK 1),Kf.K2.mul (Kf.K2.conj x.b.b) (Kf.K2.pw gK 3),Kf.K2.mul (Kf.K2.conj x.b.c) (Kf.K2.pw gK 5)⟩⟩:=by
 have h0:Kf.K2.pw gK 0=Kf.K2.one:=rfl
 rw[h0,Kf.K2.mul_one',Kf.K2.AM];rfl
theorem O4{a b:Prop}(k:b)(h:Rm b→a:=by intro k;refine cA (m:=36) (by rfl) (by rfl) (by rfl) (by rfl) (eR _ _ _) (eR _ _ _) (by rfl) ?_;exact k.h):a:=h ⟨k⟩
theorem Dj{a b:Prop}(k:b)(h:Rm b→a:=by intro k;refine R.Zps (by rfl) (by intro _ _ _;(refine aX (m:=72) (by rfl) (by rfl) fd (by rfl) (by simp) (be ⟨⟨_,_,_⟩,⟨_,_,_⟩⟩) ?_);exact Zqq) ?_;exact k.h):a:=h ⟨k⟩
set_option maxHeartbeats 2000000 in
theorem Ai(x:F12):Spec Tryz.prog 162 [bM x] ai [] (IsV (bM (Kf.T12.frb gK x))):=by
 refine ad Tryz.func162 rfl rfl rfl fun w hr=>?_
 have hl0:=fun x=>ae 6 x
 have hle:=fun x:F2=>ak x
 have hfl:qz.flatten.length=72:=by rw[← uR];rfl
 rw[D6]
 have a0:=fun b=>fB x.a.a (k:=0) (by decide) b
 have a1:=fun b=>fB x.b.a (k:=1) (by decide) b
 have a2:=fun b=>fB x.a.b (k:=2) (by decide) b
 have a3:=fun b=>fB x.b.b (k:=3) (by decide) b
 have a4:=fun b=>fB x.a.c (k:=4) (by decide) b
 have a5:=fun b=>fB x.b.c (k:=5) (by decide) b
 unfold Tx at a0 a1 a2 a3 a4 a5
 have ff:=uS
 generalize Kf.K2.mul (Kf.K2.conj x.a.a) (Kf.K2.pw gK 0)=k0 at *
 generalize Kf.K2.mul (Kf.K2.conj x.b.a) (Kf.K2.pw gK 1)=k1 at *
 generalize Kf.K2.mul (Kf.K2.conj x.a.b) (Kf.K2.pw gK 2)=k2 at *
 generalize Kf.K2.mul (Kf.K2.conj x.b.b) (Kf.K2.pw gK 3)=k3 at *
 generalize Kf.K2.mul (Kf.K2.conj x.a.c) (Kf.K2.pw gK 4)=k4 at *
 generalize Kf.K2.mul (Kf.K2.conj x.b.c) (Kf.K2.pw gK 5)=k5 at *
 generalize qz.flatten=fv at *
 repeat (first|(refine cL ?_;intro _)|refine y_4 ff ?_|refine aX (m:=72) (by rfl) (by rfl) fd (by rfl) (by simp) hfl ?_|refine zw ?_|refine Z81 fun _=>?_|refine Z82 fun _=>?_)
 refine R.af [0,1,2,3,4,5,6,7,8,9,10,11,12,13,14,15,16,17,18,19,20,21,22,23,24,25,26,27,28,29,30,31,32,33] (by rfl) ?_
 repeat (first|(refine R.Zpf (by rfl) (by intro _ _ _;(first|refine zi ?_|refine r9 ?_|refine O4 ?_|refine Z01 ?_|refine Z02 ?_|refine Z48 ?_);exact Zq) ?_)|refine aL ?_|refine zj ?_|refine zk ?_|refine zl ?_|refine zm ?_|refine zn ?_|refine zo ?_|refine zp ?_|refine zq ?_|refine Bk (a0 _) ?_|refine Bk (a1 _) ?_|refine Bk (a2 _) ?_|refine Bk (a3 _) ?_|refine Bk (a4 _) ?_|refine Bk (a5 _) ?_|refine aA ?_|refine Dj ?_|(refine aV ?_;intro _))
 refine R.Zp0 ?_
 repeat (first|refine zw ?_|refine Z81 fun _=>?_|refine Z82 fun _=>?_)
 refine Zec fun _ hw=>aa hw SubW.nil ⟨?_,rfl⟩
 rfl
theorem A8{n m:Nat}(h:n<m)(hm:m<1000):Spec Tryz.prog 161 [N .i64 n,N .i64 m] ai [] (IsV (N .i64 n)):=by
 refine ad Tryz.func161 rfl rfl rfl fun w hr=>?_
 have h1:n%m=n:=Nat.mod_eq_of_lt h
 have h2:(n+m)%m=n:=by rw[Nat.add_mod_right,h1]
 repeat (first|rw[h1]|rw[h2]|refine Z01 ?_|refine Z02 ?_|refine Z03 ?_|refine Z04 ?_|refine Z05 ?_|refine Z06 ?_|refine Z07 ?_|refine Z08 ?_|refine Z09 ?_|refine Z10 ?_|refine Z11 ?_|refine Z12 ?_|refine Z13 ?_|refine Z14 ?_|refine Z15 ?_|refine Z38 ?_)
 refine Ze1 fun _ hw=>aa hw SubW.nil ⟨?_,rfl⟩
 rfl
def frI:Nat→F12→F12
 | 0,x=>x
 | k+1,x=>Kf.T12.frb gK (frI k x)
attribute [local irreducible] Kf.T12.frb
set_option maxHeartbeats 2000000 in
theorem nZ(x:F12){n:Nat}(h:n<12):Spec Tryz.prog 144 [bM x,N .i64 n] ai [] (IsV (bM (frI n x))):=by
 refine ad Tryz.func144 rfl rfl rfl fun w hr=>?_
 have a1:=FC x
 have a2:=A8 h (by decide)
 have h0:bM x=bM (frI 0 x):=rfl
 repeat (first|(refine cL ?_;intro _)|refine f9 ?_|refine y_4 a1 ?_|refine so ?_|refine y_4 a2 ?_|refine ce ?_|refine Z81 fun _=>?_|refine Z82 fun _=>?_)
 rename_i p2 p4
 refine ay (ι:=Nat) (fun i=>i≤n) (fun i=>[(2,pt p2 0),(4,pt p4 0),(8,N .i64 n),(9,N .i64 i)]) (fun i=>[.blk p2 (bM (frI i x)) 138,.blk p4 (LV .u64 (List.replicate 72 0)) 138]) (fun i=>n-i) 0 (by omega) sbq sw ?_
 intro i hi
 repeat (first|refine ce ?_|refine Z81 fun _=>?_|refine Z82 fun _=>?_)
 refine an (by rfl) (fun hc=>?_) (fun hc=>?_)
 ·have a3:=Ai (frI i x)
  repeat (first|refine f9 ?_|refine y_4 a3 ?_|refine so ?_|refine Z01 ?_|refine Z03 ?_|refine Z04 ?_|refine Z05 ?_|refine Z06 ?_|refine Z07 ?_|refine Z08 ?_|refine Z09 ?_|refine Z10 ?_|refine Z11 ?_|refine Z12 ?_|refine Z13 ?_|refine Z14 ?_|refine Z15 ?_|refine Z17 ?_|refine Z18 ?_|refine Z24 ?_|refine Z26 ?_|refine Z27 ?_|refine Z29 ?_|refine Z30 ?_|refine Z31 ?_|refine Z32 ?_|refine Z67 ?_|refine Z81 fun _=>?_|refine Z82 fun _=>?_)
  exact ao (i+1) (by omega) (by omega) sbq sw
 ·have hi':i=n:=by omega
  subst hi'
  repeat (first|refine f9 ?_|refine jS ?_|refine Z01 ?_|refine Z03 ?_|refine Z04 ?_|refine Z05 ?_|refine Z06 ?_|refine Z07 ?_|refine Z08 ?_|refine Z09 ?_|refine Z10 ?_|refine Z11 ?_|refine Z12 ?_|refine Z13 ?_|refine Z14 ?_|refine Z15 ?_|refine Z17 ?_|refine Z18 ?_|refine Z24 ?_|refine Z26 ?_|refine Z27 ?_|refine Z29 ?_|refine Z30 ?_|refine Z31 ?_|refine Z32 ?_|refine Z67 ?_|refine Z81 fun _=>?_|refine Z82 fun _=>?_)
  refine Zec fun _ hw=>aa hw SubW.nil ⟨?_,rfl⟩
  rfl
end
section
attribute [local irreducible] Code.wp wpList Af bodyPost L.Go ab
open Num
attribute [local simp] ae
attribute [local irreducible] Kf.T12.mul Kf.T12.one Kf.T12.conj Kf.T12.inv CR.pw frI
def bi(l:List F12):F12:=l.foldl Kf.T12.mul Kf.T12.one
theorem My{l:List F12}{i:Nat}{x:F12}(h:l[i]?=some x):Kf.T12.mul (bi (l.take i)) x=bi (l.take (i+1)):=by
 rw[List.take_add_one,h]
 simp only[bi,Option.toList,List.foldl_append,List.foldl_cons,List.foldl_nil]
def gq(l:List F12):List (List Nat):=l.map E12
theorem c9(l:List F12):∀v∈gq l,v.length=72:=by
 intro v hv
 obtain⟨x,_,rfl⟩:=List.mem_map.1 hv
 exact be x
theorem sO(l:List F12):(gq l).flatten.length=l.length*72:=by
 rw[fx (c9 l)];unfold gq;rw[List.length_map]
attribute [local irreducible] bi gq
set_option maxHeartbeats 2000000 in
theorem fE(s:Value)(xs:List F12)(hl:xs.length<1000000):Spec Tryz.prog 126 [s] (fun w=>Rd w (wide 72 s) ((gq xs).flatten.map (N .u64))) [] (IsV (bM (bi xs))):=by
 refine ad Tryz.func126 rfl rfl rfl fun w hr=>?_
 have hl0:=fun x=>ae 6 x
 have hle:=fun x:F2=>ak x
 have h1:=RdC.mk0 hr
 have hE:=c9 xs
 have el:(gq xs).length=xs.length:=by unfold gq;simp
 have hxl:((gq xs).flatten.map (N .u64)).length=xs.length*72:=by rw[List.length_map,sO]
 have e0:(Kf.T12.one:F12)=bi (xs.take 0):=by unfold bi;rfl
 repeat (first|(refine cL ?_;intro _)|refine KA ?_|refine hJ (m:=72) (k:=xs.length) (s:=s) (by rfl) (by rfl) (RdW.old h1) (by decide) hxl (by rfl) ?_|refine uj ?_|refine Z82 fun _=>?_)
 rw[e0]
 rename_i p2 p3
 refine ay (ι:=Nat) (fun i=>i≤xs.length) (fun i=>[(10,s),(11,N .i64 xs.length),(12,N .i64 i),(2,pt p2 0),(3,pt p3 0)]) (fun i=>[.blk p3 (bM (bi (xs.take i))) 138,.blk p2 (LV .u64 (List.replicate 72 0)) 138]) (fun i=>xs.length-i) 0 (by omega) sbq sw ?_
 intro i hi
 repeat (first|refine uj ?_|refine Z82 fun _=>?_)
 refine an (by rfl) (fun h=>?_) (fun h=>?_)
 ·obtain⟨x,hx⟩:∃x,xs[i]?=some x:=⟨_,List.getElem?_eq_getElem h⟩
  have hz:(gq xs)[i]?=some (E12 x):=by unfold gq;rw[List.getElem?_map,hx];rfl
  have hs:=jf (bi (xs.take i)) x
  rw[My hx]at hs
  repeat (first|(refine cL ?_;intro _)|refine fh (m:=72) (s:=s) (i:=i) (k:=xs.length) (by rfl) (by rfl) (by rfl) (by rfl) (RdW.old h1) (by decide) hxl h (by rfl) ?_|refine eJ (m:=72) (s:=wide 72 s) (i:=i) (by rfl) (by rfl) (by rfl) (RdW.old h1) hE hz (by decide) (by rfl) ?_|refine f9 ?_|refine aX (m:=72) (by rfl) (by rfl) fd (by rfl) (by first | exact be _ | simp) (be _) ?_|refine y_4 hs ?_|refine uj ?_|refine Z82 fun _=>?_)
  exact ao (i+1) (by omega) (by omega) sbq sw
 ·have hi':i=xs.length:=by omega
  subst hi'
  rw[List.take_length]
  repeat (first|refine f9 ?_|refine jS ?_|refine Z01 ?_|refine Z03 ?_|refine Z04 ?_|refine Z05 ?_|refine Z06 ?_|refine Z07 ?_|refine Z08 ?_|refine Z09 ?_|refine Z10 ?_|refine Z11 ?_|refine Z12 ?_|refine Z13 ?_|refine Z14 ?_|refine Z15 ?_|refine Z17 ?_|refine Z18 ?_|refine Z20 ?_|refine Z21 ?_|refine Z22 ?_|refine Z23 ?_|refine Z24 ?_|refine Z26 ?_|refine Z27 ?_|refine Z29 ?_|refine Z30 ?_|refine Z31 ?_|refine Z32 ?_|refine Z67 ?_|refine Z82 fun _=>?_)
  refine Zec fun _ hw=>aa hw SubW.nil ⟨?_,rfl⟩
  rfl
theorem oF(a:F12):Spec Tryz.prog 145 [bM a] ai [] (IsV (bM (CR.pw a 15132376222941642752))):=by
 refine ad Tryz.func145 rfl rfl rfl fun w hr=>?_
 have hp:=fun s=>oE a s [15132376222941642752] (by unfold Lt;decide) (by decide)
 rw[show V [15132376222941642752]=15132376222941642752 by decide +kernel]at hp
 repeat (first|(refine cL ?_;intro _)|refine cn (vs:=[15132376222941642752]) (kk:=.u64) (by rfl) (by rfl) (by rfl) (by rfl) (by rfl) (by rfl) (by rfl) (by rfl) fun _=>?_|refine f9 ?_|refine KF (hp _) ?_|refine jS ?_|refine Z03 ?_|refine Z04 ?_|refine Z05 ?_|refine Z06 ?_|refine Z07 ?_|refine Z08 ?_|refine Z09 ?_|refine Z10 ?_|refine Z11 ?_|refine Z12 ?_|refine Z13 ?_|refine Z14 ?_|refine Z24 ?_|refine Z26 ?_|refine Z27 ?_|refine Z29 ?_|refine Z30 ?_|refine Z31 ?_|refine Z32 ?_|refine Z67 ?_|refine Z81 fun _=>?_|refine Z82 fun _=>?_|refine Z85 fun _=>?_)
 refine Zec fun _ hw=>aa hw SubW.nil ⟨?_,rfl⟩
 rfl
theorem Sb{c:Cx}{W:List Res}{b k:Nat}{xs:List F12}{U:TypeId}{R:List Res}(h:Find W (.blk b (LV .u64 (gq xs).flatten) U) R)(hl:xs.length=k):RdW c W (wide 72 (slv b k)) ((gq xs).flatten.map (N .u64)):=RdW.slv h (by rw[sO,hl])
end
section
attribute [local irreducible] Code.wp wpList Af bodyPost L.Go ab
open Num
attribute [local simp] ae
attribute [local irreducible] Kf.T12.mul Kf.T12.one Kf.T12.conj Kf.T12.inv CR.pw frI
attribute [local irreducible] bi
def qG(f:F12):F12:=bi [Kf.T12.conj f,Kf.T12.inv f]
def uT(f:F12):F12:=bi [frI 2 (qG f),qG f]
def lH(f:F12):F12:=CR.pw (uT f) (V [10088250816726084267,4137836090706223446])
def iW(f:F12):F12:=bi [Kf.T12.conj (CR.pw (lH f) 15132376222941642752),frI 1 (lH f)]
def D2(f:F12):F12:=bi [CR.pw (CR.pw (iW f) 15132376222941642752) 15132376222941642752,frI 2 (iW f),Kf.T12.conj (iW f)]
def fY(f:F12):F12:=bi [D2 f,uT f]
theorem VG{a b:Prop}(k:b)(h:Rm b→a:=by intro k;refine R.Zpf (by rfl) (by intro _ _ _;(first|refine Z01 ?_|refine Z02 ?_);exact Zq) ?_;exact k.h):a:=h ⟨k⟩
theorem O5{a b:Prop}(k:b)(h:Rm b→a:=by intro k;refine R.Zpp (by rfl) (by intro _ _ _;(refine bJ (by rfl) fd (by rfl) (by rfl) (ab.whole _) (by rfl) ?_);exact Zq) ?_;exact k.h):a:=h ⟨k⟩
theorem Dk{S1 a b:Prop}(s1:S1)(k:b)(h:S1→Rm b→a:=by intro s1 k;refine R.Zpp (by rfl) (by intro _ _ _;refine ah (by rfl) (by rfl) (by rfl) s1 (Sb fd rfl) (by rfl) ?_;exact Zq) ?_;exact k.h):a:=h s1 ⟨k⟩
theorem um{a b:Prop}(k:b)(h:Rm b→a:=by intro k;refine R.Zpb (by rfl) (by intro _ _ _;refine aq (v:=LV .u64 (List.replicate 72 0)) (by rfl) (by rfl) fun _=>?_;exact R.eO) ?_;exact k.h):a:=h ⟨k⟩
theorem PH{a b:Prop}(k:b)(h:Rm b→a:=by intro k;(first|refine jS ?_|refine Z01 ?_|refine Z02 ?_|refine Z03 ?_|refine Z04 ?_|refine Z05 ?_|refine Z06 ?_|refine Z07 ?_|refine Z08 ?_|refine Z09 ?_|refine Z10 ?_|refine Z11 ?_|refine Z12 ?_|refine Z13 ?_|refine Z14 ?_|refine Z24 ?_|refine Z26 ?_|refine Z27 ?_|refine Z29 ?_|refine Z30 ?_|refine Z31 ?_|refine Z32 ?_|refine Z67 ?_);exact k.h):a:=h ⟨k⟩
theorem DC{a b:Prop}(k:b)(h:Rm b→a:=by intro k;(first|refine VG ?_|refine aL ?_|refine O5 ?_);exact k.h):a:=h ⟨k⟩
set_option maxHeartbeats 8000000 in
theorem Ab(f:F12):Spec Tryz.prog 128 [bM f] ai [] (IsV (bM (fY f))):=by
 refine ad Tryz.func128 rfl rfl rfl fun w hr=>?_
 have a1:=jI f
 have a2:=Fx f
 have a3:=fun s=>fE s [Kf.T12.conj f,Kf.T12.inv f] (by simp)
 have eG:bi [Kf.T12.conj f,Kf.T12.inv f]=qG f:=rfl
 rw[eG]at a3
 have b1:=nZ (qG f) (n:=2) (by decide)
 have b2:=fun s=>fE s [frI 2 (qG f),qG f] (by simp)
 have eH:bi [frI 2 (qG f),qG f]=uT f:=rfl
 rw[eH]at b2
 have c1:=fun s=>oE (uT f) s [10088250816726084267,4137836090706223446] (by unfold Lt;decide) (by decide)
 have eA:CR.pw (uT f) (V [10088250816726084267,4137836090706223446])=lH f:=rfl
 rw[eA]at c1
 have d1:=oF (lH f)
 have d2:=jI (CR.pw (lH f) 15132376222941642752)
 have d3:=nZ (lH f) (n:=1) (by decide)
 have d4:=fun s=>fE s [Kf.T12.conj (CR.pw (lH f) 15132376222941642752),frI 1 (lH f)] (by simp)
 have eB:bi [Kf.T12.conj (CR.pw (lH f) 15132376222941642752),frI 1 (lH f)]=iW f:=rfl
 rw[eB]at d4
 have g1:=oF (iW f)
 have g2:=oF (CR.pw (iW f) 15132376222941642752)
 have g3:=nZ (iW f) (n:=2) (by decide)
 have g4:=jI (iW f)
 have g5:=fun s=>fE s [CR.pw (CR.pw (iW f) 15132376222941642752) 15132376222941642752,frI 2 (iW f),Kf.T12.conj (iW f)] (by simp)
 have eC:bi [CR.pw (CR.pw (iW f) 15132376222941642752) 15132376222941642752,frI 2 (iW f),Kf.T12.conj (iW f)]=D2 f:=rfl
 rw[eC]at g5
 have k1:=fun s=>fE s [D2 f,uT f] (by simp)
 rw[show bi [D2 f,uT f]=fY f from rfl]at k1
 clear eG eH eA eB eC
 generalize fY f=zP at *
 generalize D2 f=zC at *
 generalize Kf.T12.conj (CR.pw (lH f) 15132376222941642752)=y1 at *
 generalize CR.pw (lH f) 15132376222941642752=y2 at *
 generalize frI 1 (lH f)=y3 at *
 generalize CR.pw (CR.pw (iW f) 15132376222941642752) 15132376222941642752=y4 at *
 generalize CR.pw (iW f) 15132376222941642752=y5 at *
 generalize frI 2 (iW f)=y6 at *
 generalize Kf.T12.conj (iW f)=y7 at *
 generalize iW f=zB at *
 generalize lH f=zA at *
 generalize uT f=zH at *
 generalize frI 2 (qG f)=y8 at *
 generalize qG f=zG at *
 generalize Kf.T12.conj f=y9 at *
 generalize Kf.T12.inv f=yA at *
 repeat (first|(refine cL ?_;intro _)|refine uk ?_|refine Z81 fun _=>?_|refine Z82 fun _=>?_|refine Z85 fun _=>?_)
 rename_i p1 p2
 refine nu (fun a=>[(2,pt p2 0),(3,pt a 0)]) (fun a=>[.blk a (bM zG) 138,.blk p2 (LV .u64 (List.replicate 72 0)) 138]) (fun p3=>?_) (fun hK=>?_)
 case refine_2=>
  refine R.af [0,1,2,3,4,6,5,7] (by rfl) ?_
  repeat' (first|refine DC ?_|refine ag a1 ?_|refine ag a2 ?_|refine Dk (a3 _) ?_|refine nL ?_|(refine R.Zpd (by rfl) (by intro _ _ _;(refine av (m:=72) (k:=2) (kk:=.u64) (vss:=gq [y9,yA]) (by rfl) (by rfl) (by rfl) (by rfl) (by rfl) (by rfl) (by rfl) (c9 _) (by rfl) (by rfl) fun _=>?_);exact R.dO) fun _=>?_)|(refine R.zI (i:=4) (j:=6) [5,6,7] [4,5,7] (R.Mks.mk (R.Mk.mk' (by rfl) (by intro _ _ _;(refine av (m:=72) (k:=2) (kk:=.u64) (vss:=gq [y9,yA]) (by rfl) (by rfl) (by rfl) (by rfl) (by rfl) (by rfl) (by rfl) (c9 _) (by rfl) (by rfl) fun _=>?_);first|exact R.iH|exact R.dO|exact R.iI)) (fun _=>?_)) (R.Mks.mk (R.Mk.mk' (by rfl) (by intro _ _ _;refine aq (v:=LV .u64 (List.replicate 72 0)) (by rfl) (by rfl) fun _=>?_;first|exact R.iH|exact R.dO|exact R.iI)) (fun _=>?_)))|(refine um ?_;intro _)|(refine sA ?_;intro _))
  all_goals refine R.Zp0 ?_
  all_goals exact d9 sbq sw (hK _)
 clear a1 a2 a3
 case refine_1=>
  repeat (first|refine uk ?_|refine Z81 fun _=>?_|refine Z82 fun _=>?_|refine Z85 fun _=>?_)
  refine nu (fun a=>[(2,pt p2 0),(4,pt a 0)]) (fun a=>[.blk a (bM zH) 138,.blk p2 (LV .u64 (List.replicate 72 0)) 138]) (fun p4=>?_) (fun hK=>?_)
  case refine_2=>
   refine R.af [0,1,2,3,5,4,6] (by rfl) ?_
   repeat' (first|refine DC ?_|refine ag b1 ?_|refine Dk (b2 _) ?_|refine nL ?_|(refine R.Zpd (by rfl) (by intro _ _ _;(refine av (m:=72) (k:=2) (kk:=.u64) (vss:=gq [y8,zG]) (by rfl) (by rfl) (by rfl) (by rfl) (by rfl) (by rfl) (by rfl) (c9 _) (by rfl) (by rfl) fun _=>?_);exact R.dO) fun _=>?_)|(refine R.zI (i:=3) (j:=5) [4,5,6] [3,4,6] (R.Mks.mk (R.Mk.mk' (by rfl) (by intro _ _ _;(refine av (m:=72) (k:=2) (kk:=.u64) (vss:=gq [y8,zG]) (by rfl) (by rfl) (by rfl) (by rfl) (by rfl) (by rfl) (by rfl) (c9 _) (by rfl) (by rfl) fun _=>?_);first|exact R.iH|exact R.dO|exact R.iI)) (fun _=>?_)) (R.Mks.mk (R.Mk.mk' (by rfl) (by intro _ _ _;refine aq (v:=LV .u64 (List.replicate 72 0)) (by rfl) (by rfl) fun _=>?_;first|exact R.iH|exact R.dO|exact R.iI)) (fun _=>?_)))|(refine um ?_;intro _)|(refine sA ?_;intro _))
   all_goals refine R.Zp0 ?_
   all_goals exact d9 sbq sw (hK _)
  case refine_1=>
   clear b1 b2
   repeat (first|(refine cL ?_;intro _)|refine f9 ?_|refine cn (vs:=[10088250816726084267,4137836090706223446]) (kk:=.u64) (by rfl) (by rfl) (by rfl) (by rfl) (by rfl) (by rfl) (by rfl) (by rfl) fun _=>?_|refine KF (c1 _) ?_|refine PH ?_|refine Z81 fun _=>?_|refine Z82 fun _=>?_|refine Z85 fun _=>?_)
   rename_i p6
   refine nu (fun a=>[(2,pt p2 0),(4,pt p4 0),(5,.func (.func 145) #[] #[]),(7,pt a 0)]) (fun a=>[.blk a (bM zB) 138,.blk p4 (bM zH) 138,.blk p2 (LV .u64 (List.replicate 72 0)) 138]) (fun p7=>?_) (fun hK=>?_)
   case refine_2=>
    refine R.af [0,1,2,3,4,5,6,8,7,9] (by rfl) ?_
    repeat' (first|refine DC ?_|refine ag d1 ?_|refine ag d2 ?_|refine ag d3 ?_|refine Dk (d4 _) ?_|refine nL ?_|(refine R.Zpd (by rfl) (by intro _ _ _;(refine av (m:=72) (k:=2) (kk:=.u64) (vss:=gq [y1,y3]) (by rfl) (by rfl) (by rfl) (by rfl) (by rfl) (by rfl) (by rfl) (c9 _) (by rfl) (by rfl) fun _=>?_);exact R.dO) fun _=>?_)|(refine R.zI (i:=6) (j:=8) [7,8,9] [6,7,9] (R.Mks.mk (R.Mk.mk' (by rfl) (by intro _ _ _;(refine av (m:=72) (k:=2) (kk:=.u64) (vss:=gq [y1,y3]) (by rfl) (by rfl) (by rfl) (by rfl) (by rfl) (by rfl) (by rfl) (c9 _) (by rfl) (by rfl) fun _=>?_);first|exact R.iH|exact R.dO|exact R.iI)) (fun _=>?_)) (R.Mks.mk (R.Mk.mk' (by rfl) (by intro _ _ _;refine aq (v:=LV .u64 (List.replicate 72 0)) (by rfl) (by rfl) fun _=>?_;first|exact R.iH|exact R.dO|exact R.iI)) (fun _=>?_)))|(refine um ?_;intro _)|(refine sA ?_;intro _))
    all_goals refine R.Zp0 ?_
    all_goals exact d9 sbq sw (hK _)
   case refine_1=>
    clear d1 d2 d3 d4
    repeat (first|refine uk ?_|refine Z81 fun _=>?_|refine Z82 fun _=>?_|refine Z85 fun _=>?_)
    refine nu (fun a=>[(2,pt p2 0),(4,pt p4 0),(8,pt a 0)]) (fun a=>[.blk a (bM zC) 138,.blk p4 (bM zH) 138,.blk p2 (LV .u64 (List.replicate 72 0)) 138]) (fun p8=>?_) (fun hK=>?_)
    case refine_2=>
     refine R.af [0,1,2,3,4,5,6,7,8,9,11,10,12] (by rfl) ?_
     repeat' (first|refine DC ?_|refine ag g1 ?_|refine ag g2 ?_|refine ag g3 ?_|refine ag g4 ?_|refine Dk (g5 _) ?_|refine nL ?_|(refine R.Zpd (by rfl) (by intro _ _ _;(refine av (m:=72) (k:=3) (kk:=.u64) (vss:=gq [y4,y6,y7]) (by rfl) (by rfl) (by rfl) (by rfl) (by rfl) (by rfl) (by rfl) (c9 _) (by rfl) (by rfl) fun _=>?_);exact R.dO) fun _=>?_)|(refine R.zI (i:=9) (j:=11) [10,11,12] [9,10,12] (R.Mks.mk (R.Mk.mk' (by rfl) (by intro _ _ _;(refine av (m:=72) (k:=3) (kk:=.u64) (vss:=gq [y4,y6,y7]) (by rfl) (by rfl) (by rfl) (by rfl) (by rfl) (by rfl) (by rfl) (c9 _) (by rfl) (by rfl) fun _=>?_);first|exact R.iH|exact R.dO|exact R.iI)) (fun _=>?_)) (R.Mks.mk (R.Mk.mk' (by rfl) (by intro _ _ _;refine aq (v:=LV .u64 (List.replicate 72 0)) (by rfl) (by rfl) fun _=>?_;first|exact R.iH|exact R.dO|exact R.iI)) (fun _=>?_)))|(refine um ?_;intro _)|(refine sA ?_;intro _))
     all_goals refine R.Zp0 ?_
     all_goals exact d9 sbq sw (hK _)
    case refine_1=>
     repeat (first|refine av (m:=72) (k:=2) (kk:=.u64) (vss:=gq [zC,zH]) (by rfl) (by rfl) (by rfl) (by rfl) (by rfl) (by rfl) (by rfl) (c9 _) (by rfl) (by rfl) fun _=>?_|refine f9 ?_|refine ah (by rfl) (by rfl) (by rfl) (k1 _) (Sb fd rfl) (by rfl) ?_|refine PH ?_|refine Z81 fun _=>?_|refine Z82 fun _=>?_|refine Z85 fun _=>?_)
     refine Zec fun _ hw=>aa hw SubW.nil ⟨?_,rfl⟩
     rfl
end
section
attribute [local irreducible] Code.wp wpList Af bodyPost L.Go ab
open Num
attribute [local simp] ae
attribute [local irreducible] al cU cw gV dF em
theorem Ec(x y:Fq)(i:Bool):Spec Tryz.prog 107 [HE x y i] ai [] (IsV (.bool i)):=by
 refine ad Tryz.func107 rfl rfl rfl fun w _=>?_
 have hl0:=fun x=>ae 6 x
 repeat (first|refine fm ?_|refine ct ?_|refine Z02 ?_|refine Z03 ?_|refine Z04 ?_|refine Z05 ?_|refine Z06 ?_|refine Z07 ?_|refine Z08 ?_|refine Z09 ?_|refine Z10 ?_|refine Z11 ?_|refine Z12 ?_|refine Z13 ?_|refine Z14 ?_|refine Z24 ?_|refine Z26 ?_|refine Z27 ?_|refine Z67 ?_|refine Z81 fun _=>?_)
 refine Ze1 fun _ hw=>aa hw SubW.nil ⟨?_,rfl⟩
 rfl
theorem Ke{a b:Prop}(k:b)(h:Rm b→a:=by intro k;refine R.Zpp (by rfl) (by intro _ _ _;refine dI (m:=12) (by rfl) fd (by rfl) (by rfl) (by first|with_reducible assumption|simp) (by rfl) ?_;exact Zq) ?_;exact k.h):a:=h ⟨k⟩
set_option maxHeartbeats 8000000 in
theorem Ew{P:Kf.K2.Pt p}(h:Kf.K2.Onc c4 P)(hR:Kf.K2.Rl P)(hr:Kf.K2.tim P 52435875175126190479447740508185965837690552500527637822603658699938581184513=none):
  Spec Tryz.prog 106 [HV P,.func (.func 30) #[] #[],.func (.func 107) #[] #[]] ai [] (IsV (.bool true)):=by
 refine ad Tryz.func106 rfl rfl rfl fun w _=>?_
 have hl0:=fun x=>ae 6 x
 have hm:=fun s=>B0 h hR s rL OB (by decide)
 rw[U9,hr,jj]at hm
 obtain⟨x1,y1,i1,hq⟩:∃x1 y1 i1,HV P=HE x1 y1 i1:=⟨_,_,_,rfl⟩
 rw[hq]at hm ⊢
 have hi:=Ec 0 0 true
 repeat (first|(refine dX ?_;intro _)|(refine sN ?_;intro _)|refine OV ?_|refine Z81 fun _=>?_|refine Z82 fun _=>?_)
 refine R.af [0,1,2,3,4,5,6,7,8,9] (by rfl) ?_
 repeat (first|(refine R.Zpf (by rfl) (by intro _ _ _;(first|refine OW ?_);exact Zq) ?_)|refine ur ?_|refine Ke ?_|refine OX (hm _) ?_|refine aA ?_|refine J5 ?_|(refine R.Zpb (by rfl) (by intro _ _ _;refine aq (E:=58) (v:=GL (List.replicate 12 0) false) (by kernel_rfl) (by rfl) fun _=>?_;exact R.eO) fun _=>?_)|(refine aV ?_;intro _))
 refine R.Zp0 ?_
 repeat (first|refine jh ?_|refine y_4 hi ?_|refine PE ?_|refine Z81 fun _=>?_|refine Z82 fun _=>?_)
 refine Ze1 fun _ hw=>aa hw SubW.nil ⟨?_,rfl⟩
 rfl
theorem Rk{P:Kf.K2.Pt p}(h:Kf.K2.Onc c4 P)(hR:Kf.K2.Rl P)(hr:Kf.K2.tim P 52435875175126190479447740508185965837690552500527637822603658699938581184513=none):Spec Tryz.prog 54 [HV P] ai [] (IsV (.bool true)):=by
 refine ad Tryz.func54 rfl rfl rfl fun w _=>?_
 have hl0:=fun x=>ae 6 x
 have ho:=Ew h hR hr
 obtain⟨x1,y1,i1,hq⟩:∃x1 y1 i1,HV P=HE x1 y1 i1:=⟨_,_,_,rfl⟩
 rw[hq]at ho ⊢
 repeat (first|refine jh ?_|refine y_4 ho ?_|refine OY ?_|refine Z81 fun _=>?_)
 refine Ze1 fun _ hw=>aa hw SubW.nil ⟨?_,rfl⟩
 rfl
theorem oe:Spec Tryz.prog 139 [] ai [] (IsV (bM Kf.T12.one)):=by
 refine ad Tryz.func139 rfl rfl rfl fun w _=>?_
 have hl0:=fun x=>ae 6 x
 have hle:=fun x:F2=>ak x
 repeat (first|refine KA ?_|(refine cL ?_;intro _)|refine jS ?_|refine Z03 ?_|refine Z04 ?_|refine Z05 ?_|refine Z06 ?_|refine Z07 ?_|refine Z08 ?_|refine Z09 ?_|refine Z10 ?_|refine Z11 ?_|refine Z12 ?_|refine Z13 ?_|refine Z14 ?_|refine Z29 ?_|refine Z30 ?_|refine Z31 ?_|refine Z32 ?_|refine Z82 fun _=>?_)
 refine Zec fun _ hw=>aa hw SubW.nil ⟨?_,rfl⟩
 rfl
theorem Gw(v:Fq):D 6 v.val++List.replicate 6 0=E2 (em v):=by
 rw[z6];unfold em;rfl
theorem GB(l:F2)(u:Fq):Kf.K2.gp l u=Kf.K2.mul l (em u):=by
 unfold Kf.K2.gp Kf.K2.mul em
 exact Kf.K2.ext' (by grind) (by grind)
theorem Kg{a b:Prop}(k:b)(h:Rm b→a:=by intro k;refine yn (m:=12) (by rfl) (by rfl) (by kernel_rfl) (by rfl) (ak _) (ak _) (by rfl) ?_;rw[KS];exact k.h):a:=h ⟨k⟩
set_option maxHeartbeats 4000000 in
theorem tl(l x y:F2)(i:Bool)(u v:Fq)(j:Bool):Spec Tryz.prog 156 [LE2 l,GE x y i,HE u v j] ai [] (IsV (bM (Kf.T12.ln l x y (em u) (em v)))):=by
 refine ad Tryz.func156 rfl rfl rfl fun w _=>?_
 have hl0:=fun x=>ae 6 x
 have hle:=fun x:F2=>ak x
 have a1:=aF l x
 have a2:=bG (Kf.K2.mul l x) y
 have a3:=CK l u
 rw[GB]at a3
 have a4:=o0 (Kf.K2.mul l (em u))
 have a5:=IZ v
 have e:Kf.T12.ln l x y (em u) (em v)=⟨⟨Kf.K2.sub (Kf.K2.mul l x) y,Kf.K2.neg (Kf.K2.mul l (em u)),Kf.K2.zero⟩,⟨Kf.K2.zero,em v,Kf.K2.zero⟩⟩:=rfl
 rw[e]
 generalize Kf.K2.neg (Kf.K2.mul l (em u))=c1 at *
 generalize Kf.K2.mul l (em u)=c2 at *
 generalize Kf.K2.sub (Kf.K2.mul l x) y=c3 at *
 generalize Kf.K2.mul l x=c4 at *
 have e1:=Gw v
 generalize em v=ev at *
 repeat (first|(refine cL ?_;intro _)|refine bV ?_|refine Z81 fun _=>?_|refine Z82 fun _=>?_)
 refine R.af [0,1,2,3,4,5,6,7,8,9,10,11,12,13,14,15,16,17,18,19] (by rfl) ?_
 repeat (first|(refine R.Zpf (by rfl) (by intro _ _ _;(first|refine ct ?_|refine Kg ?_|(refine eo (m:=6) (by rfl) (by rfl) (by kernel_rfl) (by rfl) (ae 6 _) (by rfl) ?_;rw[e1])|(refine AZ (m:=12) (by rfl) (by rfl) (by kernel_rfl) (by rfl) (ak _) (by rfl) ?_;rw[KS])|refine O4 ?_|refine bK ?_|refine eP ?_|refine fJ ?_|(refine rS (by rfl) (by rfl) (by rfl) (by rfl) (by simp;done) (by rfl) ?_));exact Zq) ?_)|refine aL ?_|refine lA ?_|refine se ?_|refine sf ?_|refine ag a1 ?_|refine ag a2 ?_|refine ag a3 ?_|refine ag a4 ?_|refine ag a5 ?_|refine cz ?_|refine aA ?_|refine Dj ?_|(refine aV ?_;intro _))
 refine R.Zp0 ?_
 repeat (first|refine bV ?_|refine Z81 fun _=>?_|refine Z82 fun _=>?_)
 refine Zec fun _ hw=>aa hw SubW.nil ⟨?_,rfl⟩
 rfl
section
variable {P:Program} {c:Cx} {n:Nn} {l:Sl} {W:List Res}
theorem g8{fn:Func}{R:Ending→World→Prop}{t u:Tmp}{b b' m m':Nat}{T T' U U':TypeId}{k':IntKind}{ys ys':List Nat}{i:Bool}{R0 R1:List Res}
  (hres:fn.results = #[.cell t T,.cell u T']) (hv:lk l t=some (pt b 0)) (hu:lk l u=some (pt b' 0)) (hf:Find W (.blk b (GL ys i) U) R0) (hf':Find W (.blk b' (LV k' ys') U') R1) (hs:cM P T=true) (hz:az P T=some (m+1)) (hl:ys.length=m)
  (hs':cM P T'=true) (hz':az P T'=some m') (hl':ys'.length=m')
  (hR:∀w,SatW c W w→R (.returned (.tuple #[GL ys i,LV k' ys'])) w) (hD:n.df=[]:=by rfl):Go c n l W (bodyPost P fn R .ret):=by
 rw[dx]at hf
 exact tW hres hv hu hf hf' hs (by rw[hz];simp[hl]) hs' (by subst hl';simpa using hz') (by rw[dx]at hR;exact hR) hD
end
abbrev SV(T:Kf.K2.Pt p)(f:F12):Value:=.tuple [GV T,bM f].toArray
theorem Vp(x:F2)(u:Fq):Kf.T12.e6 (Kf.T12.vt x (em u))=⟨⟨x,em (gV u),Kf.K2.zero⟩,Kf.T6.zero⟩:=by
 unfold Kf.T12.e6 Kf.T12.vt
 rw[Gx]
theorem xj(x y:F2):Spec Tryz.prog 62 [GE x y false] ai [] (IsV (GE x y false)):=xg (some (x,y))
theorem VH{a b:Prop}(k:b)(h:Rm b→a:=by intro k;refine eo (m:=36) (by rfl) (by rfl) (by kernel_rfl) (by rfl) (eR _ _ _) (by rfl) ?_;rw[PZ];exact k.h):a:=h ⟨k⟩
theorem O6{a b:Prop}(k:b)(h:Rm b→a:=by intro k;refine R.DM (by rfl) (by intro _ _ _;(refine cO (by rfl) fd (by rfl) (by rfl) (by first | (refine ab.l ?_;(simp;done)) | (refine ab.r ?_ ?_ <;> (simp;done)) | (refine ab.all ?_;(simp;done))) (by rfl) ?_);exact Zq) ?_;exact k.h):a:=h ⟨k⟩
theorem KB{a b:Prop}(k:b)(h:Rm b→a:=by intro k;(first|refine fm ?_|refine pf ?_|refine ct ?_|refine OQ ?_);exact k.h):a:=h ⟨k⟩
theorem KC{a b:Prop}(k:b)(h:Rm b→a:=by intro k;(first|refine bK ?_|refine eQ ?_|refine eP ?_|refine fJ ?_|refine fI ?_|refine kC ?_|refine Z01 ?_|refine Z02 ?_|refine Z03 ?_|refine Z04 ?_|refine Z05 ?_|refine Z06 ?_|refine Z07 ?_|refine Z08 ?_|refine Z09 ?_|refine Z10 ?_|refine Z11 ?_|refine Z12 ?_|refine Z13 ?_|refine Z14 ?_|refine Z24 ?_|refine Z26 ?_|refine Z27 ?_|refine Z29 ?_|refine Z30 ?_|refine Z31 ?_|refine Z32 ?_|refine Z49 ?_|refine Z50 ?_|refine Z51 ?_|refine Z52 ?_|refine Z67 ?_|refine Z77 ?_|refine Z78 ?_|refine Z79 ?_);exact k.h):a:=h ⟨k⟩
theorem PI{a b:Prop}(k:b)(h:Rm b→a:=by intro k;(first|refine VH ?_|refine bK ?_|refine eP ?_|refine fJ ?_|refine fI ?_|refine kC ?_|refine Z01 ?_|refine Z02 ?_|refine Z49 ?_|refine Z50 ?_|refine Z77 ?_|refine Z78 ?_|refine Z79 ?_);exact k.h):a:=h ⟨k⟩
set_option maxHeartbeats 8000000 in
theorem Ax(x1 y1 y2:F2)(pu pv:Fq)(hv:¬(y1=y2∧y1≠Kf.K2.zero)):Spec Tryz.prog 141 [GE x1 y1 false,GE x1 y2 false,HE pu pv false] ai []
  (IsV (.tuple [GE Kf.K2.zero Kf.K2.zero true,bM ⟨⟨x1,em (gV pu),Kf.K2.zero⟩,Kf.T6.zero⟩].toArray)):=by
 refine ad Tryz.func141 rfl rfl rfl fun w _=>?_
 have hl0:=fun x=>ae 6 x
 have hle:=fun x:F2=>ak x
 have h1:=xj x1 y1
 have h2:=xj x1 y2
 have n1:=Cy pu
 have n2:=Gw (gV pu)
 generalize gV pu=pn at n1 n2 ⊢
 generalize em pn=pe at n2 ⊢
 by_cases hy1:y1=y2
 ·subst hy1
  have hy2:y1=Kf.K2.zero:=Classical.not_not.1 fun h=>hv ⟨rfl,h⟩
  have hz2:(decide (D 6 y1.re.val=D 6 (Kf.K2.zero:F2).re.val)&&decide (D 6 y1.im.val=D 6 (Kf.K2.zero:F2).im.val))=true:=by rw[hy2];exact fM _
  repeat (first|(refine co ?_;intro _)|(refine cL ?_;intro _)|refine bo ?_|refine Z81 fun _=>?_|refine Z82 fun _=>?_)
  refine R.af [0,1,2,3,4,5] (by rfl) ?_
  repeat (first|refine pj ?_|refine ag h1 ?_|refine ag h2 ?_|refine gb ?_|(refine aV ?_;intro _))
  refine R.Zp0 ?_
  repeat (first|refine KB ?_|refine dJ hz2 ?_|refine nO ?_|(refine bI ?_;intro _)|refine KC ?_|refine Z81 fun _=>?_|refine Z82 fun _=>?_)
  refine R.af [0,1,3,4,5,6,2,9,7,8,10] (by rfl) ?_
  repeat' (first|(refine R.Zpf (by rfl) (by intro _ _ _;(first|refine pc ?_|refine ct ?_|refine Kg ?_|(refine eo (m:=6) (by rfl) (by rfl) (by kernel_rfl) (by rfl) (ae 6 _) (by rfl) ?_;rw[n2])|refine PI ?_);exact Zq) ?_)|refine O6 ?_|(refine R.zF [7,8,9,10] [2,7,8,10] (by rfl) (by rfl) (by intro _ _ _;(refine cO (by rfl) fd (by rfl) (by rfl) (by first | (refine ab.l ?_;(simp;done)) | (refine ab.r ?_ ?_ <;> (simp;done)) | (refine ab.all ?_;(simp;done))) (by rfl) ?_);exact Zq) (by intro _ _ _;refine eK (m:=24) (by rfl) (by rfl) fd (by rfl) (by first|with_reducible assumption|simp) (by first|with_reducible assumption|simp) ?_;exact Zqq) ?_ ?_)|refine aL ?_|refine se ?_|refine sf ?_|refine ag n1 ?_|refine cz ?_|refine aA ?_|refine r8 ?_|refine Dj ?_|(refine aV ?_;intro _))
  all_goals refine R.Zp0 ?_
  all_goals
   repeat (first|refine bo ?_|refine Z81 fun _=>?_|refine Z82 fun _=>?_)
   refine g8 (m:=24) (m':=72) (by rfl) (by rfl) (by rfl) fd fd (by rfl) (by rfl) (by first|with_reducible assumption|simp) (by rfl) (by rfl) (by first | exact be _ | exact be ⟨⟨_,_,_⟩,_⟩) fun _ hw=>aa hw SubW.nil ⟨?_,rfl⟩
   rfl
 ·repeat (first|(refine co ?_;intro _)|(refine cL ?_;intro _)|refine bo ?_|refine Z81 fun _=>?_|refine Z82 fun _=>?_)
  refine R.af [0,1,2,3,4,5] (by rfl) ?_
  repeat (first|refine pj ?_|refine ag h1 ?_|refine ag h2 ?_|refine gb ?_|(refine aV ?_;intro _))
  refine R.Zp0 ?_
  repeat (first|refine KB ?_|refine Da (cN hy1) ?_|(refine bI ?_;intro _)|refine KC ?_|refine Z81 fun _=>?_|refine Z82 fun _=>?_)
  refine R.af [0,1,3,4,5,6,2,9,7,8,10] (by rfl) ?_
  repeat' (first|(refine R.Zpf (by rfl) (by intro _ _ _;(first|refine pc ?_|refine ct ?_|refine Kg ?_|(refine eo (m:=6) (by rfl) (by rfl) (by kernel_rfl) (by rfl) (ae 6 _) (by rfl) ?_;rw[n2])|refine PI ?_);exact Zq) ?_)|refine O6 ?_|(refine R.zF [7,8,9,10] [2,7,8,10] (by rfl) (by rfl) (by intro _ _ _;(refine cO (by rfl) fd (by rfl) (by rfl) (by first | (refine ab.l ?_;(simp;done)) | (refine ab.r ?_ ?_ <;> (simp;done)) | (refine ab.all ?_;(simp;done))) (by rfl) ?_);exact Zq) (by intro _ _ _;refine eK (m:=24) (by rfl) (by rfl) fd (by rfl) (by first|with_reducible assumption|simp) (by first|with_reducible assumption|simp) ?_;exact Zqq) ?_ ?_)|refine aL ?_|refine se ?_|refine sf ?_|refine ag n1 ?_|refine cz ?_|refine aA ?_|refine r8 ?_|refine Dj ?_|(refine aV ?_;intro _))
  all_goals refine R.Zp0 ?_
  all_goals
   repeat (first|refine bo ?_|refine Z81 fun _=>?_|refine Z82 fun _=>?_)
   refine g8 (m:=24) (m':=72) (by rfl) (by rfl) (by rfl) fd fd (by rfl) (by rfl) (by first|with_reducible assumption|simp) (by rfl) (by rfl) (by first | exact be _ | exact be ⟨⟨_,_,_⟩,_⟩) fun _ hw=>aa hw SubW.nil ⟨?_,rfl⟩
   rfl
theorem VV{a b:Prop}(k:b)(h:Rm b→a:=by intro k;(first|refine bK ?_|refine eP ?_|refine fJ ?_|refine fI ?_|refine kC ?_|refine Z01 ?_|refine Z02 ?_|refine Z49 ?_|refine Z50 ?_|refine Z77 ?_|refine Z78 ?_|refine Z79 ?_);exact k.h):a:=h ⟨k⟩
theorem VW{a b:Prop}(k:b)(h:Rm b→a:=by intro k;(first|refine yZ ?_|refine bK ?_|refine eP ?_|refine fJ ?_|refine fI ?_|refine kC ?_|refine Z01 ?_|refine Z02 ?_|refine Z49 ?_|refine Z50 ?_|refine Z77 ?_|refine Z78 ?_|refine Z79 ?_);exact k.h):a:=h ⟨k⟩
theorem KL{a b:Prop}(k:b)(h:Rm b→a:=by intro k;refine R.Zpf (by rfl) (by intro _ _ _;(first|refine VV ?_);exact Zq) ?_;exact k.h):a:=h ⟨k⟩
theorem PX{a b:Prop}(k:b)(h:Rm b→a:=by intro k;(first|(refine R.Zpf (by rfl) (by intro _ _ _;(first|refine VW ?_);exact Zq) ?_)|refine aL ?_|refine za ?_|refine Ke ?_|refine lA ?_);exact k.h):a:=h ⟨k⟩
theorem DH{a b:Prop}(k:b)(h:Rm b→a:=by intro k;(first|refine KL ?_|refine aL ?_|refine lA ?_|refine cz ?_);exact k.h):a:=h ⟨k⟩
set_option maxHeartbeats 8000000 in
theorem Er(x1 y1:F2)(pu pv:Fq)(hy2:y1≠Kf.K2.zero):Spec Tryz.prog 141 [GE x1 y1 false,GE x1 y1 false,HE pu pv false] ai []
  (IsV (.tuple [GE (Kf.K2.cx (Kf.K2.f6 x1 y1) x1 x1) (Kf.K2.cy (Kf.K2.f6 x1 y1) x1 y1 x1) false,bM (Kf.T12.ln (Kf.K2.f6 x1 y1) x1 y1 (em pu) (em pv))].toArray)):=by
 refine ad Tryz.func141 rfl rfl rfl fun w _=>?_
 have hl0:=fun x=>ae 6 x
 have hle:=fun x:F2=>ak x
 have h1:=xj x1 y1
 have m1:=aF x1 x1
 have m2:=cV (Kf.K2.mul x1 x1) (Kf.K2.mul x1 x1)
 have m3:=cV (Kf.K2.add (Kf.K2.mul x1 x1) (Kf.K2.mul x1 x1)) (Kf.K2.mul x1 x1)
 have m4:=cV y1 y1
 rw[Kf.K2.f6,Kf.K2.q3]
 generalize Kf.K2.add (Kf.K2.add (Kf.K2.mul x1 x1) (Kf.K2.mul x1 x1)) (Kf.K2.mul x1 x1)=u at m3 ⊢
 generalize Kf.K2.add (Kf.K2.mul x1 x1) (Kf.K2.mul x1 x1)=u1 at m2 m3
 generalize Kf.K2.mul x1 x1=u2 at m1 m2 m3
 generalize Kf.K2.add y1 y1=v at m4 ⊢
 repeat (first|(refine co ?_;intro _)|(refine cL ?_;intro _)|refine bo ?_|refine Z81 fun _=>?_|refine Z82 fun _=>?_)
 refine R.af [0,1,2,3,4,5] (by rfl) ?_
 repeat (first|refine pj ?_|refine ag h1 ?_|refine gb ?_|(refine aV ?_;intro _))
 refine R.Zp0 ?_
 repeat (first|refine KB ?_|refine dJ (cN hy2) ?_|refine nO ?_|(refine bI ?_;intro _)|refine bK ?_|refine eQ ?_|refine eP ?_|refine fJ ?_|refine fI ?_|refine kC ?_|refine y_4 m1 ?_|refine bo ?_|refine Z81 fun _=>?_|refine Z82 fun _=>?_)
 refine R.af [0,1,2,3,4,5,6,7,8,9,10,11] (by rfl) ?_
 repeat (first|refine DH ?_|refine ag m2 ?_|refine ag m3 ?_|refine ag m4 ?_|refine aA ?_|(refine aV ?_;intro _))
 refine R.Zp0 ?_
 repeat (first|refine bo ?_|refine Z81 fun _=>?_|refine Z82 fun _=>?_)
 obtain⟨l,hl⟩:∃l:F2,l=Kf.K2.mul u (Kf.K2.inv v):=⟨_,rfl⟩
 have k1:=kw v
 have k2:=aF u (Kf.K2.inv v)
 rw[← hl]at k2 ⊢
 generalize Kf.K2.inv v=vi at k1 k2
 clear hl
 have k3:=aF l l
 have k4:=bG (Kf.K2.mul l l) x1
 have k5:=bG (Kf.K2.sub (Kf.K2.mul l l) x1) x1
 have k6:=bG x1 (Kf.K2.cx l x1 x1)
 have k7:=aF l (Kf.K2.sub x1 (Kf.K2.cx l x1 x1))
 have k8:=bG (Kf.K2.mul l (Kf.K2.sub x1 (Kf.K2.cx l x1 x1))) y1
 have k9:=tl l x1 y1 false pu pv false
 rw[show Kf.K2.sub (Kf.K2.sub (Kf.K2.mul l l) x1) x1=Kf.K2.cx l x1 x1 from rfl]at k5
 rw[show Kf.K2.sub (Kf.K2.mul l (Kf.K2.sub x1 (Kf.K2.cx l x1 x1))) y1=Kf.K2.cy l x1 y1 x1 from rfl]at k8
 generalize Kf.T12.ln l x1 y1 (em pu) (em pv)=ff at k9 ⊢
 generalize Kf.K2.cy l x1 y1 x1=yy at k8 ⊢
 generalize Kf.K2.mul l (Kf.K2.sub x1 (Kf.K2.cx l x1 x1))=g1 at k7 k8
 generalize Kf.K2.sub x1 (Kf.K2.cx l x1 x1)=g2 at k6 k7
 generalize Kf.K2.cx l x1 x1=xx at k5 k6 ⊢
 generalize Kf.K2.sub (Kf.K2.mul l l) x1=g3 at k4 k5
 generalize Kf.K2.mul l l=g4 at k3 k4
 refine R.af [0,1,2,3,4,5] (by rfl) ?_
 repeat (first|refine KL ?_|refine aL ?_|refine cz ?_|refine ag k1 ?_|refine ag k2 ?_|refine aA ?_|(refine fK ?_;intro _)|(refine aV ?_;intro _))
 refine R.Zp0 ?_
 repeat (first|refine bo ?_|refine Z81 fun _=>?_|refine Z82 fun _=>?_)
 refine R.af [0,1,2,3,4,5,6,7,8,9,10] (by rfl) ?_
 repeat (first|refine DH ?_|refine ag k3 ?_|refine ag k4 ?_|refine ag k5 ?_|refine aA ?_|(refine fK ?_;intro _)|(refine aV ?_;intro _))
 refine R.Zp0 ?_
 repeat (first|refine bo ?_|refine Z81 fun _=>?_|refine Z82 fun _=>?_)
 refine R.af [0,1,2,3,4,5,6,7,8,9,10,11,12,13,14,15,16] (by rfl) ?_
 repeat (first|refine PX ?_|refine ag k6 ?_|refine ag k7 ?_|refine ag k8 ?_|refine ag k9 ?_|refine cz ?_|refine aA ?_|refine r8 ?_|refine Di ?_|(refine aV ?_;intro _))
 refine R.Zp0 ?_
 repeat (first|refine bo ?_|refine Z81 fun _=>?_|refine Z82 fun _=>?_)
 refine g8 (m:=24) (m':=72) (by rfl) (by rfl) (by rfl) fd fd (by rfl) (by rfl) (by first|with_reducible assumption|simp) (by rfl) (by rfl) (by first | exact be _ | exact be ⟨⟨_,_,_⟩,_⟩) fun _ hw=>aa hw SubW.nil ⟨?_,rfl⟩
 rfl
set_option maxHeartbeats 8000000 in
theorem Ep(x1 y1 x2 y2:F2)(pu pv:Fq)(hx:x1≠x2):Spec Tryz.prog 141 [GE x1 y1 false,GE x2 y2 false,HE pu pv false] ai []
  (IsV (.tuple [GE (Kf.K2.cx (Kf.K2.ec x1 y1 x2 y2) x1 x2) (Kf.K2.cy (Kf.K2.ec x1 y1 x2 y2) x1 y1 x2) false,bM (Kf.T12.ln (Kf.K2.ec x1 y1 x2 y2) x1 y1 (em pu) (em pv))].toArray)):=by
 refine ad Tryz.func141 rfl rfl rfl fun w _=>?_
 have hl0:=fun x=>ae 6 x
 have hle:=fun x:F2=>ak x
 have h1:=xj x1 y1
 have h2:=xj x2 y2
 have m1:=bG y2 y1
 have m2:=bG x2 x1
 rw[Kf.K2.ec]
 generalize Kf.K2.sub y2 y1=u at m1 ⊢
 generalize Kf.K2.sub x2 x1=v at m2 ⊢
 repeat (first|(refine co ?_;intro _)|(refine cL ?_;intro _)|refine bo ?_|refine Z81 fun _=>?_|refine Z82 fun _=>?_)
 refine R.af [0,1,2,3,4,5] (by rfl) ?_
 repeat (first|refine pj ?_|refine ag h1 ?_|refine ag h2 ?_|refine gb ?_|(refine aV ?_;intro _))
 refine R.Zp0 ?_
 repeat (first|refine fm ?_|refine pf ?_|refine ct ?_|refine Da (cN hx) ?_|(refine bI ?_;intro _)|refine KC ?_|refine Z81 fun _=>?_|refine Z82 fun _=>?_)
 refine R.af [0,1,2,3,4,5,6,7,8,9,10,11] (by rfl) ?_
 repeat (first|refine DH ?_|refine ag m1 ?_|refine ag m2 ?_|refine aA ?_|(refine aV ?_;intro _))
 refine R.Zp0 ?_
 repeat (first|refine bo ?_|refine Z81 fun _=>?_|refine Z82 fun _=>?_)
 obtain⟨l,hl⟩:∃l:F2,l=Kf.K2.mul u (Kf.K2.inv v):=⟨_,rfl⟩
 have k1:=kw v
 have k2:=aF u (Kf.K2.inv v)
 rw[← hl]at k2 ⊢
 generalize Kf.K2.inv v=vi at k1 k2
 clear hl
 have k3:=aF l l
 have k4:=bG (Kf.K2.mul l l) x1
 have k5:=bG (Kf.K2.sub (Kf.K2.mul l l) x1) x2
 have k6:=bG x1 (Kf.K2.cx l x1 x2)
 have k7:=aF l (Kf.K2.sub x1 (Kf.K2.cx l x1 x2))
 have k8:=bG (Kf.K2.mul l (Kf.K2.sub x1 (Kf.K2.cx l x1 x2))) y1
 have k9:=tl l x1 y1 false pu pv false
 rw[show Kf.K2.sub (Kf.K2.sub (Kf.K2.mul l l) x1) x2=Kf.K2.cx l x1 x2 from rfl]at k5
 rw[show Kf.K2.sub (Kf.K2.mul l (Kf.K2.sub x1 (Kf.K2.cx l x1 x2))) y1=Kf.K2.cy l x1 y1 x2 from rfl]at k8
 generalize Kf.T12.ln l x1 y1 (em pu) (em pv)=ff at k9 ⊢
 generalize Kf.K2.cy l x1 y1 x2=yy at k8 ⊢
 generalize Kf.K2.mul l (Kf.K2.sub x1 (Kf.K2.cx l x1 x2))=g1 at k7 k8
 generalize Kf.K2.sub x1 (Kf.K2.cx l x1 x2)=g2 at k6 k7
 generalize Kf.K2.cx l x1 x2=xx at k5 k6 ⊢
 generalize Kf.K2.sub (Kf.K2.mul l l) x1=g3 at k4 k5
 generalize Kf.K2.mul l l=g4 at k3 k4
 refine R.af [0,1,2,3,4,5] (by rfl) ?_
 repeat (first|refine KL ?_|refine aL ?_|refine cz ?_|refine ag k1 ?_|refine ag k2 ?_|refine aA ?_|(refine fK ?_;intro _)|(refine aV ?_;intro _))
 refine R.Zp0 ?_
 repeat (first|refine bo ?_|refine Z81 fun _=>?_|refine Z82 fun _=>?_)
 refine R.af [0,1,2,3,4,5,6,7,8,9,10] (by rfl) ?_
 repeat (first|refine DH ?_|refine ag k3 ?_|refine ag k4 ?_|refine ag k5 ?_|refine aA ?_|(refine fK ?_;intro _)|(refine aV ?_;intro _))
 refine R.Zp0 ?_
 repeat (first|refine bo ?_|refine Z81 fun _=>?_|refine Z82 fun _=>?_)
 refine R.af [0,1,2,3,4,5,6,7,8,9,10,11,12,13,14,15,16] (by rfl) ?_
 repeat (first|refine PX ?_|refine ag k6 ?_|refine ag k7 ?_|refine ag k8 ?_|refine ag k9 ?_|refine cz ?_|refine aA ?_|refine r8 ?_|refine Di ?_|(refine aV ?_;intro _))
 refine R.Zp0 ?_
 repeat (first|refine bo ?_|refine Z81 fun _=>?_|refine Z82 fun _=>?_)
 refine g8 (m:=24) (m':=72) (by rfl) (by rfl) (by rfl) fd fd (by rfl) (by rfl) (by first|with_reducible assumption|simp) (by rfl) (by rfl) (by first | exact be _ | exact be ⟨⟨_,_,_⟩,_⟩) fun _ hw=>aa hw SubW.nil ⟨?_,rfl⟩
 rfl
end
end Go.Proofs.YtndhfbecpghinaaGreat.L
namespace Go.Proofs.YtndhfbecpghinaaGreat.L.Kf
open Pr
namespace T12
variable {n:Nat} [NeZero n]
open K2 (Pt pa pn Onc No2 Slp LD cx cy f6 ec tim psi Rl)
attribute [local irreducible] K2.add K2.mul K2.sub K2.neg K2.zero K2.one K2.inv K2.xi K2.conj
structure Ps (b c g i:K2 n) (m:Nat):Prop extends Pg b c where
 hm:n=6*m+1
 hg:g=K2.pw K2.xi m
 gi:K2.mul g i=K2.one
 rc:K2.conj c=c
 h3:K2.pw (K2.mul (K2.conj (K2.pw K2.xi m)) (K2.pw K2.xi m)) 3=K2.neg (K2.one:K2 n)
theorem NX(z a0 a1 a2 a3 a4 a5:K2 n):mul (e2 z) ⟨⟨a0,a2,a4⟩,⟨a1,a3,a5⟩⟩=⟨⟨K2.mul z a0,K2.mul z a2,K2.mul z a4⟩,⟨K2.mul z a1,K2.mul z a3,K2.mul z a5⟩⟩:=by
 rw[iu,vo]
 simp only[K2.aG,K2.aj,K2.add_zero']
section
variable {b c g i:K2 n} {m:Nat} (H:Ps b c g i m) {N:Nat}
include H
theorem Ps.i_ne:i≠K2.zero:=fun e=>K2.jv H.tw.p3 (by rw[← H.gi,e,K2.aj])
theorem Ps.g_ne:g≠K2.zero:=fun e=>K2.jv H.tw.p3 (by rw[← H.gi,e,K2.aG])
theorem Ps.gi':K2.mul g i=CR.ofZ 1:=H.gi.trans K2.of1.symm
theorem Ps.psi_on{A:Pt n}(hA:Onc b A):Onc b (psi i A):=by
 cases A with
 | none=>trivial
 | some A=>
  obtain⟨x,y⟩:=A
  have h:=congrArg K2.conj (K2.bL hA)
  rw[K2.aY,K2.fV,K2.aY,K2.aY]at h
  have hx:K2.conj (K2.xi:K2 n)=K2.mul (K2.mul (K2.mul (K2.mul g g) (K2.mul g g)) (K2.mul g g)) K2.xi:=by
   rw[← K2.Uo H.tw.p3]
   have e:∀k,k=6*m+1→K2.pw (K2.xi:K2 n) k=K2.mul (K2.pw (K2.pw K2.xi m) 6) K2.xi:=by
    rintro k rfl
    rw[← K2.bN,Nat.mul_comm];rfl
   rw[e n H.hm,← H.hg]
   show K2.mul (K2.mul (K2.mul (K2.mul (K2.mul (K2.mul (K2.mul K2.one g) g) g) g) g) g) _=_
   rw[K2.aR]
   exact CR.aH (x:=(.m (.m (.m (.m (.m (.m (.v 0) (.v 0)) (.v 0)) (.v 0)) (.v 0)) (.v 0)) (.v 1))) (y:=(.m (.m (.m (.m (.v 0) (.v 0)) (.m (.v 0) (.v 0))) (.m (.v 0) (.v 0))) (.v 1))) (by decide +kernel) [g,K2.xi]
  have hb:K2.conj b=K2.mul (K2.mul (K2.mul (K2.mul g g) (K2.mul g g)) (K2.mul g g)) b:=by
   rw[H.hb,K2.aY,H.rc,hx,K2.mul_assoc']
  rw[hb]at h
  have e:=H.gi'
  show K2.mul (K2.mul _ (K2.conj y)) _=K2.add (K2.mul (K2.mul (K2.mul _ (K2.conj x)) _) _) b
  generalize K2.conj x=a at h ⊢
  generalize K2.conj y=d at h ⊢
  exact CR.lin (x:=(.m (.m (.m (.m (.v 4) (.v 4)) (.v 4)) (.v 1)) (.m (.m (.m (.v 4) (.v 4)) (.v 4)) (.v 1)))) (y:=(.a (.m (.m (.m (.m (.v 4) (.v 4)) (.v 0)) (.m (.m (.v 4) (.v 4)) (.v 0))) (.m (.m (.v 4) (.v 4)) (.v 0))) (.v 2))) [((.m (.m (.m (.v 4) (.v 4)) (.v 4)) (.m (.m (.v 4) (.v 4)) (.v 4))),(.m (.v 1) (.v 1)),(.a (.m (.m (.v 0) (.v 0)) (.v 0)) (.m (.m (.m (.m (.v 3) (.v 3)) (.m (.v 3) (.v 3))) (.m (.v 3) (.v 3))) (.v 2)))),((.a (.m (.a (.m (.a (.m (.a (.m (.a (.m (.m (.m (.m (.m (.m (.m (.c 1) (.v 2)) (.v 3)) (.v 3)) (.v 3)) (.v 3)) (.v 3)) (.v 4)) (.m (.m (.m (.m (.m (.c 1) (.v 2)) (.v 3)) (.v 3)) (.v 3)) (.v 3))) (.v 4)) (.m (.m (.m (.m (.c 1) (.v 2)) (.v 3)) (.v 3)) (.v 3))) (.v 4)) (.m (.m (.m (.c 1) (.v 2)) (.v 3)) (.v 3))) (.v 4)) (.m (.m (.c 1) (.v 2)) (.v 3))) (.v 4)) (.m (.c 1) (.v 2))),(.m (.v 3) (.v 4)),(.c 1))] (by decide +kernel) [a,d,b,g,i] ⟨h,e,trivial⟩
theorem Rt{l x y u v:K2 n}(hu:K2.conj u=u)(hv:K2.conj v=v):CR.pw (ln l x y u v) n=mul (e2 (K2.pw g 3)) (ln (K2.mul i (K2.conj l)) (K2.mul (K2.mul i i) (K2.conj x)) (K2.mul (K2.mul (K2.mul i i) i) (K2.conj y)) u v):=by
 rw[rC H.tw H.hm,← H.hg]
 unfold ln frb
 rw[NX,K2.ci,K2.qm,K2.aY,K2.aY,K2.iU,hu,hv]
 have e:=H.gi'
 have w2:K2.pw g 2=K2.mul g g:=by show K2.mul (K2.mul K2.one g) g=_;rw[K2.aR]
 have w3:K2.pw g 3=K2.mul (K2.mul g g) g:=by show K2.mul (K2.pw g 2) g=_;rw[w2]
 generalize K2.conj x=a
 generalize K2.conj y=d
 generalize K2.conj l=k
 rw[w2,w3]
 refine ext' (T6.ext' ?_ ?_ ?_) (T6.ext' ?_ ?_ ?_)
 ·exact CR.lin (x:=(.s (.m (.v 2) (.v 0)) (.v 1))) (y:=(.m (.m (.m (.v 3) (.v 3)) (.v 3)) (.s (.m (.m (.v 4) (.v 2)) (.m (.m (.v 4) (.v 4)) (.v 0))) (.m (.m (.m (.v 4) (.v 4)) (.v 4)) (.v 1))))) [((.a (.m (.a (.m (.m (.m (.a (.m (.m (.c (-1)) (.v 0)) (.v 2)) (.m (.c 1) (.v 1))) (.v 3)) (.v 3)) (.v 4)) (.m (.a (.m (.m (.c (-1)) (.v 0)) (.v 2)) (.m (.c 1) (.v 1))) (.v 3))) (.v 4)) (.a (.m (.m (.c (-1)) (.v 0)) (.v 2)) (.m (.c 1) (.v 1)))),(.m (.v 3) (.v 4)),(.c 1))] (by decide +kernel) [a,d,k,g,i] ⟨e,trivial⟩
 ·exact CR.lin (x:=(.m (.n (.m (.v 0) (.v 1))) (.m (.v 2) (.v 2)))) (y:=(.m (.m (.m (.v 2) (.v 2)) (.v 2)) (.n (.m (.m (.v 3) (.v 0)) (.v 1))))) [((.m (.m (.m (.m (.c 1) (.v 0)) (.v 1)) (.v 2)) (.v 2)),(.m (.v 2) (.v 3)),(.c 1))] (by decide +kernel) [k,u,g,i] ⟨e,trivial⟩
 ·simp only[K2.aG,K2.aj]
 ·simp only[K2.aG,K2.aj]
 ·exact K2.mul_comm' _ _
 ·simp only[K2.aG,K2.aj]
theorem Q9{l x y u v:K2 n}(hu:K2.conj u=u)(hv:K2.conj v=v):CR.pw (gg l u v x y) n=mul (e2 (K2.pw g 3)) (gg (K2.conj l) u v (K2.mul (K2.mul i i) (K2.conj x)) (K2.mul (K2.mul (K2.mul i i) i) (K2.conj y))):=by
 rw[rC H.tw H.hm,← H.hg]
 unfold gg frb
 rw[NX,K2.ci,K2.qm,K2.aY,K2.aY,K2.iU,hu,hv]
 have e:=H.gi'
 have w2:K2.pw g 2=K2.mul g g:=by show K2.mul (K2.mul K2.one g) g=_;rw[K2.aR]
 have w3:K2.pw g 3=K2.mul (K2.mul g g) g:=by show K2.mul (K2.pw g 2) g=_;rw[w2]
 generalize K2.conj x=a
 generalize K2.conj y=d
 generalize K2.conj l=k
 rw[w2,w3]
 refine ext' (T6.ext' ?_ ?_ ?_) (T6.ext' ?_ ?_ ?_)
 ·exact CR.lin (x:=(.v 0)) (y:=(.m (.m (.m (.v 1) (.v 1)) (.v 1)) (.m (.m (.m (.v 2) (.v 2)) (.v 2)) (.v 0)))) [((.a (.m (.a (.m (.m (.m (.m (.c (-1)) (.v 0)) (.v 1)) (.v 1)) (.v 2)) (.m (.m (.c (-1)) (.v 0)) (.v 1))) (.v 2)) (.m (.c (-1)) (.v 0))),(.m (.v 1) (.v 2)),(.c 1))] (by decide +kernel) [d,g,i] ⟨e,trivial⟩
 ·simp only[K2.aG,K2.aj]
 ·simp only[K2.aG,K2.aj]
 ·exact CR.lin (x:=(.m (.n (.m (.v 1) (.v 0))) (.v 2))) (y:=(.m (.m (.m (.v 2) (.v 2)) (.v 2)) (.n (.m (.v 1) (.m (.m (.v 3) (.v 3)) (.v 0)))))) [((.a (.m (.m (.m (.m (.m (.c 1) (.v 0)) (.v 1)) (.v 2)) (.v 2)) (.v 3)) (.m (.m (.m (.c 1) (.v 0)) (.v 1)) (.v 2))),(.m (.v 2) (.v 3)),(.c 1))] (by decide +kernel) [a,k,g,i] ⟨e,trivial⟩
 ·exact K2.mul_comm' _ _
 ·simp only[K2.aG,K2.aj]
omit H in
theorem T9{z:K2 n}(h:z≠K2.zero):e2 z≠zero:=fun e=>h (congrArg (fun t:T12 n=>t.a.a) e)
omit H in
theorem ek(k:Nat):CR.pw (one:T12 n) k=one:=CR.rq k
theorem Ps.sc{z w:T12 n}(hw:w≠zero)(h:CR.pw z n=mul (e2 (K2.pw g 3)) w)(hz:z≠zero):fin N w=CR.pw (fin N z) n:=by
 have h3:e2 (K2.pw g 3)≠zero:=T9 (by
  show K2.mul (K2.mul (K2.mul K2.one g) g) g≠K2.zero
  rw[K2.aR]
  exact K2.bQ H.tw.p3 (K2.bQ H.tw.p3 H.g_ne H.g_ne) H.g_ne)
 rw[← QV H.tw hz,h,dq H.tw h3 hw,show e2 (K2.pw g 3)=e6 (T6.em (K2.pw g 3))from rfl,nX H.tw h3,bj]
theorem LS{P A B:Pt n}(hP:Onc c P)(hR:Rl P)(hA:Onc b A)(hB:Onc b B):lam N P (psi i A) (psi i B)=CR.pw (lam N P A B) n:=by
 have G:=H.toPg
 cases P with
 | none=>rw[ee G,ee G,ek]
 | some P=>cases A with
  | none=>show lam N (some P) none _=_;rw[dm G,dm G,ek]
  | some A=>cases B with
   | none=>show lam N (some P) _ none=_;rw[dC G,dC G,ek]
   | some B=>
    obtain⟨u,v⟩:=P;obtain⟨x1,y1⟩:=A;obtain⟨x2,y2⟩:=B
    have hA':=H.psi_on hA
    show lam N _ (some (_,_)) (some (_,_))=_
    rcases K2.cq (x1:=x1) (y1:=y1) (x2:=x2) (y2:=y2) H.tw.p3 hA hB with⟨h1,h2⟩ | ⟨l,h,hn⟩
    ·rw[cB G hA h1 h2,cB G hA' (by rw[h1]) (by rw[← K2.mul_add',← K2.fV,h2,K2.iU,K2.aj]),ek]
    ·rw[lam,lam,dp H.tw.p3 h hn,dp H.tw.p3 (h.psi i) (K2.IQ H.tw.p3 H.i_ne hn)]
     exact H.sc (ke (K2.gD H.n4 hP)) (Rt H hR.1 hR.2) (ke (K2.gD H.n4 hP))
theorem RD{P Q A:Pt n}(hP:Onc c P)(hQ:Onc c Q)(h1:Rl P)(h2:Rl Q)(hA:Onc b A):mu N P Q (psi i A)=CR.pw (mu N P Q A) n:=by
 have G:=H.toPg
 cases P with
 | none=>rw[rg G,rg G,ek]
 | some P=>cases Q with
  | none=>rw[rh G,rh G,ek]
  | some Q=>
   obtain⟨x1,y1⟩:=P;obtain⟨x2,y2⟩:=Q
   rcases K2.cq (x1:=x1) (y1:=y1) (x2:=x2) (y2:=y2) H.tw.p3 hP hQ with⟨g1,g2⟩ | ⟨l,h,hn⟩
   ·rw[lN G hA g1 g2,lN G (H.psi_on hA) g1 g2,ek]
   ·cases A with
    | none=>show mu N _ _ none=_;rw[tr G,ek]
    | some A=>
     obtain⟨x,y⟩:=A
     have hA':=H.psi_on hA
     have k:=h.conj
     have a1:K2.conj x1=x1:=h1.1
     have a2:K2.conj y1=y1:=h1.2
     have a3:K2.conj x2=x2:=h2.1
     have a4:K2.conj y2=y2:=h2.2
     rw[a1,a2,a3,a4]at k
     show mu N _ _ (some (_,_))=_
     rw[mu,mu,j6 H.tw.p3 k hn,j6 H.tw.p3 h hn]
     exact H.sc (qO (K2.gD H.n2 hA')) (Q9 H a1 a2) (qO (K2.gD H.n2 hA))
end
end T12
end Go.Proofs.YtndhfbecpghinaaGreat.L.Kf
namespace Go.Proofs.YtndhfbecpghinaaGreat.L.Kf
open Pr
namespace T12
variable {n:Nat} [NeZero n]
open K2 (Pt pa pn Onc No2 Slp LD cx cy f6 ec tim psi Rl)
attribute [local irreducible] K2.add K2.mul K2.sub K2.neg K2.zero K2.one K2.inv K2.xi K2.conj
def mst(P Q:Pt n)(s:T12 n×Pt n)(t:Bool):T12 n×Pt n:=
 bif t then(mul (mul (mul s.1 s.1) (lin P s.2 s.2)) (lin P (pa s.2 s.2) Q),pa (pa s.2 s.2) Q)else(mul (mul s.1 s.1) (lin P s.2 s.2),pa s.2 s.2)
def mil(P Q:Pt n)(l:List Bool):T12 n×Pt n:=l.foldl (mst P Q) (one,Q)
def kst(k:Nat)(t:Bool):Nat:=bif t then k+k+1 else k+k
def kbs(l:List Bool):Nat:=l.foldl kst 1
def er(N:Nat)(l:List Bool)(P Q:Pt n):T12 n:=fin N (conj (mil P Q l).1)
section
variable {b c g i:K2 n} {m:Nat} (H:Ps b c g i m) {N r:Nat} (hr:n*n*(n*n)*(n*n)+1∣N*r)
include H
theorem Nr{Q:Pt n}(hQ:Onc b Q)(k:Nat)(t:Bool):tim Q (kst k t)=bif t then pa (pa (tim Q k) (tim Q k)) Q else pa (tim Q k) (tim Q k):=by
 have e:=K2.fj H.tw.p3 H.n2 hQ k k
 cases t with
 | false=>exact e
 | true=>show pa (tim Q (k+k)) Q=_;rw[e];rfl
theorem lP{Q:Pt n}(hQ:Onc b Q)(k:Nat):Onc b (tim Q k):=K2.cW H.tw.p3 hQ k
theorem lM{P Q:Pt n}(hP:Onc c P)(hQ:Onc b Q){k:Nat}{s:T12 n×Pt n}(h:s.1≠zero∧s.2=tim Q k)(t:Bool):
  ((mst P Q s t).1≠zero∧(mst P Q s t).2=tim Q (kst k t))∧fin N (mst P Q s t).1=bif t then mul (mul (mul (fin N s.1) (fin N s.1)) (lam N P (tim Q k) (tim Q k))) (lam N P (tim Q (k+k)) Q)else mul (mul (fin N s.1) (fin N s.1)) (lam N P (tim Q k) (tim Q k)):=by
 obtain⟨h1,h2⟩:=h
 have hT:=lP H hQ k
 have e:=K2.fj H.tw.p3 H.n2 hQ k k
 have n1:=bQ H.tw h1 h1
 have n2:=ka H.toPg hP hT hT
 have n3:=bQ H.tw n1 n2
 rw[Nr H hQ,e]
 unfold mst
 rw[h2]
 cases t with
 | false=>
  refine⟨⟨n3,rfl⟩,?_⟩
  show fin N (mul (mul s.1 s.1) _)=_
  rw[dq H.tw n1 n2,dq H.tw h1 h1];rfl
 | true=>
  have n4:=ka H.toPg hP (H.toPg.oa hT hT) hQ
  refine⟨⟨bQ H.tw n3 n4,rfl⟩,?_⟩
  show fin N (mul (mul (mul s.1 s.1) _) _)=_
  rw[dq H.tw n3 n4,dq H.tw n1 n2,dq H.tw h1 h1];rfl
theorem HQ{P A B C D:Pt n}(hP:Onc c P)(hA:Onc b A)(hB:Onc b B)(hC:Onc b C)(hD:Onc b D):
  mul (mul (lam N P A C) (lam N P B D)) (lam N P (pa A C) (pa B D))=mul (mul (lam N P A B) (lam N P C D)) (lam N P (pa A B) (pa C D)):=by
 have G:=H.toPg
 have hBD:=G.oa hB hD
 have hCD:=G.oa hC hD
 have q1:=va G (N:=N) hP hA hC hBD
 have q2:=va G (N:=N) hP hB hD hC
 have q3:=va G (N:=N) hP hA hB hCD
 have e1:pa (pa B D) C=pa B (pa C D):=by rw[K2.dW G.tw.p3 G.n2 hB hD hC,K2.dr G.tw.p3 hD hC]
 rw[K2.dr G.tw.p3 hC hBD,e1,iZ G hC hBD]at q1
 rw[K2.dr G.tw.p3 hD hC,iZ G hD hC]at q2
 exact CR.lin (x:=(.m (.m (.v 0) (.v 1)) (.v 2))) (y:=(.m (.m (.v 3) (.v 4)) (.v 5))) [((.v 1),(.m (.v 0) (.v 2)),(.m (.v 6) (.v 7))),((.v 7),(.m (.v 1) (.v 6)),(.m (.v 4) (.v 8))),((.n (.v 4)),(.m (.v 3) (.v 5)),(.m (.v 8) (.v 7)))] (by decide +kernel) [lam N P A C,lam N P B D,lam N P (pa A C) (pa B D),lam N P A B,lam N P C D,lam N P (pa A B) (pa C D),lam N P (pa B D) C,lam N P A (pa B (pa C D)),lam N P B (pa C D)] ⟨q1,q2,q3,trivial⟩
theorem xF{P Q R:Pt n}(hP:Onc c P)(hQ:Onc b Q)(hR:Onc b R):∀(l:List Bool)(k:Nat)(s t u:T12 n×Pt n),(s.1≠zero∧s.2=tim Q k)→(t.1≠zero∧t.2=tim R k)→(u.1≠zero∧u.2=tim (pa Q R) k) →
  mul (mul (fin N s.1) (fin N t.1)) (lam N P (tim Q k) (tim R k))=mul (fin N u.1) (CR.pw (lam N P Q R) k) →
  mul (mul (fin N (l.foldl (mst P Q) s).1) (fin N (l.foldl (mst P R) t).1)) (lam N P (tim Q (l.foldl kst k)) (tim R (l.foldl kst k)))=mul (fin N (l.foldl (mst P (pa Q R)) u).1) (CR.pw (lam N P Q R) (l.foldl kst k))
 | [],_,_,_,_,_,_,_,h=>h
 | x::l,k,s,t,u,hs,ht,hu,h=>by
  have hQR:=H.toPg.oa hQ hR
  obtain⟨a1,b1⟩:=lM H (N:=N) hP hQ hs x
  obtain⟨a2,b2⟩:=lM H (N:=N) hP hR ht x
  obtain⟨a3,b3⟩:=lM H (N:=N) hP hQR hu x
  refine xF hP hQ hR l (kst k x) _ _ _ a1 a2 a3 ?_
  have hTQ:=lP H hQ k
  have hTR:=lP H hR k
  have x1:=HQ H (N:=N) hP hTQ hTR hTQ hTR
  have e3:=K2.wk H.tw.p3 H.n2 hQ hR k
  rw[← e3]at x1
  rw[b1,b2,b3]
  have d1:=K2.fj H.tw.p3 H.n2 hQ k k
  have d2:=K2.fj H.tw.p3 H.n2 hR k k
  rw[← d1,← d2]at x1
  have p1:=CR.dP (lam N P Q R) k k
  have y1:mul (mul (mul (mul (fin N s.1) (fin N s.1)) (lam N P (tim Q k) (tim Q k))) (mul (mul (fin N t.1) (fin N t.1)) (lam N P (tim R k) (tim R k)))) (lam N P (tim Q (k+k)) (tim R (k+k)))=mul (mul (mul (fin N u.1) (fin N u.1)) (lam N P (tim (pa Q R) k) (tim (pa Q R) k))) (CR.pw (lam N P Q R) (k+k)):=by
   rw[p1]
   generalize fin N s.1=E1 at *
   generalize fin N t.1=E2 at *
   generalize fin N u.1=E3 at *
   generalize CR.pw (lam N P Q R) k=z at *
   exact CR.lin (x:=(.m (.m (.m (.m (.v 0) (.v 0)) (.v 3)) (.m (.m (.v 1) (.v 1)) (.v 4))) (.v 5))) (y:=(.m (.m (.m (.v 2) (.v 2)) (.v 7)) (.m (.v 8) (.v 8)))) [((.m (.m (.v 0) (.v 0)) (.m (.v 1) (.v 1))),(.m (.m (.v 3) (.v 4)) (.v 5)),(.m (.m (.v 6) (.v 6)) (.v 7))),((.m (.v 7) (.a (.m (.m (.v 0) (.v 1)) (.v 6)) (.m (.v 2) (.v 8)))),(.m (.m (.v 0) (.v 1)) (.v 6)),(.m (.v 2) (.v 8)))] (by decide +kernel) [E1,E2,E3,lam N P (tim Q k) (tim Q k),lam N P (tim R k) (tim R k),lam N P (tim Q (k+k)) (tim R (k+k)),lam N P (tim Q k) (tim R k),lam N P (tim (pa Q R) k) (tim (pa Q R) k),z] ⟨x1,h,trivial⟩
  cases x with
  | false=>exact y1
  | true=>
   have x2:=HQ H (N:=N) hP (lP H hQ (k+k)) (lP H hR (k+k)) hQ hR
   rw[← K2.wk H.tw.p3 H.n2 hQ hR (k+k)]at x2
   show mul (mul (mul _ _) (mul _ _)) (lam N P (pa (tim Q (k+k)) Q) (pa (tim R (k+k)) R))=mul (mul _ _) (mul (CR.pw (lam N P Q R) (k+k)) (lam N P Q R))
   generalize mul (mul (fin N s.1) (fin N s.1)) (lam N P (tim Q k) (tim Q k))=E1 at *
   generalize mul (mul (fin N t.1) (fin N t.1)) (lam N P (tim R k) (tim R k))=E2 at *
   generalize mul (mul (fin N u.1) (fin N u.1)) (lam N P (tim (pa Q R) k) (tim (pa Q R) k))=E3 at *
   generalize CR.pw (lam N P Q R) (k+k)=z at *
   exact CR.lin (x:=(.m (.m (.m (.v 0) (.v 3)) (.m (.v 1) (.v 4))) (.v 5))) (y:=(.m (.m (.v 2) (.v 7)) (.m (.v 8) (.v 9)))) [((.m (.v 0) (.v 1)),(.m (.m (.v 3) (.v 4)) (.v 5)),(.m (.m (.v 6) (.v 9)) (.v 7))),((.m (.v 9) (.v 7)),(.m (.m (.v 0) (.v 1)) (.v 6)),(.m (.v 2) (.v 8)))] (by decide +kernel) [E1,E2,E3,lam N P (tim Q (k+k)) Q,lam N P (tim R (k+k)) R,lam N P (pa (tim Q (k+k)) Q) (pa (tim R (k+k)) R),lam N P (tim Q (k+k)) (tim R (k+k)),lam N P (tim (pa Q R) (k+k)) (pa Q R),z,lam N P Q R] ⟨x2,y1,trivial⟩
theorem xE{P R Q:Pt n}(hP:Onc c P)(hR:Onc c R)(hQ:Onc b Q):∀(l:List Bool)(k:Nat)(s t u:T12 n×Pt n),(s.1≠zero∧s.2=tim Q k)→(t.1≠zero∧t.2=tim Q k)→(u.1≠zero∧u.2=tim Q k) →
  mul (mul (fin N s.1) (fin N t.1)) (mu N P R (tim Q k))=mul (fin N u.1) (CR.pw (mu N P R Q) k) →
  mul (mul (fin N (l.foldl (mst P Q) s).1) (fin N (l.foldl (mst R Q) t).1)) (mu N P R (tim Q (l.foldl kst k)))=mul (fin N (l.foldl (mst (pa P R) Q) u).1) (CR.pw (mu N P R Q) (l.foldl kst k))
 | [],_,_,_,_,_,_,_,h=>h
 | x::l,k,s,t,u,hs,ht,hu,h=>by
  have hPR:=K2.di H.tw.p3 hP hR
  obtain⟨a1,b1⟩:=lM H (N:=N) hP hQ hs x
  obtain⟨a2,b2⟩:=lM H (N:=N) hR hQ ht x
  obtain⟨a3,b3⟩:=lM H (N:=N) hPR hQ hu x
  refine xE hP hR hQ l (kst k x) _ _ _ a1 a2 a3 ?_
  have hT:=lP H hQ k
  have x1:=B8 H.toPg (N:=N) hP hR hT hT
  rw[b1,b2,b3]
  rw[← K2.fj H.tw.p3 H.n2 hQ k k]at x1
  have p1:=CR.dP (mu N P R Q) k k
  have y1:mul (mul (mul (mul (fin N s.1) (fin N s.1)) (lam N P (tim Q k) (tim Q k))) (mul (mul (fin N t.1) (fin N t.1)) (lam N R (tim Q k) (tim Q k)))) (mu N P R (tim Q (k+k)))=mul (mul (mul (fin N u.1) (fin N u.1)) (lam N (pa P R) (tim Q k) (tim Q k))) (CR.pw (mu N P R Q) (k+k)):=by
   rw[p1]
   generalize fin N s.1=E1 at *
   generalize fin N t.1=E2 at *
   generalize fin N u.1=E3 at *
   generalize CR.pw (mu N P R Q) k=z at *
   exact CR.lin (x:=(.m (.m (.m (.m (.v 0) (.v 0)) (.v 3)) (.m (.m (.v 1) (.v 1)) (.v 4))) (.v 5))) (y:=(.m (.m (.m (.v 2) (.v 2)) (.v 7)) (.m (.v 8) (.v 8)))) [((.m (.m (.v 0) (.v 0)) (.m (.v 1) (.v 1))),(.m (.m (.v 3) (.v 4)) (.v 5)),(.m (.v 7) (.m (.v 6) (.v 6)))),((.m (.v 7) (.a (.m (.m (.v 0) (.v 1)) (.v 6)) (.m (.v 2) (.v 8)))),(.m (.m (.v 0) (.v 1)) (.v 6)),(.m (.v 2) (.v 8)))] (by decide +kernel) [E1,E2,E3,lam N P (tim Q k) (tim Q k),lam N R (tim Q k) (tim Q k),mu N P R (tim Q (k+k)),mu N P R (tim Q k),lam N (pa P R) (tim Q k) (tim Q k),z] ⟨x1,h,trivial⟩
  cases x with
  | false=>exact y1
  | true=>
   have x2:=B8 H.toPg (N:=N) hP hR (lP H hQ (k+k)) hQ
   show mul (mul (mul _ _) (mul _ _)) (mu N P R (pa (tim Q (k+k)) Q))=mul (mul _ _) (mul (CR.pw (mu N P R Q) (k+k)) (mu N P R Q))
   generalize mul (mul (fin N s.1) (fin N s.1)) (lam N P (tim Q k) (tim Q k))=E1 at *
   generalize mul (mul (fin N t.1) (fin N t.1)) (lam N R (tim Q k) (tim Q k))=E2 at *
   generalize mul (mul (fin N u.1) (fin N u.1)) (lam N (pa P R) (tim Q k) (tim Q k))=E3 at *
   generalize CR.pw (mu N P R Q) (k+k)=z at *
   exact CR.lin (x:=(.m (.m (.m (.v 0) (.v 3)) (.m (.v 1) (.v 4))) (.v 5))) (y:=(.m (.m (.v 2) (.v 7)) (.m (.v 8) (.v 9)))) [((.m (.v 0) (.v 1)),(.m (.m (.v 3) (.v 4)) (.v 5)),(.m (.v 7) (.m (.v 6) (.v 9)))),((.m (.v 9) (.v 7)),(.m (.m (.v 0) (.v 1)) (.v 6)),(.m (.v 2) (.v 8)))] (by decide +kernel) [E1,E2,E3,lam N P (tim Q (k+k)) Q,lam N R (tim Q (k+k)) Q,mu N P R (pa (tim Q (k+k)) Q),mu N P R (tim Q (k+k)),lam N (pa P R) (tim Q (k+k)) Q,z,mu N P R Q] ⟨x2,y1,trivial⟩
end
end T12
end Go.Proofs.YtndhfbecpghinaaGreat.L.Kf
namespace Go.Proofs.YtndhfbecpghinaaGreat.L.Kf
open Pr
namespace T12
variable {n:Nat} [NeZero n]
open K2 (Pt pa pn Onc No2 tim psi Rl)
attribute [local irreducible] K2.add K2.mul K2.sub K2.neg K2.zero K2.one K2.inv K2.xi K2.conj
section
variable {b c g i:K2 n} {m:Nat} (H:Ps b c g i m) {N r:Nat} (hr:n*n*(n*n)*(n*n)+1∣N*r) {l:List Bool} (hk:r∣kbs l+n)
def Eg(b i:K2 n)(l:List Bool)(Q:Pt n):Prop:=Onc b Q∧tim Q (kbs l)=pn (psi i Q)
def Rp(c:K2 n)(P:Pt n):Prop:=Onc c P∧Rl P
include H
theorem vk{P Q:Pt n}(hP:Onc c P)(hQ:Onc b Q)(l:List Bool):(mil P Q l).1≠zero∧(mil P Q l).2=tim Q (kbs l):=by
 have:∀(l:List Bool)(k:Nat)(s:T12 n×Pt n),(s.1≠zero∧s.2=tim Q k)→((l.foldl (mst P Q) s).1≠zero∧(l.foldl (mst P Q) s).2=tim Q (l.foldl kst k)):=by
  intro l
  induction l with
  | nil=>exact fun _ _ h=>h
  | cons x l ih=>exact fun k s h=>ih _ _ (lM H (N:=0) hP hQ h x).1
 exact this l 1 (one,Q) ⟨cH H.tw,rfl⟩
theorem nT{P Q:Pt n}(hP:Onc c P)(hQ:Onc b Q):mul (fin N (mil P Q l).1) (er N l P Q)=one:=by
 rw[mul_comm']
 exact j4 H.tw (vk H hP hQ l).1
theorem WE{P Q:Pt n}(hr:n*n*(n*n)*(n*n)+1∣N*r)(hP:Onc c P)(hQ:Onc b Q):CR.pw (er N l P Q) r=one:=
 GY H.tw H.hm H.h3 hr (jm H.tw (vk H hP hQ l).1)
omit H in
theorem U1(hk:r∣kbs l+n){z:T12 n}(h:CR.pw z r=one):mul (CR.pw z (kbs l)) (CR.pw z n)=one:=by
 have e:=CR.dP z (kbs l) n
 obtain⟨q,hq⟩:=hk
 rw[hq,CR.bN,h,ek]at e
 exact e.symm
include hr hk
theorem BI{P Q R:Pt n}(hP:Rp c P)(hQ:Eg b i l Q)(hR:Eg b i l R):er N l P (pa Q R)=mul (er N l P Q) (er N l P R):=by
 have G:=H.toPg
 have ho:=G.oa hQ.1 hR.1
 have h1:=eX (N:=N) G.tw
 have q:=xF H (N:=N) hP.1 hQ.1 hR.1 l 1 (one,Q) (one,R) (one,pa Q R) ⟨cH G.tw,rfl⟩ ⟨cH G.tw,rfl⟩ ⟨cH G.tw,rfl⟩ (by
  rw[h1,am,bj,bj];exact(CR.AM _).symm)
 change mul (mul (fin N (mil P Q l).1) (fin N (mil P R l).1)) (lam N P (tim Q (kbs l)) (tim R (kbs l)))=mul (fin N (mil P (pa Q R) l).1) (CR.pw (lam N P Q R) (kbs l))at q
 have z:=U1 hk (GY H.tw H.hm H.h3 hr (ka G hP.1 hQ.1 hR.1))
 have nn:=B7 G (N:=N) hP.1 (H.psi_on hQ.1) (H.psi_on hR.1)
 rw[LS H hP.1 hP.2 hQ.1 hR.1,← hQ.2,← hR.2]at nn
 have e1:=nT H (N:=N) (l:=l) hP.1 hQ.1
 have e2:=nT H (N:=N) (l:=l) hP.1 hR.1
 have e3:=nT H (N:=N) (l:=l) hP.1 ho
 refine qW e3 ?_
 have o:∀x:T12 n,x=one→x=CR.ofZ 1:=fun _ h=>h.trans CR.dN.symm
 refine Eq.trans ?_ (CR.dN (R:=T12 n))
 change mul (CR.pw (lam N P Q R) (kbs l)) (CR.pw (lam N P Q R) n)=_ at z
 exact CR.lin (x:=(.m (.v 2) (.m (.v 3) (.v 4)))) (y:=(.c 1)) [((.n (.m (.m (.v 7) (.v 3)) (.v 4))),(.m (.m (.v 0) (.v 1)) (.v 5)),(.m (.v 2) (.v 6))),((.n (.m (.m (.v 2) (.v 3)) (.v 4))),(.m (.v 6) (.v 7)),(.c 1)),((.m (.m (.m (.v 0) (.v 1)) (.v 3)) (.v 4)),(.m (.v 5) (.v 7)),(.c 1)),((.m (.v 1) (.v 4)),(.m (.v 0) (.v 3)),(.c 1)),((.c 1),(.m (.v 1) (.v 4)),(.c 1))] (by decide +kernel) [fin N (mil P Q l).1,fin N (mil P R l).1,fin N (mil P (pa Q R) l).1,er N l P Q,er N l P R,lam N P (tim Q (kbs l)) (tim R (kbs l)),CR.pw (lam N P Q R) (kbs l),CR.pw (lam N P Q R) n] ⟨q,o _ z,o _ nn,o _ e1,o _ e2,trivial⟩
theorem BH{P R Q:Pt n}(hP:Rp c P)(hR:Rp c R)(hQ:Eg b i l Q):er N l (pa P R) Q=mul (er N l P Q) (er N l R Q):=by
 have G:=H.toPg
 have ho:=K2.di G.tw.p3 hP.1 hR.1
 have h1:=eX (N:=N) G.tw
 have q:=xE H (N:=N) hP.1 hR.1 hQ.1 l 1 (one,Q) (one,Q) (one,Q) ⟨cH G.tw,rfl⟩ ⟨cH G.tw,rfl⟩ ⟨cH G.tw,rfl⟩ (by
  rw[h1,am,bj,bj];exact(CR.AM _).symm)
 change mul (mul (fin N (mil P Q l).1) (fin N (mil R Q l).1)) (mu N P R (tim Q (kbs l)))=mul (fin N (mil (pa P R) Q l).1) (CR.pw (mu N P R Q) (kbs l))at q
 have gn:gin P R Q≠zero:=by
  cases P with
  | none=>exact cH G.tw
  | some P=>cases R with
   | none=>rw[Hq];exact cH G.tw
   | some R=>cases Q with
    | none=>exact cH G.tw
    | some Q=>
     obtain⟨x1,y1⟩:=P;obtain⟨x2,y2⟩:=R;obtain⟨x,y⟩:=Q
     rcases K2.cq (x1:=x1) (y1:=y1) (x2:=x2) (y2:=y2) G.tw.p3 hP.1 hR.1 with⟨g1,g2⟩ | ⟨l,h,hn⟩
     ·rw[BT G.tw.p3 g1 g2];exact yU (G.x_ne hQ.1)
     ·rw[j6 G.tw.p3 h hn];exact qO (K2.gD G.n2 hQ.1)
 have z:=U1 hk (GY H.tw H.hm H.h3 hr gn)
 have nn:=H9 G (N:=N) hP.1 hR.1 (H.psi_on hQ.1)
 rw[RD H hP.1 hR.1 hP.2 hR.2 hQ.1,← hQ.2]at nn
 have e1:=nT H (N:=N) (l:=l) hP.1 hQ.1
 have e2:=nT H (N:=N) (l:=l) hR.1 hQ.1
 have e3:=nT H (N:=N) (l:=l) ho hQ.1
 refine qW e3 ?_
 have o:∀x:T12 n,x=one→x=CR.ofZ 1:=fun _ h=>h.trans CR.dN.symm
 refine Eq.trans ?_ (CR.dN (R:=T12 n))
 change mul (CR.pw (mu N P R Q) (kbs l)) (CR.pw (mu N P R Q) n)=_ at z
 exact CR.lin (x:=(.m (.v 2) (.m (.v 3) (.v 4)))) (y:=(.c 1)) [((.n (.m (.m (.v 7) (.v 3)) (.v 4))),(.m (.m (.v 0) (.v 1)) (.v 5)),(.m (.v 2) (.v 6))),((.n (.m (.m (.v 2) (.v 3)) (.v 4))),(.m (.v 6) (.v 7)),(.c 1)),((.m (.m (.m (.v 0) (.v 1)) (.v 3)) (.v 4)),(.m (.v 5) (.v 7)),(.c 1)),((.m (.v 1) (.v 4)),(.m (.v 0) (.v 3)),(.c 1)),((.c 1),(.m (.v 1) (.v 4)),(.c 1))] (by decide +kernel) [fin N (mil P Q l).1,fin N (mil R Q l).1,fin N (mil (pa P R) Q l).1,er N l P Q,er N l R Q,mu N P R (tim Q (kbs l)),CR.pw (mu N P R Q) (kbs l),CR.pw (mu N P R Q) n] ⟨q,o _ z,o _ nn,o _ e1,o _ e2,trivial⟩
omit hr hk
omit H in
theorem KX:Eg b i l none:=⟨trivial,K2.f7 _⟩
theorem Tv{Q R:Pt n}(hQ:Eg b i l Q)(hR:Eg b i l R):Eg b i l (pa Q R):=by
 refine⟨H.toPg.oa hQ.1 hR.1,?_⟩
 rw[K2.wk H.tw.p3 H.n2 hQ.1 hR.1,hQ.2,hR.2,K2.Cj H.tw.p3 (H.psi_on hQ.1) (H.psi_on hR.1),K2.RR H.tw.p3 H.i_ne hQ.1 hR.1]
theorem zD{Q:Pt n}(hQ:Eg b i l Q):∀k,Eg b i l (tim Q k)
 | 0=>KX
 | k+1=>Tv H (zD hQ k) hQ
theorem TE{P R:Pt n}(hP:Rp c P)(hR:Rp c R):Rp c (pa P R):=⟨K2.di H.tw.p3 hP.1 hR.1,K2.TD H.tw.p3 hP.1 hR.1 hP.2 hR.2⟩
theorem uy{P:Pt n}(hP:Rp c P):∀k,Rp c (tim P k)
 | 0=>⟨trivial,trivial⟩
 | k+1=>TE H (uy hP k) hP
theorem Oa(P:Pt n):er N l P none=one:=by
 have:∀(l:List Bool)(s:T12 n×Pt n),s=(one,none)→l.foldl (mst P none) s=(one,none):=by
  intro l
  induction l with
  | nil=>exact fun _ h=>h
  | cons x l ih=>
   rintro _ rfl
   refine ih _ ?_
   unfold mst
   cases x with
   | false=>show(mul (mul one one) (lin P none none),(none:Pt n))=_;rw[gG,am,am]
   | true=>show(mul (mul (mul one one) (lin P none none)) (lin P none none),(none:Pt n))=_;rw[gG,am,am,am]
 rw[er,mil,this l _ rfl,fW]
 exact eX H.tw
theorem N9(Q:Pt n):er N l none Q=one:=by
 have:∀(l:List Bool)(s:T12 n×Pt n),s.1=one→(l.foldl (mst none Q) s).1=one:=by
  intro l
  induction l with
  | nil=>exact fun _ h=>h
  | cons x l ih=>
   rintro s h
   refine ih _ ?_
   unfold mst
   rw[h]
   cases x with
   | false=>show mul (mul one one) one=one;rw[am,am]
   | true=>show mul (mul (mul one one) one) one=one;rw[am,am,am]
 rw[er,mil,this l _ rfl,fW]
 exact eX H.tw
include hr hk
theorem BK{P Q:Pt n}(hP:Rp c P)(hQ:Eg b i l Q):∀k,er N l P (tim Q k)=CR.pw (er N l P Q) k
 | 0=>Oa H P
 | k+1=>by
  show er N l P (pa (tim Q k) Q)=_
  rw[BI H hr hk hP (zD H hQ k) hQ,BK hP hQ k];rfl
theorem BJ{P Q:Pt n}(hP:Rp c P)(hQ:Eg b i l Q):∀k,er N l (tim P k) Q=CR.pw (er N l P Q) k
 | 0=>N9 H Q
 | k+1=>by
  show er N l (pa (tim P k) P) Q=_
  rw[BH H hr hk (uy H hP k) hP hQ,BJ hP hQ k];rfl
theorem QN{P Q:Pt n}(hP:Rp c P)(hQ:Eg b i l Q):mul (er N l (pn P) Q) (er N l P Q)=one:=by
 rw[← BH H hr hk ⟨K2.cF hP.1,K2.FS hP.2⟩ hP hQ,K2.m7 H.tw.p3,N9 H]
omit H hr hk
theorem IU{z:T12 n}(hp:aU r)(h:CR.pw z r=one)(hz:z≠one){k:Nat}(hk:CR.pw z k=one):r∣k:=by
 apply Classical.byContradiction
 intro hd
 obtain⟨t,ht⟩:=AG.u4 hp hd
 apply hz
 have e:k*t=r*(k*t/r)+1:=by have:=Nat.div_add_mod (k*t) r;omega
 have e2:=CR.bN z k t
 rw[hk,ek,e,CR.li,CR.bN,h,ek]at e2
 exact(bj z).symm.trans e2
end
end T12
end Go.Proofs.YtndhfbecpghinaaGreat.L.Kf
namespace Go.Proofs.YtndhfbecpghinaaGreat.L
open Go Go.Proofs
set_option maxRecDepth 100000
section
attribute [local irreducible] Code.wp wpList Af bodyPost L.Go ab
open Num
attribute [local simp] ae
attribute [local irreducible] al cU cw gV dF em
theorem KD{a b:Prop}(k:b)(h:Rm b→a:=by intro k;(first|refine fm ?_|refine ct ?_|refine bK ?_|refine eQ ?_|refine eP ?_|refine fJ ?_|refine fI ?_|refine kC ?_|refine du ?_);exact k.h):a:=h ⟨k⟩
theorem KE{a b:Prop}(k:b)(h:Rm b→a:=by intro k;(first|refine dt ?_|refine jS ?_|refine Z01 ?_|refine Z02 ?_|refine Z03 ?_|refine Z04 ?_|refine Z05 ?_|refine Z06 ?_|refine Z07 ?_|refine Z08 ?_|refine Z09 ?_|refine Z10 ?_|refine Z11 ?_|refine Z12 ?_|refine Z13 ?_|refine Z14 ?_|refine Z24 ?_|refine Z26 ?_|refine Z27 ?_|refine Z29 ?_|refine Z30 ?_|refine Z31 ?_|refine Z32 ?_|refine Z49 ?_|refine Z50 ?_|refine Z51 ?_|refine Z52 ?_|refine Z67 ?_|refine Z77 ?_|refine Z78 ?_|refine Z79 ?_);exact k.h):a:=h ⟨k⟩
set_option maxHeartbeats 8000000 in
theorem Aw{P:Kf.K2.Pt p}(hR:Kf.K2.Rl P)(T Q:Kf.K2.Pt p):Spec Tryz.prog 141 [GV T,GV Q,HV P] ai [] (IsV (SV (Kf.K2.pa T Q) (Kf.T12.lin P T Q))):=by
 have h1:=xg T
 have h2:=xg Q
 have h3:=Hl T Q
 have h4:=oe
 obtain⟨x1,y1,i1,ex1,ey1,ei1⟩:∃x y i,x=gx T∧y=gy T∧i=gi T:=⟨_,_,_,rfl,rfl,rfl⟩
 obtain⟨x2,y2,i2,ex2,ey2,ei2⟩:∃x y i,x=gx Q∧y=gy Q∧i=gi Q:=⟨_,_,_,rfl,rfl,rfl⟩
 obtain⟨x3,y3,i3,ex3,ey3,ei3⟩:∃x y i,x=gx (Kf.K2.pa T Q)∧y=gy (Kf.K2.pa T Q)∧i=gi (Kf.K2.pa T Q):=⟨_,_,_,rfl,rfl,rfl⟩
 have g1:GV T=GE x1 y1 i1:=by rw[ex1,ey1,ei1]
 have g2:GV Q=GE x2 y2 i2:=by rw[ex2,ey2,ei2]
 have g3:GV (Kf.K2.pa T Q)=GE x3 y3 i3:=by rw[ex3,ey3,ei3]
 obtain⟨pu,pv,pi,eu,ev,ei⟩:∃u v i,u=(gx P).re∧v=(gy P).re∧i=gi P:=⟨_,_,_,rfl,rfl,rfl⟩
 have hP:HV P=HE pu pv pi:=by rw[eu,ev,ei]
 rw[g1]at h1 h3
 rw[g2]at h2 h3
 rw[g3]at h3
 rw[SV,g1,g2,hP]
 by_cases hinf:P=none∨T=none∨Q=none
 ·have hlin:Kf.T12.lin P T Q=Kf.T12.one:=by
   rcases hinf with rfl | rfl | rfl
   ·rfl
   ·exact Kf.T12.gG _ _
   ·exact Kf.T12.tk _ _
  rw[hlin,g3]
  generalize (Kf.T12.one:F12)=f1 at h4 ⊢
  refine ad Tryz.func141 rfl rfl rfl fun w _=>?_
  have hl0:=fun x=>ae 6 x
  have hle:=fun x:F2=>ak x
  have hflag:pi=true∨i1=true∨i2=true:=by
   rcases hinf with rfl | rfl | rfl
   ·left
    exact ei
   ·exact .inr (.inl ei1)
   ·exact .inr (.inr ei2)
  clear ex1 ey1 ei1 ex2 ey2 ei2 ex3 ey3 ei3 g1 g2 g3 hinf hlin hP eu ev ei
  cases pi with
  | true=>
   repeat (first|(refine co ?_;intro _)|(refine cL ?_;intro _)|refine bo ?_|refine Z81 fun _=>?_|refine Z82 fun _=>?_)
   refine R.af [0,1,2,3,4,5] (by rfl) ?_
   repeat (first|refine pj ?_|refine ag h1 ?_|refine ag h2 ?_|refine gb ?_|(refine aV ?_;intro _))
   refine R.Zp0 ?_
   repeat (first|(refine bI ?_;intro _)|refine KD ?_|refine y_4 h3 ?_|refine y_4 h4 ?_|refine KE ?_|refine Z81 fun _=>?_|refine Z82 fun _=>?_)
   refine g8 (m:=24) (m':=72) (by rfl) (by rfl) (by rfl) fd fd (by rfl) (by rfl) (by first|with_reducible assumption|simp) (by rfl) (by rfl) (by first | exact be _ | exact be ⟨⟨_,_,_⟩,_⟩) fun _ hw=>aa hw SubW.nil ⟨?_,rfl⟩
   rfl
  | false=>cases i1 with
   | true=>
    repeat (first|(refine co ?_;intro _)|(refine cL ?_;intro _)|refine bo ?_|refine Z81 fun _=>?_|refine Z82 fun _=>?_)
    refine R.af [0,1,2,3,4,5] (by rfl) ?_
    repeat (first|refine pj ?_|refine ag h1 ?_|refine ag h2 ?_|refine gb ?_|(refine aV ?_;intro _))
    refine R.Zp0 ?_
    repeat (first|(refine bI ?_;intro _)|refine KD ?_|refine y_4 h3 ?_|refine y_4 h4 ?_|refine KE ?_|refine Z81 fun _=>?_|refine Z82 fun _=>?_)
    refine g8 (m:=24) (m':=72) (by rfl) (by rfl) (by rfl) fd fd (by rfl) (by rfl) (by first|with_reducible assumption|simp) (by rfl) (by rfl) (by first | exact be _ | exact be ⟨⟨_,_,_⟩,_⟩) fun _ hw=>aa hw SubW.nil ⟨?_,rfl⟩
    rfl
   | false=>
    have hi2:i2=true:=by simpa using hflag
    subst hi2
    repeat (first|(refine co ?_;intro _)|(refine cL ?_;intro _)|refine bo ?_|refine Z81 fun _=>?_|refine Z82 fun _=>?_)
    refine R.af [0,1,2,3,4,5] (by rfl) ?_
    repeat (first|refine pj ?_|refine ag h1 ?_|refine ag h2 ?_|refine gb ?_|(refine aV ?_;intro _))
    refine R.Zp0 ?_
    repeat (first|(refine bI ?_;intro _)|refine KD ?_|refine y_4 h3 ?_|refine y_4 h4 ?_|refine KE ?_|refine Z81 fun _=>?_|refine Z82 fun _=>?_)
    refine g8 (m:=24) (m':=72) (by rfl) (by rfl) (by rfl) fd fd (by rfl) (by rfl) (by first|with_reducible assumption|simp) (by rfl) (by rfl) (by first | exact be _ | exact be ⟨⟨_,_,_⟩,_⟩) fun _ hw=>aa hw SubW.nil ⟨?_,rfl⟩
    rfl
 ·rcases iQ hR with rfl | ⟨qu,qv,rfl⟩
  ·exact absurd (.inl rfl) hinf
  cases T with
  | none=>exact absurd (.inr (.inl rfl)) hinf
  | some q1=>cases Q with
   | none=>exact absurd (.inr (.inr rfl)) hinf
   | some q2=>
    obtain⟨a1,b1⟩:=q1
    obtain⟨a2,b2⟩:=q2
    cases (show pu=qu from eu.trans (N2 qu))
    cases (show pv=qv from ev.trans (N2 qv))
    cases (show pi=false from ei)
    cases (show x1=a1 from ex1)
    cases (show y1=b1 from ey1)
    cases (show i1=false from ei1)
    cases (show x2=a2 from ex2)
    cases (show y2=b2 from ey2)
    cases (show i2=false from ei2)
    by_cases hx:x1=x2
    ·subst hx
     by_cases hy:y1=y2∧y1≠Kf.K2.zero
     ·obtain⟨rfl,hy2⟩:=hy
      have hpa:Kf.K2.pa (some (x1,y1)) (some (x1,y1))=some (Kf.K2.cx (Kf.K2.f6 x1 y1) x1 x1,Kf.K2.cy (Kf.K2.f6 x1 y1) x1 y1 x1):=by
       show(if x1=x1 then if y1=y1∧y1≠Kf.K2.zero then _ else _ else _)=_
       rw[if_pos rfl,if_pos ⟨rfl,hy2⟩]
      have hli:Kf.T12.lin (some (em pu,em pv)) (some (x1,y1)) (some (x1,y1))=Kf.T12.ln (Kf.K2.f6 x1 y1) x1 y1 (em pu) (em pv):=by
       show(if x1=x1 then if y1=y1∧y1≠Kf.K2.zero then _ else _ else _)=_
       rw[if_pos rfl,if_pos ⟨rfl,hy2⟩]
      rw[hpa,hli]
      exact Er x1 y1 pu pv hy2
     ·have hpa:Kf.K2.pa (some (x1,y1)) (some (x1,y2))=none:=by
       show(if x1=x1 then if y1=y2∧y1≠Kf.K2.zero then _ else _ else _)=_
       rw[if_pos rfl,if_neg hy]
      have hli:Kf.T12.lin (some (em pu,em pv)) (some (x1,y1)) (some (x1,y2))=⟨⟨x1,em (gV pu),Kf.K2.zero⟩,Kf.T6.zero⟩:=by
       rw[← Vp]
       show(if x1=x1 then if y1=y2∧y1≠Kf.K2.zero then _ else _ else _)=_
       rw[if_pos rfl,if_neg hy]
      rw[hpa,hli]
      exact Ax x1 y1 y2 pu pv hy
    ·have hpa:Kf.K2.pa (some (x1,y1)) (some (x2,y2))=some (Kf.K2.cx (Kf.K2.ec x1 y1 x2 y2) x1 x2,Kf.K2.cy (Kf.K2.ec x1 y1 x2 y2) x1 y1 x2):=by
      show(if x1=x2 then _ else _)=_
      rw[if_neg hx]
     have hli:Kf.T12.lin (some (em pu,em pv)) (some (x1,y1)) (some (x2,y2))=Kf.T12.ln (Kf.K2.ec x1 y1 x2 y2) x1 y1 (em pu) (em pv):=by
      show(if x1=x2 then _ else _)=_
      rw[if_neg hx]
     rw[hpa,hli]
     exact Ep x1 y1 x2 y2 pu pv hx
def xN:Nat:=15132376222941642752
def xB:List Bool:=(List.range 63).reverse.map fun i=>Nat.testBit xN i
def xBk(i:Nat):List Bool:=((List.range 63).reverse.take i).map fun i=>Nat.testBit xN i
theorem S2:xBk 63=xB:=rfl
theorem Vs{i:Nat}(h:i<63):xBk (i+1)=xBk i++[Nat.testBit xN (62-i)]:=by
 unfold xBk
 rw[List.take_add_one,List.map_append]
 congr 1
 have:(List.range 63).reverse[i]?=some (62-i):=by
  rw[List.getElem?_reverse (by simpa using h),List.getElem?_range (by simp;omega)]
  simp
 rw[this];rfl
theorem UH{P Q:Kf.K2.Pt p}{i:Nat}(h:i<63):Kf.T12.mil P Q (xBk (i+1))=Kf.T12.mst P Q (Kf.T12.mil P Q (xBk i)) (Nat.testBit xN (62-i)):=by
 rw[Vs h]
 unfold Kf.T12.mil
 rw[List.foldl_append];rfl
set_option maxHeartbeats 8000000 in
theorem tp{P:Kf.K2.Pt p}(hR:Kf.K2.Rl P)(Q T:Kf.K2.Pt p)(f:F12)(bt bp bf:Nat):
  Spec Tryz.prog 140 [GV Q,pt bt 0,pt bp 0,pt bf 0] ai [.blk bt (GV T) 36,.blk bp (HV P) 58,.blk bf (bM f) 138]
   (fun v Wr=>v = .tuple #[]∧Wr=[.blk bt (GV (Kf.K2.pa T Q)) 36,.blk bp (HV P) 58,.blk bf (bM (Kf.T12.mul f (Kf.T12.lin P T Q))) 138]):=by
 refine ad Tryz.func140 rfl rfl rfl fun w hr=>?_
 have hl0:=fun x=>ae 6 x
 have hle:=fun x:F2=>ak x
 have h1:=Aw hR T Q
 have h2:=jf f (Kf.T12.lin P T Q)
 obtain⟨x1,y1,i1,q1⟩:∃x1 y1 i1,GV T=GE x1 y1 i1:=⟨_,_,_,rfl⟩
 obtain⟨x2,y2,i2,q2⟩:∃x1 y1 i1,GV Q=GE x1 y1 i1:=⟨_,_,_,rfl⟩
 obtain⟨x3,y3,i3,q3⟩:∃x1 y1 i1,GV (Kf.K2.pa T Q)=GE x1 y1 i1:=⟨_,_,_,rfl⟩
 obtain⟨u,v,j,q4⟩:∃x1 y1 i1,HV P=HE x1 y1 i1:=⟨_,_,_,rfl⟩
 rw[SV,q1,q2,q3,q4]at h1
 rw[q1,q2,q3,q4]
 generalize Kf.T12.mul f (Kf.T12.lin P T Q)=g at *
 generalize Kf.T12.lin P T Q=lf at *
 repeat (first|refine du ?_|refine jh ?_|(refine co ?_;intro _)|(refine cL ?_;intro _)|refine y_4 h1 ?_|refine dt ?_|refine jS ?_|refine Z01 ?_|refine Z03 ?_|refine Z04 ?_|refine Z05 ?_|refine Z06 ?_|refine Z07 ?_|refine Z08 ?_|refine Z09 ?_|refine Z10 ?_|refine Z11 ?_|refine Z12 ?_|refine Z13 ?_|refine Z14 ?_|refine Z19 ?_|refine Z24 ?_|refine Z26 ?_|refine Z27 ?_|refine Z29 ?_|refine Z30 ?_|refine Z31 ?_|refine Z32 ?_|refine Z67 ?_|refine Z81 fun _=>?_|refine Z82 fun _=>?_)
 refine R.af [0,1,2,3,4,5] (by rfl) ?_
 repeat' (first|(refine R.Zpf (by rfl) (by intro _ _ _;(first|refine Z01 ?_|refine Z19 ?_);exact Zq) ?_)|(refine R.DM (by rfl) (by intro _ _ _;refine dI (m:=24) (by rfl) fd (by rfl) (by rfl) (by first|with_reducible assumption|simp) (by rfl) ?_;exact Zq) ?_)|(refine R.zF [4,5] [3,5] (by rfl) (by rfl) (by intro _ _ _;refine dI (m:=24) (by rfl) fd (by rfl) (by rfl) (by first|with_reducible assumption|simp) (by rfl) ?_;exact Zq) (by intro _ _ _;(refine aX (m:=72) (by rfl) (by rfl) fd (by rfl) (be _) (be _) ?_);exact Zqq) ?_ ?_)|refine aL ?_|refine O5 ?_|refine ag h2 ?_|refine aA ?_|refine r8 ?_|(refine R.Zps (by rfl) (by intro _ _ _;(refine aX (m:=72) (by rfl) (by rfl) fd (by rfl) (be _) (be _) ?_);exact Zqq) ?_)|(refine aV ?_;intro _))
 all_goals refine R.Zp0 ?_
 all_goals
  repeat (first|refine Z01 ?_|refine Z03 ?_|refine Z04 ?_|refine Z05 ?_|refine Z06 ?_|refine Z07 ?_|refine Z08 ?_|refine Z09 ?_|refine Z10 ?_|refine Z11 ?_|refine Z12 ?_|refine Z13 ?_|refine Z14 ?_|refine Z19 ?_|refine Z24 ?_|refine Z26 ?_|refine Z27 ?_|refine Z29 ?_|refine Z30 ?_|refine Z31 ?_|refine Z32 ?_|refine Z67 ?_|refine Z81 fun _=>?_|refine Z82 fun _=>?_)
  refine gB (by rfl) fun _ hw=>aa hw (Wout:=[.blk bt (GE x3 y3 i3) 36,.blk bp (HE u v j) 58,.blk bf (bM g) 138]) (by exact sw) ⟨rfl,rfl⟩
theorem Xi:∀k,k<63→15132376222941642752 >>> k%18446744073709551616 &&& 1%18446744073709551616=(Nat.testBit xN k).toNat:=by decide +kernel
theorem El(Q:Kf.K2.Pt p)(l:List Bool):(Kf.T12.mil none Q l).1=Kf.T12.one:=by
 have:∀(l:List Bool)(s:F12×Kf.K2.Pt p),s.1=Kf.T12.one→(l.foldl (Kf.T12.mst none Q) s).1=Kf.T12.one:=by
  intro l
  induction l with
  | nil=>exact fun _ h=>h
  | cons x l ih=>
   rintro s h
   refine ih _ ?_
   unfold Kf.T12.mst
   rw[h]
   cases x with
   | false=>show Kf.T12.mul (Kf.T12.mul Kf.T12.one Kf.T12.one) Kf.T12.one=Kf.T12.one;rw[Kf.T12.am,Kf.T12.am]
   | true=>show Kf.T12.mul (Kf.T12.mul (Kf.T12.mul Kf.T12.one Kf.T12.one) Kf.T12.one) Kf.T12.one=Kf.T12.one;rw[Kf.T12.am,Kf.T12.am,Kf.T12.am]
 exact this l _ rfl
theorem Em(P:Kf.K2.Pt p)(l:List Bool):(Kf.T12.mil P none l).1=Kf.T12.one:=by
 have:∀(l:List Bool)(s:F12×Kf.K2.Pt p),s=(Kf.T12.one,none)→l.foldl (Kf.T12.mst P none) s=(Kf.T12.one,none):=by
  intro l
  induction l with
  | nil=>exact fun _ h=>h
  | cons x l ih=>
   rintro _ rfl
   refine ih _ ?_
   unfold Kf.T12.mst
   cases x with
   | false=>show(Kf.T12.mul (Kf.T12.mul Kf.T12.one Kf.T12.one) (Kf.T12.lin P none none),(none:Kf.K2.Pt p))=_;rw[Kf.T12.gG,Kf.T12.am,Kf.T12.am]
   | true=>show(Kf.T12.mul (Kf.T12.mul (Kf.T12.mul Kf.T12.one Kf.T12.one) (Kf.T12.lin P none none)) (Kf.T12.lin P none none),(none:Kf.K2.Pt p))=_;rw[Kf.T12.gG,Kf.T12.am,Kf.T12.am,Kf.T12.am]
 exact congrArg Prod.fst (this l _ rfl)
theorem su{a b:Prop}(k:b)(h:Rm b→a:=by intro k;(first|refine Z01 ?_|refine Z02 ?_|refine Z03 ?_|refine Z04 ?_|refine Z05 ?_|refine Z06 ?_|refine Z07 ?_|refine Z08 ?_|refine Z09 ?_|refine Z10 ?_|refine Z11 ?_|refine Z12 ?_|refine Z13 ?_|refine Z14 ?_|refine Z16 ?_|refine Z17 ?_|refine Z18 ?_|refine Z24 ?_|refine Z26 ?_|refine Z27 ?_|refine Z29 ?_|refine Z30 ?_|refine Z31 ?_|refine Z32 ?_|refine Z40 ?_|refine Z42 ?_|refine Z48 ?_|refine Z49 ?_|refine Z50 ?_|refine Z51 ?_|refine Z52 ?_|refine Z54 ?_|refine Z67 ?_|refine Z71 ?_);exact k.h):a:=h ⟨k⟩
theorem KG{a b:Prop}(k:b)(h:Rm b→a:=by intro k;(first|refine jh ?_|refine du ?_|refine fm ?_|refine ct ?_|refine bK ?_|refine eQ ?_|refine fo ?_);exact k.h):a:=h ⟨k⟩
theorem PJ{a b:Prop}(k:b)(h:Rm b→a:=by intro k;(first|refine jc ?_|refine g9 ?_|refine jS ?_|refine Z01 ?_|refine Z02 ?_|refine Z03 ?_|refine Z04 ?_|refine Z05 ?_|refine Z06 ?_|refine Z07 ?_|refine Z08 ?_|refine Z09 ?_|refine Z10 ?_|refine Z11 ?_|refine Z12 ?_|refine Z13 ?_|refine Z14 ?_|refine Z16 ?_|refine Z17 ?_|refine Z18 ?_|refine Z24 ?_|refine Z26 ?_|refine Z27 ?_|refine Z29 ?_|refine Z30 ?_|refine Z31 ?_|refine Z32 ?_|refine Z40 ?_|refine Z42 ?_|refine Z48 ?_|refine Z49 ?_|refine Z50 ?_|refine Z51 ?_|refine Z52 ?_|refine Z54 ?_|refine Z67 ?_|refine Z71 ?_);exact k.h):a:=h ⟨k⟩
set_option maxHeartbeats 8000000 in
theorem q9{P Q:Kf.K2.Pt p}(hP:Kf.K2.Onc c4 P)(hR:Kf.K2.Rl P)(hQ:Kf.K2.Onc b2c Q)(hn:P=none∨Q=none):Spec Tryz.prog 127 [HV P,GV Q] ai [] (IsV (.tuple [bM Kf.T12.one,N .i64 0].toArray)):=by
 refine ad Tryz.func127 rfl rfl rfl fun w hr=>?_
 have hl0:=fun x=>ae 6 x
 have hle:=fun x:F2=>ak x
 have h1:=mK hP hR
 have h2:=Lw hQ
 have h3:=oe
 have hE:=be Kf.T12.one
 obtain⟨x1,y1,i1,e1⟩:∃x1 y1 i1,GV Q=GE x1 y1 i1∧i1=gi Q:=⟨_,_,_,rfl,rfl⟩
 obtain⟨u,v,j,e2⟩:∃x1 y1 i1,HV P=HE x1 y1 i1∧i1=gi P:=⟨_,_,_,rfl,rfl⟩
 rw[e2.1]at h1
 rw[e1.1]at h2
 rw[e1.1,e2.1]
 generalize (Kf.T12.one:F12)=f at *
 cases j with
 | true=>
  repeat (first|refine KG ?_|(refine cL ?_;intro _)|refine y_4 h1 ?_|refine y_4 h2 ?_|refine y_4 h3 ?_|refine PJ ?_|refine Z81 fun _=>?_|refine Z82 fun _=>?_)
  repeat (first|with_reducible refine dg ?_|refine su ?_|refine Z81 fun _=>?_|refine Z82 fun _=>?_)
  refine aJ (by rfl) (by rfl) (by rfl) fd (by rfl) (by rfl) (by first | with_reducible assumption | (simp[*];done)) fun _ hw=>aa hw SubW.nil ⟨?_,rfl⟩
  rfl
 | false=>
  have hi:i1=true:=by
   rcases hn with rfl | rfl
   ·exact absurd e2.2 (by decide)
   ·exact e1.2
  subst hi
  repeat (first|refine KG ?_|(refine cL ?_;intro _)|refine y_4 h1 ?_|refine y_4 h2 ?_|refine y_4 h3 ?_|refine PJ ?_|refine Z81 fun _=>?_|refine Z82 fun _=>?_)
  repeat (first|with_reducible refine dg ?_|refine su ?_|refine Z81 fun _=>?_|refine Z82 fun _=>?_)
  refine aJ (by rfl) (by rfl) (by rfl) fd (by rfl) (by rfl) (by first | with_reducible assumption | (simp[*];done)) fun _ hw=>aa hw SubW.nil ⟨?_,rfl⟩
  rfl
theorem O7{a b:Prop}(k:b)(h:Rm b→a:=by intro k;(first|refine jc ?_|refine g9 ?_|refine Z01 ?_|refine Z02 ?_|refine Z03 ?_|refine Z04 ?_|refine Z05 ?_|refine Z06 ?_|refine Z07 ?_|refine Z08 ?_|refine Z09 ?_|refine Z10 ?_|refine Z11 ?_|refine Z12 ?_|refine Z13 ?_|refine Z14 ?_|refine Z16 ?_|refine Z17 ?_|refine Z18 ?_|refine Z24 ?_|refine Z26 ?_|refine Z27 ?_|refine Z29 ?_|refine Z30 ?_|refine Z31 ?_|refine Z32 ?_|refine Z40 ?_|refine Z42 ?_|refine Z48 ?_|refine Z49 ?_|refine Z50 ?_|refine Z51 ?_|refine Z52 ?_|refine Z54 ?_|refine Z67 ?_|refine Z71 ?_);exact k.h):a:=h ⟨k⟩
set_option maxHeartbeats 8000000 in
theorem At{P Q:Kf.K2.Pt p}(hP:Kf.K2.Onc c4 P)(hR:Kf.K2.Rl P)(hQ:Kf.K2.Onc b2c Q)(n1:P≠none)(n2:Q≠none):Spec Tryz.prog 127 [HV P,GV Q] ai [] (IsV (.tuple [bM (Kf.T12.conj (Kf.T12.mil P Q xB).1),N .i64 0].toArray)):=by
 refine ad Tryz.func127 rfl rfl rfl fun w hr=>?_
 have hl0:=fun x=>ae 6 x
 have hle:=fun x:F2=>ak x
 have h1:=mK hP hR
 have h2:=Lw hQ
 have h3:=oe
 have h4:=xg Q
 have cl:=fun T f=>tp hR Q T f
 have cs:=fun T f=>tp hR T T f
 have hi:gi Q=false:=by cases Q with
  | none=>exact absurd rfl n2
  | some q=>rfl
 have hj:gi P=false:=by cases P with
  | none=>exact absurd rfl n1
  | some q=>rfl
 obtain⟨x1,y1,e1⟩:∃x1 y1,GV Q=GE x1 y1 false:=⟨gx Q,gy Q,by rw[← hi]⟩
 obtain⟨u,v,e2⟩:∃x1 y1,HV P=HE x1 y1 false:=⟨(gx P).re,(gy P).re,by rw[← hj]⟩
 rw[e2]at h1 cl cs
 rw[e1]at h2 h4
 rw[e1,e2]
 have e0:bM Kf.T12.one=bM (Kf.T12.mil P Q (xBk 0)).1:=rfl
 have e0':GE x1 y1 false=GV (Kf.T12.mil P Q (xBk 0)).2:=e1.symm
 have cl:∀(T:Kf.K2.Pt p)(f:F12)(bt bp bf:Nat),Spec Tryz.prog 140 [GE x1 y1 false,pt bt 0,pt bp 0,pt bf 0] ai [.blk bt (GV T) 36,.blk bp (HE u v false) 58,.blk bf (bM f) 138]
   (fun v' Wr=>v' = .tuple #[]∧Wr=[.blk bt (GV (Kf.K2.pa T Q)) 36,.blk bp (HE u v false) 58,.blk bf (bM (Kf.T12.mul f (Kf.T12.lin P T Q))) 138]):=by
  intro T f bt bp bf
  rw[← e1];exact cl T f bt bp bf
 repeat (first|refine KG ?_|(refine cL ?_;intro _)|refine y_4 h1 ?_|refine y_4 h2 ?_|refine O7 ?_|refine Z81 fun _=>?_|refine Z82 fun _=>?_)
 rename_i p2 p3 p4
 refine CL (fun a b=>[(2,pt p2 0),(3,pt p3 0),(4,pt p4 0),(6,pt a 0),(7,pt b 0)]) (fun a b=>[.blk a (bM (Kf.T12.mil P Q (xBk 0)).1) 138,.blk b (GV (Kf.T12.mil P Q (xBk 0)).2) 36,.blk p4 (LV .u64 (List.replicate 72 0)) 138,.blk p3 (GE x1 y1 false) 36,.blk p2 (HE u v false) 58]) (fun p6 p7=>?_) (fun hK=>?_)
 case refine_2=>
  refine R.af [0,1,2,3,4,5,6] (by rfl) ?_
  repeat' (first|(refine R.Zpf (by rfl) (by intro _ _ _;(first|refine Z01 ?_|refine Z02 ?_|refine Z16 ?_|refine Z17 ?_|refine Z18 ?_|refine Z40 ?_|refine Z42 ?_|refine Z48 ?_|refine Z49 ?_|refine Z50 ?_|refine Z54 ?_|refine Z71 ?_);exact Zq) ?_)|refine aL ?_|refine za ?_|refine ag h3 ?_|refine ag h4 ?_|refine aA ?_|refine r8 ?_|refine Di ?_|(refine R.FV (R.Mks.mk (R.Mk.mk' (by rfl) (by intro _ _ _;refine aq (v:=LV .u64 (List.replicate 72 0)) (by rfl) (by rfl) fun _=>?_;first|exact R.iH|exact R.dO|exact R.iI)) (fun _=>?_)) (R.Mks.mk (R.Mk.mk' (by rfl) (by intro _ _ _;refine aq (E:=36) (v:=GL (List.replicate 24 0) false) (by kernel_rfl) (by rfl) fun _=>?_;first|exact R.iH|exact R.dO|exact R.iI)) (fun _=>?_)))|(refine um ?_;intro _)|(refine Ka ?_;intro _)|(refine aV ?_;intro _))
  all_goals refine R.Zp0 ?_
  all_goals exact d9 sbq (by rw[← e0',← e0];exact sw) (hK _ _)
 case refine_1=>
  repeat (first|refine O7 ?_|refine Z81 fun _=>?_|refine Z82 fun _=>?_)
  refine ay (ι:=Nat) (fun i=>i≤63) (fun i=>[(2,pt p2 0),(3,pt p3 0),(4,pt p4 0),(6,pt p6 0),(7,pt p7 0),(8,.func (.func 140) #[] #[pt p7 0,pt p2 0,pt p6 0]),(9,.int .i64 (62-(i:Int)))])
   (fun i=>[.blk p6 (bM (Kf.T12.mil P Q (xBk i)).1) 138,.blk p7 (GV (Kf.T12.mil P Q (xBk i)).2) 36,.blk p4 (LV .u64 (List.replicate 72 0)) 138,.blk p3 (GE x1 y1 false) 36,.blk p2 (HE u v false) 58]) (fun i=>63-i) 0 (by omega) sbq sw ?_
  intro i hi
  repeat (first|refine su ?_|refine Z81 fun _=>?_|refine Z82 fun _=>?_)
  refine an (by rfl) (fun hc=>?_) (fun hc=>?_)
  ·have hc':(0:Int)≤62-(i:Int):=hc
   obtain⟨k,hk⟩:∃k,i+k=62:=⟨62-i,by omega⟩
   rw[show(62-(i:Int))=Int.ofNat k by show _=(k:Int);omega]
   have hs:=UH (P:=P) (Q:=Q) (i:=i) (by omega)
   rw[show 62-i=k by omega]at hs
   have hbt:=Xi k (by omega)
   generalize Kf.T12.mil P Q (xBk i)=s at hs ⊢
   obtain⟨f,T⟩:=s
   have m1:=jf f f
   have c1:=cs T (Kf.T12.mul f f)
   have c2:=cl (Kf.K2.pa T T) (Kf.T12.mul (Kf.T12.mul f f) (Kf.T12.lin P T T))
   simp only[Kf.T12.mst]at hs ⊢
   repeat (first|refine f9 ?_|refine y_4 m1 ?_|refine so ?_|refine du ?_|(refine aw (by rfl) (by rfl) (by rfl) (c1 _ _ _) (.cons fd (.cons fd (.cons fd .nil))) (fun _ _=>trivial) (by rfl) ?_;rintro _ _ ⟨rfl,rfl⟩)|refine ib (by rfl) (by rfl) (show k≤64 by omega) (by rfl) ?_|rw[hbt]|refine su ?_|refine Z81 fun _=>?_|refine Z82 fun _=>?_)
   refine an (by rfl) (fun hb=>?_) (fun hb=>?_)
   ·have hb2:Nat.testBit xN k=false:=by
     cases hq:Nat.testBit xN k
     ·rfl
     ·rw[hq]at hb;exact absurd hb (by decide)
    rw[hb2]at hs
    repeat (first|refine su ?_|refine Z81 fun _=>?_|refine Z82 fun _=>?_)
    refine ao (i+1) (by omega) (by omega) ?_ (by rw[hs];exact sw)
    rw[show(62-((i+1:Nat):Int))=Int.ofNat k-Int.ofNat 1 by show _=(k:Int)-1;omega]
    exact sbq
   ·have hb2:Nat.testBit xN k=true:=by
     cases hq:Nat.testBit xN k
     ·rw[hq]at hb;exact absurd rfl hb
     ·rfl
    rw[hb2]at hs
    repeat (first|refine du ?_|(refine aw (by rfl) (by rfl) (by rfl) (c2 _ _ _) (.cons fd (.cons fd (.cons fd .nil))) (fun _ _=>trivial) (by rfl) ?_;rintro _ _ ⟨rfl,rfl⟩)|refine su ?_|refine Z81 fun _=>?_|refine Z82 fun _=>?_)
    refine ao (i+1) (by omega) (by omega) ?_ (by rw[hs];exact sw)
    rw[show(62-((i+1:Nat):Int))=Int.ofNat k-Int.ofNat 1 by show _=(k:Int)-1;omega]
    exact sbq
  ·have hc':¬(0:Int)≤62-(i:Int):=hc
   have hi':i=63:=by omega
   subst hi'
   rw[S2]
   have m1:=jI (Kf.T12.mil P Q xB).1
   have hE:=be (Kf.T12.conj (Kf.T12.mil P Q xB).1)
   repeat (first|refine f9 ?_|refine y_4 m1 ?_|refine jS ?_|refine Z01 ?_|refine Z02 ?_|refine Z03 ?_|refine Z04 ?_|refine Z05 ?_|refine Z06 ?_|refine Z07 ?_|refine Z08 ?_|refine Z09 ?_|refine Z10 ?_|refine Z11 ?_|refine Z12 ?_|refine Z13 ?_|refine Z14 ?_|refine Z16 ?_|refine Z17 ?_|refine Z18 ?_|refine Z24 ?_|refine Z26 ?_|refine Z27 ?_|refine Z29 ?_|refine Z30 ?_|refine Z31 ?_|refine Z32 ?_|refine Z40 ?_|refine Z42 ?_|refine Z48 ?_|refine Z49 ?_|refine Z50 ?_|refine Z51 ?_|refine Z52 ?_|refine Z54 ?_|refine Z67 ?_|refine Z71 ?_|refine Z81 fun _=>?_|refine Z82 fun _=>?_)
   repeat (first|with_reducible refine dg ?_|refine su ?_|refine Z81 fun _=>?_|refine Z82 fun _=>?_)
   refine aJ (by rfl) (by rfl) (by rfl) fd (by rfl) (by rfl) (by first | with_reducible assumption | (simp[*];done)) fun _ hw=>aa hw SubW.nil ⟨?_,rfl⟩
   rfl
theorem Au{P Q:Kf.K2.Pt p}(hP:Kf.K2.Onc c4 P)(hR:Kf.K2.Rl P)(hQ:Kf.K2.Onc b2c Q):Spec Tryz.prog 127 [HV P,GV Q] ai [] (IsV (.tuple [bM (Kf.T12.conj (Kf.T12.mil P Q xB).1),N .i64 0].toArray)):=by
 by_cases n1:P=none
 ·have h:=q9 hP hR hQ (.inl n1)
  subst n1
  rw[El,Kf.T12.fW];exact h
 by_cases n2:Q=none
 ·have h:=q9 hP hR hQ (.inr n2)
  subst n2
  rw[Em,Kf.T12.fW];exact h
 exact At hP hR hQ n1 n2
end
section
attribute [local irreducible] Code.wp wpList Af bodyPost L.Go ab
open Num
attribute [local simp] ae
attribute [local irreducible] Kf.T12.mul Kf.T12.one Kf.T12.conj Kf.T12.inv CR.pw frI
attribute [local irreducible] bi fY
def hW(P:Kf.K2.Pt p):List Value:=(Q6 (gx P).re++Q6 (gy P).re).map (N .u64)++[Value.bool (gi P)]
def gW(P:Kf.K2.Pt p):List Value:=(E2 (gx P)++E2 (gy P)).map (N .u64)++[Value.bool (gi P)]
theorem TA(P:Kf.K2.Pt p):HV P=AV (hW P):=FQ _ _
theorem Ty(P:Kf.K2.Pt p):GV P=AV (gW P):=FQ _ _
theorem Re(P:Kf.K2.Pt p):(hW P).length=13:=by simp[hW]
theorem Q8(P:Kf.K2.Pt p):(gW P).length=25:=by simp[gW]
def hWs(l:List (Kf.K2.Pt p)):List (List Value):=l.map hW
def gWs(l:List (Kf.K2.Pt p)):List (List Value):=l.map gW
theorem pI(l:List (Kf.K2.Pt p)):∀v∈hWs l,v.length=13:=by
 intro v hv
 obtain⟨x,_,rfl⟩:=List.mem_map.1 hv
 exact Re x
theorem pG(l:List (Kf.K2.Pt p)):∀v∈gWs l,v.length=25:=by
 intro v hv
 obtain⟨x,_,rfl⟩:=List.mem_map.1 hv
 exact Q8 x
theorem iX{m:Nat}{xss:List (List Value)}(h:∀v∈xss,v.length=m):xss.flatten.length=xss.length*m:=by
 induction xss with
 | nil=>simp
 | cons x r ih=>
  rw[List.flatten_cons,List.length_append,h x (by simp),ih fun v hv=>h v (by simp[hv]),List.length_cons,Nat.succ_mul,Nat.add_comm]
theorem xn(l:List (Kf.K2.Pt p)):(hWs l).flatten.length=l.length*13:=by rw[iX (pI l)];unfold hWs;rw[List.length_map]
theorem Hk(l:List (Kf.K2.Pt p)):(gWs l).flatten.length=l.length*25:=by rw[iX (pG l)];unfold gWs;rw[List.length_map]
theorem Lx{l:List (Kf.K2.Pt p)}{i:Nat}{P:Kf.K2.Pt p}(h:l[i]?=some P):(hWs l)[i]?=some (hW P):=by unfold hWs;rw[List.getElem?_map,h];rfl
theorem Lr{l:List (Kf.K2.Pt p)}{i:Nat}{P:Kf.K2.Pt p}(h:l[i]?=some P):(gWs l)[i]?=some (gW P):=by unfold gWs;rw[List.getElem?_map,h];rfl
def Ok1(P:Kf.K2.Pt p):Prop:=Kf.K2.Onc c4 P∧Kf.K2.Rl P∧Kf.K2.tim P 52435875175126190479447740508185965837690552500527637822603658699938581184513=none
def Ok2(Q:Kf.K2.Pt p):Prop:=Kf.K2.Onc b2c Q∧Kf.K2.tim Q 52435875175126190479447740508185965837690552500527637822603658699938581184513=none
def dU:List (Kf.K2.Pt p)→List (Kf.K2.Pt p)→F12→F12
 | P::ps,Q::qs,f=>dU ps qs (bi [f,Kf.T12.conj (Kf.T12.mil P Q xB).1])
 | _,_,f=>f
theorem HZ:∀{ps qs:List (Kf.K2.Pt p)}{i:Nat}{P Q:Kf.K2.Pt p}(f:F12),ps[i]?=some P→qs[i]?=some Q→dU (ps.take (i+1)) (qs.take (i+1)) f=bi [dU (ps.take i) (qs.take i) f,Kf.T12.conj (Kf.T12.mil P Q xB).1]
 | [],_,_,_,_,_,h,_=>by simp at h
 | _::_,[],_,_,_,_,_,h=>by simp at h
 | p0::ps,q0::qs,0,P,Q,f,h1,h2=>by
  simp at h1 h2
  subst h1;subst h2
  simp[dU]
 | p0::ps,q0::qs,i+1,P,Q,f,h1,h2=>by
  simp at h1 h2
  simp only[List.take_succ_cons,dU]
  exact HZ _ h1 h2
end
end Go.Proofs.YtndhfbecpghinaaGreat.L
namespace Go.Proofs.YtndhfbecpghinaaGreat.L.Kf
open Pr
namespace K2
def qK{α:Type}(T:PN)(a:α):α:=cond (Nat.beq (T.1+T.2) 0) a a
theorem tf{α:Type}(T:PN)(a:α):qK T a=a:=by
 unfold qK
 cases Nat.beq (T.1+T.2) 0 <;> rfl
def pgo(N:Nat)(a:PN)(k:Nat):Nat→PN→PN
 | 0,S=>S
 | f+1,S=>(fun T=>qK T (pgo N a k f T)) (cond (Nat.beq (k/2^f%2) 1) (aO N (aO N S S) a) (aO N S S))
theorem NP(k f m:Nat):m*2^(f+1)+k%2^(f+1)=(m+m+k/2^f%2)*2^f+k%2^f:=by
 have hk:k%2^(f+1)=2^f*(k/2^f%2)+k%2^f:=by rw[Nat.pow_succ,Nat.mod_mul,Nat.add_comm]
 rw[hk,Nat.pow_succ,Nat.add_mul,Nat.add_mul,Nat.mul_comm (2^f) 2,← Nat.mul_assoc,Nat.mul_two,Nat.add_mul,Nat.mul_comm (2^f)]
 simp only[Nat.add_assoc]
section
variable {n:Nat} [NeZero n]
attribute [local irreducible] add mul sub neg zero one inv aO bZ dv
theorem IB(h0:0<n)(a:PN)(k:Nat):∀(f:Nat)(S:PN)(m:Nat),red n S=pw (red n a) m→red n (pgo n a k f S)=pw (red n a) (m*2^f+k%2^f)
 | 0,S,m,h=>by rw[Nat.pow_zero,Nat.mod_one,Nat.mul_one,Nat.add_zero];exact h
 | f+1,S,m,h=>by
  have hn:=Nat.dvd_refl n
  rw[NP]
  show red n (qK _ _)=_
  rw[tf]
  refine IB h0 a k f _ _ ?_
  rcases Nat.mod_two_eq_zero_or_one (k/2^f)with h1 | h1
  ·rw[h1]
   show red n (aO n S S)=_
   rw[cZ hn h0,h,← dP,Nat.add_zero]
  ·rw[h1]
   show red n (aO n (aO n S S) a)=_
   rw[cZ hn h0,cZ hn h0,h,← dP,pw]
theorem R4(h0:0<n)(a:PN){k f:Nat}(hk:k<2^f):pw (red n a) k=red n (pgo n a k f vA):=by
 have:=IB h0 a k f vA 0 (by rw[vO];rfl)
 rw[this,Nat.zero_mul,Nat.zero_add,Nat.mod_eq_of_lt hk]
end
end K2
namespace T12
open K2 (PN bZ dv aO red vA dR isz ltP Pt pa f6 ec cx cy)
structure S12 where
 a:PN
 b:PN
 c:PN
 d:PN
 e:PN
 f:PN
def xiP:PN:=(1,1)
def dV(N:Nat)(x y:S12):S12:=
  ⟨bZ N (aO N x.a y.a) (aO N xiP (bZ N (bZ N (bZ N (aO N x.b y.f) (aO N x.f y.b)) (bZ N (aO N x.c y.e) (aO N x.e y.c))) (aO N x.d y.d))),
   bZ N (bZ N (aO N x.a y.b) (aO N x.b y.a)) (aO N xiP (bZ N (bZ N (aO N x.c y.f) (aO N x.f y.c)) (bZ N (aO N x.d y.e) (aO N x.e y.d)))),
   bZ N (bZ N (aO N x.a y.c) (bZ N (aO N x.c y.a) (aO N x.b y.b))) (aO N xiP (bZ N (bZ N (aO N x.d y.f) (aO N x.f y.d)) (aO N x.e y.e))),
   bZ N (bZ N (bZ N (aO N x.a y.d) (aO N x.d y.a)) (bZ N (aO N x.b y.c) (aO N x.c y.b))) (aO N xiP (bZ N (aO N x.e y.f) (aO N x.f y.e))),
   bZ N (bZ N (bZ N (aO N x.a y.e) (aO N x.e y.a)) (bZ N (bZ N (aO N x.b y.d) (aO N x.d y.b)) (aO N x.c y.c))) (aO N xiP (aO N x.f y.f)),
   bZ N (bZ N (bZ N (aO N x.a y.f) (aO N x.f y.a)) (bZ N (aO N x.b y.e) (aO N x.e y.b))) (bZ N (aO N x.c y.d) (aO N x.d y.c))⟩
def fO{α:Type}(T:S12)(a:α):α:=cond (Nat.beq (T.a.1+T.a.2+T.b.1+T.b.2+T.c.1+T.c.2+T.d.1+T.d.2+T.e.1+T.e.2+T.f.1+T.f.2) 0) a a
theorem fy{α:Type}(T:S12)(a:α):fO T a=a:=by
 unfold fO
 generalize Nat.beq _ 0=b
 cases b <;> rfl
def na(N:Nat)(a:S12)(k:Nat):Nat→S12→S12
 | 0,S=>S
 | f+1,S=>(fun T=>fO T (na N a k f T)) (cond (Nat.beq (k/2^f%2) 1) (dV N (dV N S S) a) (dV N S S))
def jM:S12:=⟨vA,dR,dR,dR,dR,dR⟩
def ql(N:Nat)(x:PN):PN:=(x.1,N-x.2%N)
def Ev(N:Nat)(x:PN):PN:=dv N dR x
def qk(N:Nat)(x:S12):S12:=⟨x.a,Ev N x.b,x.c,Ev N x.d,x.e,Ev N x.f⟩
def Ha(N:Nat)(g g2 g3 g4 g5:PN)(x:S12):S12:=
 ⟨ql N x.a,aO N (ql N x.b) g,aO N (ql N x.c) g2,aO N (ql N x.d) g3,aO N (ql N x.e) g4,aO N (ql N x.f) g5⟩
structure MS where
 g:Bool
 x:PN
 y:PN
 z:S12
def ivP(N:Nat)(x:PN):PN:=(fun d=>(x.1*d%N,(N-x.2%N)*d%N)) (pm N 381 ((x.1*x.1+x.2*x.2)%N) (N-2))
def LX(N:Nat)(l x y u v:PN):S12:=⟨dv N (aO N l x) y,dR,Ev N (aO N l u),v,dR,dR⟩
def goM(N:Nat)(u v:PN)(S:MS)(f:S12)(num den qx:PN):MS:=
 (fun l=>K2.qK l ((fun z=>fO z ⟨S.g&&(isz (dv N (aO N l den) num) && !isz den),dv N (dv N (aO N l l) S.x) qx,dv N (aO N l (dv N S.x (dv N (dv N (aO N l l) S.x) qx))) S.y,z⟩) (dV N f (LX N l S.x S.y u v)))) (aO N num (ivP N den))
def DU(N:Nat)(u v:PN)(S:MS):MS:=
 goM N u v S (dV N S.z S.z) (bZ N (bZ N (aO N S.x S.x) (aO N S.x S.x)) (aO N S.x S.x)) (bZ N S.y S.y) S.x
def Qa(N:Nat)(u v qx qy:PN)(S:MS):MS:=
 goM N u v S S.z (dv N qy S.y) (dv N qx S.x) qx
def stM(N:Nat)(u v qx qy:PN)(S:MS)(t:Bool):MS:=bif t then Qa N u v qx qy (DU N u v S)else DU N u v S
def nY{α:Type}(T:MS)(a:α):α:=cond (Nat.beq (T.x.1+T.x.2+T.y.1+T.y.2) 0) (fO T.z (cond T.g a a)) (fO T.z (cond T.g a a))
theorem tb{α:Type}(T:MS)(a:α):nY T a=a:=by
 unfold nY
 rw[fy]
 generalize Nat.beq _ 0=b
 cases b <;> cases T.g <;> rfl
def As(N:Nat)(u v qx qy:PN):List Bool→MS→MS
 | [],S=>S
 | t::l,S=>(fun T=>nY T (As N u v qx qy l T)) (stM N u v qx qy S t)
section
variable {n:Nat} [NeZero n]
def bD(n:Nat)[NeZero n](x:S12):T12 n:=⟨⟨red n x.a,red n x.c,red n x.e⟩,⟨red n x.b,red n x.d,red n x.f⟩⟩
theorem Sg:red n xiP=K2.xi:=K2.ext' κ_1 κ_1
theorem I2(h0:0<n)(x:PN):red n (ql n x)=K2.conj (red n x):=K2.ext' rfl (K2.pZ (Nat.dvd_refl n) h0 x.2)
theorem CB(h0:0<n)(x:PN):red n (Ev n x)=K2.neg (red n x):=by
 rw[Ev,K2.d8 (Nat.dvd_refl n) h0,K2.kq]
 exact K2.ext' (show(0:Fin n)-κ n x.1 = -κ n x.1 by grind) (show(0:Fin n)-κ n x.2 = -κ n x.2 by grind)
attribute [local irreducible] K2.add K2.mul K2.sub K2.neg K2.zero K2.one K2.inv K2.xi K2.conj K2.aO K2.bZ K2.dv mul one conj
theorem tL:bD n jM=one:=by
 unfold one
 show(⟨⟨red n vA,red n dR,red n dR⟩,⟨red n dR,red n dR,red n dR⟩⟩:T12 n)=_
 rw[K2.vO,K2.kq];rfl
theorem de(h0:0<n)(x y:S12):bD n (dV n x y)=mul (bD n x) (bD n y):=by
 have hn:=Nat.dvd_refl n
 show _=mul ⟨⟨_,_,_⟩,⟨_,_,_⟩⟩ ⟨⟨_,_,_⟩,⟨_,_,_⟩⟩
 rw[vo]
 unfold bD dV
 simp only[K2.kQ hn,K2.cZ hn h0,Sg]
theorem rD(h0:0<n)(x:S12):bD n (qk n x)=conj (bD n x):=by
 unfold conj bD qk T6.neg
 simp only[CB h0]
theorem EO(h0:0<n)(g:PN)(g2 g3 g4 g5:PN)(h2:red n g2=K2.pw (red n g) 2)(h3:red n g3=K2.pw (red n g) 3)(h4:red n g4=K2.pw (red n g) 4)(h5:red n g5=K2.pw (red n g) 5)(x:S12):
  bD n (Ha n g g2 g3 g4 g5 x)=frb (red n g) (bD n x):=by
 have hn:=Nat.dvd_refl n
 unfold frb bD Ha
 simp only[K2.cZ hn h0,I2 h0,h2,h3,h4,h5]
theorem xV(h0:0<n)(a:S12)(k:Nat):∀(f:Nat)(S:S12)(m:Nat),bD n S=CR.pw (bD n a) m→bD n (na n a k f S)=CR.pw (bD n a) (m*2^f+k%2^f)
 | 0,S,m,h=>by rw[Nat.pow_zero,Nat.mod_one,Nat.mul_one,Nat.add_zero];exact h
 | f+1,S,m,h=>by
  rw[K2.NP]
  show bD n (fO _ _)=_
  rw[fy]
  refine xV h0 a k f _ _ ?_
  rcases Nat.mod_two_eq_zero_or_one (k/2^f)with h1 | h1
  ·rw[h1]
   show bD n (dV n S S)=_
   rw[de h0,h,Nat.add_zero]
   exact(CR.dP _ m m).symm
  ·rw[h1]
   show bD n (dV n (dV n S S) a)=_
   rw[de h0,de h0,h,CR.li,CR.dP];rfl
theorem nl(h0:0<n)(a:S12){k f:Nat}(hk:k<2^f):CR.pw (bD n a) k=bD n (na n a k f jM):=by
 have:=xV h0 a k f jM 0 (by rw[tL];rfl)
 rw[this,Nat.zero_mul,Nat.zero_add,Nat.mod_eq_of_lt hk]
theorem Sd(h0:0<n)(l x y u v:PN):bD n (LX n l x y u v)=ln (red n l) (red n x) (red n y) (red n u) (red n v):=by
 have hn:=Nat.dvd_refl n
 unfold ln bD LX
 simp only[K2.d8 hn h0,K2.cZ hn h0,CB h0,K2.kq]
theorem QG(hp:P3 n){l x y u v:K2 n}(h:K2.mul l (K2.add y y)=K2.q3 x x)(hd:K2.add y y≠K2.zero):
  lin (some (u,v)) (some (x,y)) (some (x,y))=ln l x y u v∧pa (some (x,y)) (some (x,y))=some (cx l x x,cy l x y x):=by
 have hy:y≠K2.zero:=fun e=>hd (by rw[e,K2.add_zero'])
 have ht:f6 x y=l:=K2.dy hp hd h
 constructor
 ·show(if x=x then if y=y∧y≠K2.zero then _ else _ else _)=_
  rw[if_pos rfl,if_pos ⟨rfl,hy⟩,ht]
 ·show(if x=x then if y=y∧y≠K2.zero then _ else _ else _)=_
  rw[if_pos rfl,if_pos ⟨rfl,hy⟩,ht]
theorem Qb(hp:P3 n){l x y a b u v:K2 n}(h:K2.mul l (K2.sub a x)=K2.sub b y)(hd:K2.sub a x≠K2.zero):
  lin (some (u,v)) (some (x,y)) (some (a,b))=ln l x y u v∧pa (some (x,y)) (some (a,b))=some (cx l x a,cy l x y a):=by
 have hx:x≠a:=fun e=>hd (by rw[e,K2.aZ])
 have hc:ec x y a b=l:=K2.dy hp hd h
 constructor
 ·show(if x=a then _ else _)=_
  rw[if_neg hx,hc]
 ·show(if x=a then _ else _)=_
  rw[if_neg hx,hc]
def Std(S:MS)(s:T12 n×Pt n):Prop:=s=(bD n S.z,some (red n S.x,red n S.y))
theorem Hr(N:Nat)(u v:PN)(S:MS)(f:S12)(num den qx:PN):goM N u v S f num den qx=⟨S.g&&(isz (dv N (aO N (aO N num (ivP N den)) den) num) && !isz den),dv N (dv N (aO N (aO N num (ivP N den)) (aO N num (ivP N den))) S.x) qx,dv N (aO N (aO N num (ivP N den)) (dv N S.x (dv N (dv N (aO N (aO N num (ivP N den)) (aO N num (ivP N den))) S.x) qx))) S.y,dV N f (LX N (aO N num (ivP N den)) S.x S.y u v)⟩:=
 (K2.tf _ _).trans (fy _ _)
theorem BU{N:Nat}{u v:PN}{S:MS}{f:S12}{num den qx:PN}(h:(goM N u v S f num den qx).g=true):S.g=true:=by
 rw[Hr]at h
 change (S.g&&_)=true at h
 rw[Bool.and_eq_true]at h
 exact h.1
theorem Hs(h0:0<n){u v:PN}{S:MS}{f:S12}{num den qx:PN}(hl:ltP n den)(h:(goM n u v S f num den qx).g=true):
  ∃l:K2 n,K2.mul l (red n den)=red n num∧red n den≠K2.zero∧bD n (goM n u v S f num den qx).z=mul (bD n f) (ln l (red n S.x) (red n S.y) (red n u) (red n v)) ∧
   red n (goM n u v S f num den qx).x=cx l (red n S.x) (red n qx)∧red n (goM n u v S f num den qx).y=cy l (red n S.x) (red n S.y) (red n qx):=by
 have hn:=Nat.dvd_refl n
 refine⟨red n (aO n num (ivP n den)),?_⟩
 rw[Hr]at h ⊢
 change (S.g&&(isz _ && !isz den))=true at h
 rw[Bool.and_eq_true,Bool.and_eq_true,Bool.not_eq_true']at h
 generalize aO n num (ivP n den)=l at h ⊢
 refine⟨?_,?_,?_,?_,?_⟩
 ·have e:=(K2.dY (K2.jt h0 _ _)).1 h.2.1
  rw[K2.d8 hn h0,K2.cZ hn h0]at e
  exact K2.aE e
 ·intro e
  rw[(K2.dY hl).2 e]at h
  exact absurd h.2.2 (by decide)
 ·show bD n (dV n _ _)=_
  rw[de h0,Sd h0]
 ·show red n (dv n _ _)=_
  simp only[K2.d8 hn h0,K2.cZ hn h0,cx]
 ·show red n (dv n _ _)=_
  simp only[K2.d8 hn h0,K2.cZ hn h0,cx,cy]
theorem Vk{N:Nat}{u v qx qy:PN}{S:MS}{t:Bool}(h:(stM N u v qx qy S t).g=true):S.g=true:=by
 cases t with
 | false=>exact BU h
 | true=>exact BU (BU (S:=DU N u v S) h)
theorem BD(hp:P3 n){u v:PN}{S:MS}{s:T12 n×Pt n}(hs:Std S s)(h:(DU n u v S).g=true):
  Std (DU n u v S) (mul (mul s.1 s.1) (lin (some (red n u,red n v)) s.2 s.2),pa s.2 s.2):=by
 have h0:=hp.1.pos
 have hn:=Nat.dvd_refl n
 rw[hs]
 obtain⟨l,e1,e2,e3,e4,e5⟩:=Hs h0 (K2.Aq h0 _ _) h
 rw[K2.kQ hn]at e1 e2
 rw[K2.kQ hn,K2.kQ hn,K2.cZ hn h0]at e1
 rw[de h0]at e3
 obtain⟨d1,d2⟩:=QG (u:=red n u) (v:=red n v) hp (x:=red n S.x) (y:=red n S.y) e1 e2
 show((mul (mul _ _) (lin _ (some (_,_)) (some (_,_))),pa (some (_,_)) (some (_,_))):T12 n×Pt n)=(bD n (goM _ _ _ _ _ _ _ _).z,some (red n (goM _ _ _ _ _ _ _ _).x,red n (goM _ _ _ _ _ _ _ _).y))
 rw[d1,d2,e3,e4,e5]
theorem K5(hp:P3 n){u v qx qy:PN}{S:MS}{s:T12 n×Pt n}(hs:Std S s)(h:(Qa n u v qx qy S).g=true):
  Std (Qa n u v qx qy S) (mul s.1 (lin (some (red n u,red n v)) s.2 (some (red n qx,red n qy))),pa s.2 (some (red n qx,red n qy))):=by
 have h0:=hp.1.pos
 have hn:=Nat.dvd_refl n
 rw[hs]
 obtain⟨l,e1,e2,e3,e4,e5⟩:=Hs h0 (K2.jt h0 _ _) h
 rw[K2.d8 hn h0]at e1 e2
 rw[K2.d8 hn h0]at e1
 obtain⟨d1,d2⟩:=Qb (u:=red n u) (v:=red n v) hp (x:=red n S.x) (y:=red n S.y) e1 e2
 show((mul _ (lin _ (some (_,_)) (some (_,_))),pa (some (_,_)) (some (_,_))):T12 n×Pt n)=(bD n (goM _ _ _ _ _ _ _ _).z,some (red n (goM _ _ _ _ _ _ _ _).x,red n (goM _ _ _ _ _ _ _ _).y))
 rw[d1,d2,e3,e4,e5]
theorem Sy(hp:P3 n){u v qx qy:PN}{S:MS}{s:T12 n×Pt n}(hs:Std S s){t:Bool}(h:(stM n u v qx qy S t).g=true):
  Std (stM n u v qx qy S t) (mst (some (red n u,red n v)) (some (red n qx,red n qy)) s t):=by
 cases t with
 | false=>exact BD hp hs h
 | true=>exact K5 hp (BD hp hs (BU (S:=DU n u v S) h)) h
theorem HW{N:Nat}{u v qx qy:PN}:∀(l:List Bool)(S:MS),(As N u v qx qy l S).g=true→S.g=true
 | [],_,h=>h
 | t::l,S,h=>by
  change MS.g (nY _ _)=true at h
  rw[tb]at h
  exact Vk (HW l _ h)
theorem Cd(hp:P3 n){u v qx qy:PN}:∀(l:List Bool)(S:MS)(s:T12 n×Pt n),Std S s→(As n u v qx qy l S).g=true →
  Std (As n u v qx qy l S) (l.foldl (mst (some (red n u,red n v)) (some (red n qx,red n qy))) s)
 | [],_,_,hs,_=>hs
 | t::l,S,s,hs,h=>by
  change MS.g (nY _ _)=true at h
  change Std (nY _ _) _
  rw[tb]at h ⊢
  exact Cd hp l _ _ (Sy hp hs (HW l _ h)) h
theorem HX(hp:P3 n){u v qx qy:PN}{l:List Bool}(h:(As n u v qx qy l ⟨true,qx,qy,jM⟩).g=true):
  (mil (some (red n u,red n v)) (some (red n qx,red n qy)) l).1=bD n (As n u v qx qy l ⟨true,qx,qy,jM⟩).z:=
 congrArg Prod.fst (Cd hp l ⟨true,qx,qy,jM⟩ (one,some (red n qx,red n qy)) (by rw[Std,tL]) h)
end
end T12
end Go.Proofs.YtndhfbecpghinaaGreat.L.Kf
namespace Go.Proofs.YtndhfbecpghinaaGreat.L
open Go Go.Proofs
set_option maxRecDepth 100000
section
attribute [local irreducible] Code.wp wpList Af bodyPost L.Go
open Num
theorem pm2:Nat.beq (Pr.pm p 381 2 ((p-1)/3)) 1=false:=by decide +kernel
theorem Mq:(Kf.K2.bW (Kf.K2.xi:F2))^((p-1)/3)≠1:=by
 intro h
 have e:Kf.K2.bW (Kf.K2.xi:F2)=kp 2:=by decide +kernel
 have h0:=pm2
 have h1:=Pr.tH p 381 2 _ Cm
 rw[e]at h
 generalize (p-1)/3=k at h h0 h1
 rw[mM,h,wm]at h1
 rw[h1]at h0
 exact absurd h0 (by decide)
theorem sL:Kf.T6.Tw p where
 p3:=p_3
 cu _ h:=Kf.K2.pK p_3 (by decide +kernel) (by decide +kernel) Mq h
 sq t h:=by
  have h1:Kf.K2.gv (Kf.K2.xi:F2)=true:=(Kf.K2.eY p_3).2 ⟨t,h⟩
  rw[Kf.K2.fC p_3,show Kf.K2.bW (Kf.K2.xi:F2)=kp 2 by decide +kernel,Uz]at h1
  exact absurd h1 (by decide)
 m6:=by decide +kernel
def m6:Nat:=(p-1)/6
theorem hm6:p=6*m6+1:=by decide +kernel
def gKp:Kf.K2.PN:=(0x1904d3bf02bb0667c231beb4202c0d1f0fd603fd3cbd5f4f7b2443d784bab9c4f67ea53d63e7813d8d0775ed92235fb8,0x00fc3e2b36c4e03288e9e902231f9fb854a14787b6c7b36fec0c8ec971f63c5f282d5ac14d6c7ec22cf78a126ddc4af3)
theorem Hj:gK=Kf.K2.red p gKp:=by decide +kernel
theorem Q7:Kf.K2.pgo p (1,1) m6 379 Kf.K2.vA=gKp:=by decide +kernel
theorem Hi:gK=Kf.K2.pw Kf.K2.xi m6:=by
 have h:=Kf.K2.R4 (n:=p) bY (1,1) (k:=m6) (f:=379) (by decide +kernel)
 rw[Q7,← Hj]at h
 rw[← h]
 congr 1
def gI:F2:=k2 877076961050607968509681729531255177986764537961432449499635504522207616027455086505066378536590128544573588734230 877076961050607968509681729531255177986764537961432449499635504522207616027455086505066378536590128544573588734230
theorem gK3:Kf.K2.pw (Kf.K2.mul (Kf.K2.conj gK) gK) 3=Kf.K2.neg (Kf.K2.one:F2):=by decide +kernel
theorem h3p:Kf.K2.pw (Kf.K2.mul (Kf.K2.conj (Kf.K2.pw Kf.K2.xi m6)) (Kf.K2.pw Kf.K2.xi m6)) 3=Kf.K2.neg (Kf.K2.one:F2):=by rw[← Hi];exact gK3
theorem rz:Kf.T12.Ps b2c c4 gK gI m6 where
 tw:=sL
 hb:=by decide +kernel
 n2:=no2
 n4:=n4
 nb:=F3
 hm:=hm6
 hg:=Hi
 gi:=by decide +kernel
 rc:=by decide +kernel
 h3:=h3p
def p6:Nat:=p*p*(p*p)*(p*p)
def aN:Nat:=V [10088250816726084267,4137836090706223446]
def nN:Nat:=(p*p+1)*(aN*(xN*p6+p)*(xN*xN+p*p+p6)+1)
def rN:Nat:=52435875175126190479447740508185965837690552500527637822603658699938581184513
theorem Ig:p*p*(p*p)*(p*p)+1∣nN*rN:=Nat.dvd_of_mod_eq_zero (by decide +kernel)
theorem HO:Kf.T12.kbs xB=xN:=by decide +kernel
theorem Ny:rN∣Kf.T12.kbs xB+p:=by rw[HO];exact Nat.dvd_of_mod_eq_zero (by decide +kernel)
attribute [local irreducible] Kf.T12.frb Kf.T12.mul Kf.T12.one Kf.T12.conj Kf.T12.inv
theorem pr2(a b:F12):bi [a,b]=Kf.T12.mul a b:=by
 show Kf.T12.mul (Kf.T12.mul Kf.T12.one a) b=_
 rw[Kf.T12.bj]
theorem pr3(a b c:F12):bi [a,b,c]=Kf.T12.mul (Kf.T12.mul a b) c:=by
 show Kf.T12.mul (Kf.T12.mul (Kf.T12.mul Kf.T12.one a) b) c=_
 rw[Kf.T12.bj]
theorem w9(x:F12):frI 1 x=CR.pw x p:=by
 rw[Kf.T12.rC sL hm6,← Hi];rfl
theorem G8(x:F12):frI 2 x=CR.pw x (p*p):=by
 rw[CR.bN,← w9,← w9];rfl
theorem BA(x:F12):Kf.T12.conj x=CR.pw x p6:=(Kf.T12.Oy sL hm6 h3p x).symm
def qH(g:F12):F12:=Kf.T12.mul (frI 2 g) g
def qB(a:F12):F12:=Kf.T12.mul (Kf.T12.conj (CR.pw a xN)) (frI 1 a)
def qC(b:F12):F12:=Kf.T12.mul (Kf.T12.mul (CR.pw (CR.pw b xN) xN) (frI 2 b)) (Kf.T12.conj b)
def w5(g:F12):F12:=Kf.T12.mul (qC (qB (CR.pw (qH g) aN))) (qH g)
theorem pwm(x:F12)(j k:Nat):Kf.T12.mul (CR.pw x j) (CR.pw x k)=CR.pw x (j+k):=(CR.dP x j k).symm
theorem U6(g:F12):qH g=CR.pw g (p*p+1):=by rw[qH,G8];rfl
theorem U4(a:F12):qB a=CR.pw a (xN*p6+p):=by rw[qB,BA,w9,← CR.bN,pwm]
theorem U5(b:F12):qC b=CR.pw b (xN*xN+p*p+p6):=by rw[qC,BA,G8,← CR.bN,pwm,pwm]
theorem BO(g:F12):w5 g=CR.pw g nN:=by
 rw[w5,U5,U4,U6,← CR.bN,← CR.bN]
 have e:nN=(p*p+1)*(aN*((xN*p6+p)*(xN*xN+p*p+p6)))+(p*p+1):=by
  unfold nN
  rw[Nat.mul_assoc aN,Nat.mul_add_one]
 rw[← CR.bN,pwm,e]
theorem QU(f:F12):fY f=w5 (Kf.T12.qq f):=by
 unfold fY D2 iW lH uT qG w5 qC qB qH
 rw[pr2,pr2,pr2,pr2,pr3];rfl
theorem GX(f:F12):fY f=Kf.T12.fin nN f:=by rw[QU,BO];rfl
end
section
attribute [local irreducible] Code.wp wpList Af bodyPost L.Go
open Num
def e4:Kf.K2.Pt p:=some (Kf.K2.red p e4x,Kf.K2.red p e4y)
theorem UL{M r L B:Nat}(h1:M∣L)(h2:r*r∣L)(hL:L≠0)(hB:L≤B)(h3:B<3*M)(a1:M%(r*r)≠0)(a2:M*2%(r*r)≠0):False:=by
 obtain⟨k,rfl⟩:=h1
 have hk:k<3:=by
  apply Classical.byContradiction
  intro hc
  have:=Nat.mul_le_mul_left M (Nat.le_of_not_lt hc)
  omega
 have hk0:k≠0:=by rintro rfl;exact hL (Nat.mul_zero M)
 have h4:=Nat.mod_eq_zero_of_dvd h2
 rcases(show k=1∨k=2 by omega)with rfl | rfl
 ·rw[Nat.mul_one]at h4;exact a1 h4
 ·exact a2 h4
theorem z5{Q:Kf.K2.Pt p}(h:Ok2 Q):∃i,Q=Kf.K2.tim e4 i:=by
 apply Classical.byContradiction
 intro hn
 obtain⟨L,hL,hlen⟩:=Kf.K2.IR p_3 b2c
 have h2:=Kf.K2.vK p_3 no2 oL h.1 (by intro h;cases h) Pr.pQ Lk h.2 (fun i _ e=>hn ⟨i,e⟩) L hL
 have h0:0<L.length:=List.length_pos_of_mem (hL.all (⟨none,trivial⟩:Kf.K2.Cu b2c))
 exact UL (Cr L hL) h2 (Nat.pos_iff_ne_zero.1 h0) hlen (by decide +kernel) (by decide +kernel) (by decide +kernel)
theorem C7:xN<2^64:=by decide +kernel
theorem WD:Kf.K2.tim e4 xN=Kf.K2.pn (Kf.K2.psi gI e4):=
 kA (Kf.K2.kW p_3 no2 NZ N0 oL C7 (by decide +kernel)) (by decide +kernel) (by decide +kernel) (by decide +kernel)
theorem Uc:Kf.T12.Eg b2c gI xB e4:=⟨oL,by rw[HO];exact WD⟩
theorem wY{Q:Kf.K2.Pt p}(h:Ok2 Q):Kf.T12.Eg b2c gI xB Q:=by
 obtain⟨i,rfl⟩:=z5 h
 exact Kf.T12.zD rz Uc i
def hbX:Kf.K2.PN:=(hbx.val,0)
def hbY:Kf.K2.PN:=(hby.val,0)
theorem th:bh=some (Kf.K2.red p hbX,Kf.K2.red p hbY):=by
 unfold bh em
 exact Kf.K2.bF (by decide +kernel) (by decide +kernel)
theorem dS:Kf.K2.Onc c4 bh:=show Kf.K2.mul (em hby) (em hby)=Kf.K2.add (Kf.K2.mul (Kf.K2.mul (em hbx) (em hbx)) (em hbx)) c4 by decide +kernel
theorem j7:Kf.K2.Rl bh:=show Kf.K2.conj (em hbx)=em hbx∧Kf.K2.conj (em hby)=em hby by decide +kernel
theorem dA:Kf.T12.Rp c4 bh:=⟨dS,j7⟩
theorem Va:rN<2^255:=by decide +kernel
theorem BY:Kf.K2.tim bh rN=none:=by
 have ho:=dS
 rw[th]at ho ⊢
 have:=Kf.K2.kW p_3 n4 (qx:=hbX) (qy:=hbY) (by unfold Kf.K2.ltP;decide +kernel) (by unfold Kf.K2.ltP;decide +kernel) ho Va (by decide +kernel)
 exact this.none_iff.1 (by decide +kernel)
theorem m0(k:Nat):Ok1 (Kf.K2.tim bh k):=
 ⟨Kf.K2.cW p_3 dS k,(Kf.T12.uy rz dA k).2,by
  show Kf.K2.tim _ rN=none
  rw[← Kf.K2.iE p_3 n4 dS,Nat.mul_comm,Kf.K2.iE p_3 n4 dS,BY,Kf.K2.f7]⟩
theorem iw{Q:Kf.K2.Pt p}(h:Ok2 Q)(k:Nat):Ok2 (Kf.K2.tim Q k):=
 ⟨Kf.K2.cW p_3 h.1 k,by rw[← Kf.K2.iE p_3 no2 h.1,Nat.mul_comm,Kf.K2.iE p_3 no2 h.1,h.2,Kf.K2.f7]⟩
theorem rp{Q R:Kf.K2.Pt p}(h:Ok2 Q)(k:Ok2 R):Ok2 (Kf.K2.pa Q R):=
 ⟨Kf.K2.di p_3 h.1 k.1,by rw[Kf.K2.wk p_3 no2 h.1 k.1,h.2,k.2];rfl⟩
def pr(P Q:Kf.K2.Pt p):F12:=Kf.T12.er nN xB P Q
def gP2:Kf.K2.PN:=(0,4002409555221667392624310435006688643935503118305586438271171395842971157480381377015405980053539358417135540939436)
def gP3:Kf.K2.PN:=(1028732146235106349975324479215795277384839936929757896155643118032610843298655225875571310552543014690878354869257,1028732146235106349975324479215795277384839936929757896155643118032610843298655225875571310552543014690878354869257)
def gP4:Kf.K2.PN:=(4002409555221667392624310435006688643935503118305586438271171395842971157480381377015405980053539358417135540939437,0)
def gP5:Kf.K2.PN:=(877076961050607968509681729531255177986764537961432449499635504522207616027455086505066378536590128544573588734230,3125332594171059424908108096204648978570118281977575435832422631601824034463382777937621250592425535493320683825557)
def Ae(x:Kf.T12.S12):Kf.T12.S12:=Kf.T12.Ha p gKp gP2 gP3 gP4 gP5 x
theorem ko(x:Kf.T12.S12):Kf.T12.bD p (Ae x)=frI 1 (Kf.T12.bD p x):=by
 have h:=Kf.T12.EO (n:=p) bY gKp gP2 gP3 gP4 gP5 (by decide +kernel) (by decide +kernel) (by decide +kernel) (by decide +kernel) x
 rw[← Hj]at h
 exact h
def IX(f:Kf.T12.S12):Kf.T12.S12:=Kf.T12.dV p (Ae (Ae f)) f
def ME(a:Kf.T12.S12):Kf.T12.S12:=Kf.T12.dV p (Kf.T12.qk p (Kf.T12.na p a xN 64 Kf.T12.jM)) (Ae a)
def MF(b:Kf.T12.S12):Kf.T12.S12:=Kf.T12.dV p (Kf.T12.dV p (Kf.T12.na p (Kf.T12.na p b xN 64 Kf.T12.jM) xN 64 Kf.T12.jM) (Ae (Ae b))) (Kf.T12.qk p b)
def nW(f:Kf.T12.S12):Kf.T12.S12:=
 (fun h=>Kf.T12.fO h ((fun a=>Kf.T12.fO a ((fun b=>Kf.T12.fO b (Kf.T12.dV p (MF b) h)) (ME a))) (Kf.T12.na p h aN 127 Kf.T12.jM))) (IX f)
theorem s7(f:Kf.T12.S12):nW f=Kf.T12.dV p (MF (ME (Kf.T12.na p (IX f) aN 127 Kf.T12.jM))) (IX f):=
 (Kf.T12.fy _ _).trans ((Kf.T12.fy _ _).trans (Kf.T12.fy _ _))
attribute [local irreducible] Kf.T12.frb Kf.T12.mul Kf.T12.one Kf.T12.conj Kf.T12.inv Kf.T12.dV Kf.T12.na Kf.T12.qk Ae
theorem G7(x:F12):frI 2 x=frI 1 (frI 1 x):=by rw[G8,w9,w9,CR.bN]
theorem TM:aN<2^127:=by decide +kernel
theorem I4(f:Kf.T12.S12):Kf.T12.bD p (IX f)=qH (Kf.T12.bD p f):=by
 rw[IX,qH,Kf.T12.de bY,ko,ko,G7]
theorem Se(f:Kf.T12.S12):Kf.T12.bD p (ME f)=qB (Kf.T12.bD p f):=by
 rw[ME,qB,Kf.T12.de bY,ko,Kf.T12.rD bY,Kf.T12.nl bY _ C7]
theorem Sf(f:Kf.T12.S12):Kf.T12.bD p (MF f)=qC (Kf.T12.bD p f):=by
 rw[MF,qC,Kf.T12.de bY,Kf.T12.de bY,ko,ko,G7,Kf.T12.rD bY,Kf.T12.nl bY _ C7,Kf.T12.nl bY _ C7]
theorem I3(f:Kf.T12.S12):Kf.T12.bD p (nW f)=w5 (Kf.T12.bD p f):=by
 rw[s7,w5,Kf.T12.de bY,Sf,Se,I4,← I4,Kf.T12.nl bY _ TM]
def HU:Kf.T12.MS:=Kf.T12.As p hbX hbY e4x e4y xB ⟨true,e4x,e4y,Kf.T12.jM⟩
theorem Rx:HU.g=true:=by decide +kernel
theorem Rw:Kf.K2.isz (nW HU.z).b=false:=by decide +kernel
theorem Vt{x:F2}(h:Kf.K2.neg x=x):x=Kf.K2.zero:=by
 apply Classical.byContradiction
 intro hx
 have h2:=Kf.K2.ge p_3 hx
 apply h2
 have h3:=Kf.K2.add_neg' x
 rw[h]at h3
 exact h3
theorem wQ(x:F12):∀k,Kf.T12.conj (CR.pw x k)=CR.pw (Kf.T12.conj x) k
 | 0=>Kf.T12.fW
 | k+1=>by
  have h:=wQ x k
  show Kf.T12.conj (Kf.T12.mul (CR.pw x k) x)=_
  rw[Kf.T12.aY,h];rfl
theorem Aa{m:F12}(hm:m≠Kf.T12.zero)(h:Kf.T12.fin nN (Kf.T12.conj m)=Kf.T12.one):Kf.T12.conj (w5 m)=w5 m:=by
 have hc:=Kf.T12.jm sL hm
 have e:Kf.T12.mul (Kf.T12.qq (Kf.T12.conj m)) (Kf.T12.conj m)=m:=by
  rw[Kf.T12.qq,Kf.T12.ew,Kf.T12.mul_assoc',Kf.T12.mul_comm' (Kf.T12.inv _),Kf.T12.aI sL hc,Kf.T12.am]
 rw[BO,wQ]
 have e2:=CR.ef (Kf.T12.qq (Kf.T12.conj m)) (Kf.T12.conj m) nN
 change CR.pw (Kf.T12.mul (Kf.T12.qq (Kf.T12.conj m)) (Kf.T12.conj m)) nN=Kf.T12.mul (Kf.T12.fin nN (Kf.T12.conj m)) _ at e2
 rw[e,h,Kf.T12.bj]at e2
 exact e2.symm
theorem L0:(Kf.T12.mil bh e4 xB).1=Kf.T12.bD p HU.z:=by
 rw[th]
 exact Kf.T12.HX p_3 Rx
theorem Ia{N:Nat}(h0:0<N)(x y:Kf.T12.S12):Kf.K2.ltP N (Kf.T12.dV N x y).b:=by unfold Kf.T12.dV;exact Kf.K2.Aq h0 _ _
theorem D3(f:Kf.T12.S12):Kf.K2.ltP p (nW f).b:=by
 rw[s7]
 exact Ia bY _ _
theorem Ow:pr bh e4≠Kf.T12.one:=by
 intro h
 have hm:(Kf.T12.mil bh e4 xB).1≠Kf.T12.zero:=(Kf.T12.vk rz dS oL xB).1
 have h1:=Aa hm h
 rw[L0,← I3]at h1
 have h2:Kf.K2.neg (Kf.K2.red p (nW HU.z).b)=Kf.K2.red p (nW HU.z).b:=by
  have:=congrArg (fun z:F12=>z.b.a) h1
  unfold Kf.T12.conj Kf.T12.bD Kf.T6.neg at this
  exact this
 have h3:=(Kf.K2.dY (D3 _)).2 (Vt h2)
 rw[Rw]at h3
 cases h3
end
section
attribute [local irreducible] Code.wp wpList Af bodyPost L.Go
open Num
attribute [local irreducible] Kf.T12.frb Kf.T12.mul Kf.T12.one Kf.T12.conj Kf.T12.inv CR.pw bi
theorem IV{y:F12}(hy:y≠Kf.T12.one)(hr:CR.pw y rN=Kf.T12.one){i j:Nat}(h:CR.pw y i=CR.pw y j):i%rN=j%rN:=by
 have hs:i*(rN-1)+i=rN*i:=by
  have:rN-1+1=rN:=by decide +kernel
  rw[← Nat.mul_add_one,this,Nat.mul_comm]
 have h1:CR.pw y (j+i*(rN-1))=Kf.T12.one:=by
  rw[← pwm,← h,pwm,Nat.add_comm,hs,CR.bN,hr,Kf.T12.ek]
 obtain⟨t,ht⟩:=Kf.T12.IU Pr.pQ hr hy h1
 change j+i*(rN-1)=rN*t at ht
 have h2:j+rN*i=i+rN*t:=by
  omega
 have h3:=congrArg (· % rN) h2
 simp only[Nat.add_mul_mod_self_left]at h3
 exact h3.symm
theorem CV{b:F2}(h2:Kf.K2.No2 b){Q:Kf.K2.Pt p}(ho:Kf.K2.Onc b Q)(hr:Kf.K2.tim Q rN=none)(i:Nat):Kf.K2.tim Q i=Kf.K2.tim Q (i%rN):=by
 have h:rN*(i/rN)+i%rN=i:=Nat.div_add_mod _ _
 have h1:Kf.K2.tim Q (rN*(i/rN)+i%rN)=Kf.K2.tim Q (i%rN):=by
  rw[Kf.K2.fj p_3 h2 ho,Kf.K2.iE p_3 h2 ho,hr,Kf.K2.f7];rfl
 rw[h]at h1
 exact h1
theorem yN{b:F2}(h2:Kf.K2.No2 b){Q:Kf.K2.Pt p}(ho:Kf.K2.Onc b Q)(hr:Kf.K2.tim Q rN=none){i j:Nat}(h:i%rN=j%rN):Kf.K2.tim Q i=Kf.K2.tim Q j:=by
 rw[CV h2 ho hr i,h,← CV h2 ho hr j]
theorem UY{P Q:Kf.K2.Pt p}(hP:Kf.T12.Rp c4 P)(hQ:Ok2 Q):CR.pw (pr P Q) rN=Kf.T12.one:=Kf.T12.WE rz Ig hP.1 hQ.1
theorem vF{P Q:Kf.K2.Pt p}(hP:Kf.T12.Rp c4 P)(hQ:Ok2 Q)(k:Nat):pr P (Kf.K2.tim Q k)=CR.pw (pr P Q) k:=Kf.T12.BK rz Ig Ny hP (wY hQ) k
theorem Cp{P Q:Kf.K2.Pt p}(hP:Kf.T12.Rp c4 P)(hQ:Ok2 Q)(k:Nat):pr (Kf.K2.tim P k) Q=CR.pw (pr P Q) k:=Kf.T12.BJ rz Ig Ny hP (wY hQ) k
theorem Mt{P Q R:Kf.K2.Pt p}(hP:Kf.T12.Rp c4 P)(hQ:Ok2 Q)(hR:Ok2 R):pr P (Kf.K2.pa Q R)=Kf.T12.mul (pr P Q) (pr P R):=Kf.T12.BI rz Ig Ny hP (wY hQ) (wY hR)
theorem ro:Ok2 e4:=⟨oL,Lk⟩
theorem RZ{S T:Kf.K2.Pt p}(hS:Ok2 S)(hT:Ok2 T)(h:pr bh S=pr bh T):S=T:=by
 obtain⟨i,rfl⟩:=z5 hS
 obtain⟨j,rfl⟩:=z5 hT
 rw[vF dA ro,vF dA ro]at h
 exact yN no2 oL Lk (IV Ow (UY dA ro) h)
theorem Mu(P:Kf.K2.Pt p):pr P none=Kf.T12.one:=Kf.T12.Oa rz P
theorem xL:Ok2 none:=⟨trivial,Kf.K2.f7 _⟩
theorem F4{i j:Nat}(h:Kf.K2.tim bh i=Kf.K2.tim bh j):i%rN=j%rN:=by
 have h2:=congrArg (fun P=>pr P e4) h
 simp only[Cp dA ro]at h2
 exact IV Ow (UY dA ro) h2
theorem JK{H K:Kf.K2.Pt p}(hH:Ok2 H)(hK:Ok2 K){k:Nat}(hk:¬rN∣k)(h:Kf.K2.tim H k=Kf.K2.tim K k):H=K:=by
 obtain⟨t,ht⟩:=Pr.AG.u4 Pr.pQ hk
 have h1:∀{Q:Kf.K2.Pt p},Ok2 Q→Kf.K2.tim (Kf.K2.tim Q k) t=Q:=fun hQ=>by
  rw[← Kf.K2.iE p_3 no2 hQ.1,yN no2 hQ.1 hQ.2 (j:=1) (show k*t%rN=1%rN from ht.trans (by decide +kernel))];rfl
 rw[← h1 hH,← h1 hK,h]
def prs:List (Kf.K2.Pt p)→List (Kf.K2.Pt p)→F12
 | P::ps,Q::qs=>Kf.T12.mul (pr P Q) (prs ps qs)
 | _,_=>Kf.T12.one
theorem w6:∀(ps qs:List (Kf.K2.Pt p))(f:F12),f≠Kf.T12.zero→(∀P∈ps,Kf.T12.Rp c4 P)→(∀Q∈qs,Ok2 Q)→Kf.T12.fin nN (dU ps qs f)=Kf.T12.mul (Kf.T12.fin nN f) (prs ps qs)
 | [],_,_,_,_,_=>(Kf.T12.am _).symm
 | _::_,[],_,_,_,_=>(Kf.T12.am _).symm
 | P::ps,Q::qs,f,hf,hP,hQ=>by
  have hm:=Kf.T12.jm sL (Kf.T12.vk rz (hP P (by simp)).1 (hQ Q (by simp)).1 xB).1
  rw[dU,pr2,w6 ps qs _ (Kf.T12.bQ sL hf hm) (fun P h=>hP P (by simp[h])) (fun Q h=>hQ Q (by simp[h])),Kf.T12.dq sL hf hm,Kf.T12.mul_assoc'];rfl
def wi:List (Nat×Kf.K2.Pt p)→Kf.K2.Pt p
 | []=>none
 | (a,H)::l=>Kf.K2.pa (Kf.K2.tim H a) (wi l)
theorem wj:∀{l:List (Nat×Kf.K2.Pt p)},(∀x∈l,Ok2 x.2)→Ok2 (wi l)
 | [],_=>xL
 | (a,H)::_,h=>rp (iw (h (a,H) (by simp)) a) (wj fun x hx=>h x (by simp[hx]))
theorem Cq(S:Kf.K2.Pt p):∀(l:List (Nat×Kf.K2.Pt p)),(∀x∈l,Ok2 x.2) →
  prs (l.map (fun x=>Kf.K2.tim bh x.1)++[Kf.K2.pn bh]) (l.map (fun x=>x.2)++[S])=Kf.T12.mul (pr bh (wi l)) (pr (Kf.K2.pn bh) S)
 | [],_=>by
  show Kf.T12.mul (pr _ S) Kf.T12.one=_
  rw[wi,Mu,Kf.T12.am,Kf.T12.bj]
 | (a,H)::l,h=>by
  have hH:Ok2 H:=h (a,H) (by simp)
  have hl:=fun x hx=>h x (List.mem_cons_of_mem _ hx)
  show Kf.T12.mul (pr (Kf.K2.tim bh a) H) (prs (l.map _++_) (l.map _++_))=_
  rw[Cq S l hl,wi,Mt dA (iw hH a) (wj hl),Cp dA hH,vF dA hH,Kf.T12.mul_assoc']
theorem UW:Kf.T12.Rp c4 (Kf.K2.pn bh):=⟨Kf.K2.cF dS,Kf.K2.FS j7⟩
theorem pk0:bi []=(Kf.T12.one:F12):=by unfold bi;rfl
theorem yR{l:List (Nat×Kf.K2.Pt p)}(h:∀x∈l,Ok2 x.2){S:Kf.K2.Pt p}(hS:Ok2 S):
  fY (dU (l.map (fun x=>Kf.K2.tim bh x.1)++[Kf.K2.pn bh]) (l.map (fun x=>x.2)++[S]) (bi []))=Kf.T12.one↔S=wi l:=by
 rw[GX,w6 _ _ _ (by rw[pk0];exact Kf.T12.cH sL),Cq S l h,pk0,Kf.T12.eX sL,Kf.T12.bj]
 ·have hi:Kf.T12.mul (pr (Kf.K2.pn bh) S) (pr bh S)=Kf.T12.one:=Kf.T12.QN rz Ig Ny dA (wY hS)
  constructor
  ·intro e
   refine RZ hS (wj h) ?_
   rw[← Kf.T12.bj (pr bh S),← e,Kf.T12.mul_assoc',hi,Kf.T12.am]
  ·intro e
   rw[← e,Kf.T12.mul_comm',hi]
 ·intro P hP
  rcases List.mem_append.1 hP with hP | hP
  ·obtain⟨x,_,rfl⟩:=List.mem_map.1 hP
   exact Kf.T12.uy rz dA x.1
  ·rw[List.mem_singleton.1 hP];exact UW
 ·intro Q hQ
  rcases List.mem_append.1 hQ with hQ | hQ
  ·obtain⟨x,hx,rfl⟩:=List.mem_map.1 hQ
   exact h x hx
  ·rw[List.mem_singleton.1 hQ];exact hS
end
section
attribute [local irreducible] Code.wp wpList Af bodyPost L.Go
open Num
attribute [local simp] ae aD
theorem xT{a:Nat}(ha:a<W^6):Spec Tryz.prog 119 [LV .u64 (D 6 a)] ai [] (IsV (LV .u8 (bz (a%p) 48))):=by
 refine ad Tryz.func119 rfl rfl rfl fun w _=>?_
 have hla:=ae 6 a
 have hl1:=ae 6 (a%p)
 have hol:=aD (a%p) 48
 have hv:=eU (oO a)
 have htk:(bz (a%p) 48).take 48=bz (a%p) 48:=List.take_of_length_le (by omega)
 repeat (first|refine aq (v:=LV .u8 (List.replicate 48 0)) (by rfl) (by rfl) fun _=>?_|refine y_4 (bS ha) ?_|((refine aw (by rfl) (by rfl) (by rfl) (oS _ (D 6 (a%p)) 48 (dw _ _) (by omega) (by decide)) .nil (RdW.arrAll (m:=6) fd hl1) (by rfl) ?_;rintro u _ rfl);rw[hv])|rw[htk]|refine V7 ?_|refine Z81 fun _=>?_|refine Z82 fun _=>?_)
 refine Zec fun _ hw=>aa hw SubW.nil ⟨?_,rfl⟩
 rfl
theorem AI(s:Value)(bs:List Nat)(hb:Lt 256 bs)(h:bs.length=48)(hlt:bC bs<p):
  Spec Tryz.prog 93 [s] (fun w=>Rd w s (bs.map (N .u8))) [] (IsV (.tuple #[LV .u64 (D 6 (bC bs)),N .i64 0])):=by
 refine ad Tryz.func93 rfl rfl rfl fun w hr=>?_
 have hr:=RdC.mk0 hr
 have hdl:=ae 6 (bC bs)
 have hfit:=kX hb
 rw[h,show(48+7)/8=6 from rfl]at hfit
 have hdm:=ae 6 (bC bs%p)
 have htk:(D 6 (bC bs)).take 6=D 6 (bC bs):=List.take_of_length_le (by omega)
 have he:(!decide (D 6 (bC bs%p)=D 6 (bC bs)))=false:=by rw[Nat.mod_eq_of_lt hlt];simp
 repeat (first|(refine cJ ?_;intro _)|refine y_5 ?_|((refine aw (by rfl) (by rfl) (by rfl) (ie s bs hb (by omega)) .nil (RdW.old hr) (by rfl) ?_;rintro u _ rfl);rw[h,show(48+7)/8=6 from rfl])|rw[htk]|refine ND ?_|refine Z82 fun _=>?_)
 refine R.af [0,1,2,3] (by rfl) ?_
 repeat (first|(refine R.Zpf (by rfl) (by intro _ _ _;(first|refine V8 ?_);exact Zq) ?_)|refine V9 ?_|refine ag (bS hfit) ?_|refine aA ?_|(refine Bj ?_;intro _))
 refine R.Zp0 ?_
 repeat (first|rw[he]|refine ND ?_|refine Z82 fun _=>?_)
 refine aJ (by rfl) (by rfl) (by rfl) fd (by rfl) (by rfl) (by first | with_reducible assumption | (simp[*];done)) fun _ hw=>aa hw SubW.nil ⟨?_,rfl⟩
 rfl
end
section
attribute [local irreducible] Code.wp wpList Af bodyPost L.Go ab
open Num
attribute [local simp] ae aD
def Q6s(l:List Fq):List (List Nat):=l.map Q6
theorem fN(l:List Fq):∀v∈Q6s l,v.length=6:=by
 intro v hv
 obtain⟨x,_,rfl⟩:=List.mem_map.1 hv
 exact ae _ _
def fbs(l:List Fq):List Nat:=(l.map fun x=>bz x.val 48).flatten
theorem mF(l:List Fq):(fbs l).length=48*l.length:=by
 unfold fbs
 induction l with
 | nil=>rfl
 | cons x r ih=>rw[List.map_cons,List.flatten_cons,List.length_append,aD,ih,List.length_cons];omega
theorem Uk{l:List Fq}{i:Nat}{x:Fq}(h:l[i]?=some x):fbs (l.take i)++bz x.val 48=fbs (l.take (i+1)):=by
 rw[List.take_add_one,h]
 simp[fbs,Option.toList]
theorem Mg(x:Fq):Spec Tryz.prog 119 [LV .u64 (Q6 x)] ai [] (IsV (LV .u8 (bz x.val 48))):=by
 have h:=xT (a:=x.val) (Nat.lt_trans x.isLt lQ)
 rwa [Nat.mod_eq_of_lt x.isLt]at h
attribute [local irreducible] fbs Q6s
theorem Dl{a b:Prop}(k:b)(h:Rm b→a:=by intro k;(first|refine Z01 ?_|refine Z02 ?_|refine Z03 ?_|refine Z04 ?_|refine Z05 ?_|refine Z06 ?_|refine Z07 ?_|refine Z08 ?_|refine Z09 ?_|refine Z10 ?_|refine Z11 ?_|refine Z12 ?_|refine Z13 ?_|refine Z14 ?_|refine Z15 ?_|refine Z17 ?_|refine Z18 ?_|refine Z20 ?_|refine Z21 ?_|refine Z22 ?_|refine Z23 ?_|refine Z24 ?_|refine Z26 ?_|refine Z27 ?_|refine Z29 ?_|refine Z30 ?_|refine Z31 ?_|refine Z32 ?_|refine Z62 ?_|refine Z63 ?_|refine Z67 ?_);exact k.h):a:=h ⟨k⟩
set_option maxHeartbeats 2000000 in
theorem oN(s:Value)(xs:List Fq)(hl:xs.length<1000):Spec Tryz.prog 65 [s] (fun w=>Rd w (wide 6 s) ((Q6s xs).flatten.map (N .u64))) []
  (fun v Wr=>Wr=[.sl v ((fbs xs).map (N .u8)) 5]):=by
 refine ad Tryz.func65 rfl rfl rfl fun w hr=>?_
 have h1:=RdC.mk0 hr
 have hE:=fN xs
 have el:(Q6s xs).length=xs.length:=by unfold Q6s;simp
 have hxl:((Q6s xs).flatten.map (N .u64)).length=xs.length*6:=by rw[List.length_map,fx hE,el]
 have e0:fbs (xs.take 0)=[]:=by unfold fbs;rfl
 repeat (first|refine hJ (m:=6) (k:=xs.length) (s:=s) (by rfl) (by rfl) (RdW.old h1) (by decide) hxl (by rfl) ?_|refine Dl ?_|refine Z82 fun _=>?_|refine Z84 fun _=>?_)
 refine jH 5 ?_
 refine ay (ι:=Nat×Value) (fun q=>q.1≤xs.length) (fun q=>[(6,s),(7,N .i64 xs.length),(8,N .i64 q.1),(2,q.2)]) (fun q=>[.sl q.2 ((fbs (xs.take q.1)).map (N .u8)) 5]) (fun q=>xs.length-q.1) (0,.slice none 0 0) (by simp) sbq (by rw[e0];exact sw) ?_
 rintro⟨i,v⟩ hi
 simp only at hi ⊢
 repeat (first|refine Dl ?_|refine Z82 fun _=>?_|refine Z84 fun _=>?_)
 refine an (by rfl) (fun h=>?_) (fun h=>?_)
 ·obtain⟨x,hx⟩:∃x,xs[i]?=some x:=⟨_,List.getElem?_eq_getElem h⟩
  have hz:(Q6s xs)[i]?=some (Q6 x):=by unfold Q6s;rw[List.getElem?_map,hx];rfl
  have hs:=Uk hx
  have hol:=aD x.val 48
  have hlen:(fbs (xs.take i)).length<100000:=by rw[mF,List.length_take];omega
  repeat (first|(refine cJ ?_;intro _)|refine aq (v:=LV .u8 (List.replicate 48 0)) (by rfl) (by rfl) fun _=>?_|refine fh (m:=6) (s:=s) (i:=i) (k:=xs.length) (by rfl) (by rfl) (by rfl) (by rfl) (RdW.old h1) (by decide) hxl h (by rfl) ?_|refine eJ (m:=6) (s:=wide 6 s) (i:=i) (by rfl) (by rfl) (by rfl) (RdW.old h1) hE hz (by decide) (by rfl) ?_|refine y_4 (Mg x) ?_|(refine g6 (xs:=fbs (xs.take i)) (ys:=bz x.val 48) (kk:=.u8) (by rfl) (by rfl) fd (RdW.arrAll (m:=48) fd hol) (by rfl) (by rfl) (by rfl) (by rfl) (by rw[hol];omega) (by rw[hol];omega) (by rfl) fun _=>?_)|refine Dl ?_|refine Z82 fun _=>?_|refine Z84 fun _=>?_)
  rw[hs]
  rename_i v2
  exact ao (i+1,v2) (by simp only;omega) (by simp only;omega) sbq sw
 ·have hi':i=xs.length:=by omega
  subst hi'
  rw[List.take_length]
  repeat (first|refine Dl ?_|refine Z82 fun _=>?_|refine Z84 fun _=>?_)
  exact Ze1 fun _ hw=>aa hw (Wout:=[.sl v ((fbs xs).map (N .u8)) 5]) (by exact sw) rfl
def flg(is:Bool)(f:Nat)(xs:List Nat):List Nat:=if is then xs.set 0 (xs.getD 0 0 ||| f)else xs
theorem O8{a b:Prop}(k:b)(h:Rm b→a:=by intro k;(first|refine Z01 ?_|refine Z03 ?_|refine Z04 ?_|refine Z05 ?_|refine Z06 ?_|refine Z07 ?_|refine Z08 ?_|refine Z09 ?_|refine Z10 ?_|refine Z11 ?_|refine Z12 ?_|refine Z13 ?_|refine Z14 ?_|refine Z22 ?_|refine Z23 ?_|refine Z24 ?_|refine Z26 ?_|refine Z27 ?_|refine Z29 ?_|refine Z30 ?_|refine Z31 ?_|refine Z32 ?_|refine Z41 ?_|refine Z67 ?_);exact k.h):a:=h ⟨k⟩
set_option maxHeartbeats 2000000 in
theorem rI(is:Bool){f:Nat}(hf:f<256)(s:Value)(xs:List Nat)(hx:0<xs.length)(hb:Lt 256 xs)(bb:Nat)(U:TypeId)(hs:s.oneCell'=true):
  Spec Tryz.prog 120 [.bool is,N .u8 f,pt bb 0] ai [.blk bb s U,.sl s (xs.map (N .u8)) 5]
   (fun v Wr=>v = .tuple #[]∧Wr=[.blk bb s U,.sl s ((flg is f xs).map (N .u8)) 5]):=by
 refine ad Tryz.func120 rfl rfl rfl fun w _=>?_
 cases is with
 | false=>
  repeat (first|refine O8 ?_)
  refine gB (by rfl) fun _ hw=>aa hw (Wout:=[.blk bb s U,.sl s (xs.map (N .u8)) 5]) (by exact sw) ⟨rfl,rfl⟩
 | true=>
  have h0:xs.getD 0 0<256:=hb.getD (by decide) 0
  repeat (first|refine fF (by rfl) fd hs (by rfl) (by rfl) ?_|refine O8 ?_)
  rw[Nat.mod_eq_of_lt h0,Nat.mod_eq_of_lt hf]
  refine gB (by rfl) fun _ hw=>aa hw (Wout:=[.blk bb s U,.sl s ((flg true f xs).map (N .u8)) 5]) (by exact sw) ⟨rfl,rfl⟩
theorem gu(is:Bool)(f:Nat)(xs:List Nat):(flg is f xs).length=xs.length:=by
 unfold flg
 cases is <;> simp
theorem Ad{is:Bool}{f:Nat}(hf:f<256){xs:List Nat}(h:Lt 256 xs):Lt 256 (flg is f xs):=by
 unfold flg
 cases is with
 | false=>exact h
 | true=>exact h.set (Nat.or_lt_two_pow (n:=8) (h.getD (by decide) 0) hf) 0
def sC(inf big:Bool)(xs:List Nat):List Nat:=flg (big && !inf) 32 (flg inf 64 (flg true 128 xs))
theorem Gh{s:Value}(h:s.oneCell'=true)(k:Nat):(cut3 s k).oneCell'=true:=by
 unfold cut3
 cases s <;> first | rfl | exact h
attribute [local irreducible] flg
theorem Kh{a b:Prop}(k:b)(h:Rm b→a:=by intro k;(first|refine Z01 ?_|refine Z02 ?_|refine Z03 ?_|refine Z04 ?_|refine Z05 ?_|refine Z06 ?_|refine Z07 ?_|refine Z08 ?_|refine Z09 ?_|refine Z10 ?_|refine Z11 ?_|refine Z12 ?_|refine Z13 ?_|refine Z14 ?_|refine Z20 ?_|refine Z21 ?_|refine Z24 ?_|refine Z26 ?_|refine Z27 ?_|refine Z29 ?_|refine Z30 ?_|refine Z31 ?_|refine Z32 ?_|refine Z37 ?_|refine Z48 ?_|refine Z49 ?_|refine Z50 ?_|refine Z51 ?_|refine Z52 ?_|refine Z54 ?_|refine Z62 ?_|refine Z63 ?_|refine Z67 ?_);exact k.h):a:=h ⟨k⟩
set_option maxHeartbeats 2000000 in
theorem mG(inf big:Bool)(s:Value)(xs:List Nat){k:Nat}(hk:xs.length=2*k)(h0:0<k)(h1:k<1000)(hb:Lt 256 xs):
  Spec Tryz.prog 66 [s,.bool true,.bool inf,.bool big] ai [.sl s (xs.map (N .u8)) 5]
   (fun v Wr=>Wr=[.sl v ((sC inf big (xs.take k)).map (N .u8)) 5]):=by
 refine ad Tryz.func66 rfl rfl rfl fun w _=>?_
 refine iz (p:=s.oneCell'=true) (fun w hw=>(RdW.own (W:=[.sl s (xs.map (N .u8)) 5]) Find.here w hw).one) fun hs=>?_
 have hs2:=Gh hs k
 have hl1:(xs.take k).length=k:=by rw[List.length_take];omega
 have hb1:Lt 256 (xs.take k):=hb.take k
 have c1:=rI true (f:=128) (by decide) (cut3 s k) (xs.take k) (by omega) hb1
 have c2:=rI inf (f:=64) (by decide) (cut3 s k) (flg true 128 (xs.take k)) (by rw[gu];omega) (Ad (by decide) hb1)
 have c3:=rI (big && !inf) (f:=32) (by decide) (cut3 s k) (flg inf 64 (flg true 128 (xs.take k))) (by rw[gu,gu];omega) (Ad (by decide) (Ad (by decide) hb1))
 have hq:xs.length/2=k:=by omega
 repeat (first|refine fF (by rfl) fd hs (by rfl) (by rfl) ?_|rw[hq]|(refine oB (k:=k) (by rfl) (by rfl) (by rfl) (RdW.own fd) (by rfl) (by rfl) (by simp;omega) (by rfl) ?_)|refine ic (by rfl) (by rfl) fd hs hs2 (by rfl) ?_|refine Kh ?_|refine Z81 fun _=>?_)
 rename_i b4
 refine yG (s:=s) (xs:=xs.map (N .u8)) k fd (by simp;omega) ?_
 rw[← List.map_take]
 have d1:=c1 b4 23 hs2
 have d2:=c2 b4 23 hs2
 have d3:=c3 b4 23 hs2
 repeat (first|(refine aw (by rfl) (by rfl) (by rfl) d1 (.cons fd (.cons fd .nil)) (fun _ _=>trivial) (by rfl) ?_;rintro _ _ ⟨rfl,rfl⟩)|(refine aw (by rfl) (by rfl) (by rfl) d2 (.cons fd (.cons fd .nil)) (fun _ _=>trivial) (by rfl) ?_;rintro _ _ ⟨rfl,rfl⟩)|refine Kh ?_|refine Z81 fun _=>?_)
 clear c1 c2 c3 d1 d2
 cases big <;> cases inf
 all_goals
  repeat (first|(refine aw (by rfl) (by rfl) (by rfl) d3 (.cons fd (.cons fd .nil)) (fun _ _=>trivial) (by rfl) ?_;rintro _ _ ⟨rfl,rfl⟩)|refine fF (by rfl) fd hs2 (by rfl) (by rfl) ?_|refine Kh ?_|refine Z81 fun _=>?_)
  exact Ze1 fun _ hw=>aa hw (Wout:=[.sl (cut3 s k) ((sC _ _ (xs.take k)).map (N .u8)) 5]) (by exact sw) rfl
end
end Go.Proofs.YtndhfbecpghinaaGreat.L
