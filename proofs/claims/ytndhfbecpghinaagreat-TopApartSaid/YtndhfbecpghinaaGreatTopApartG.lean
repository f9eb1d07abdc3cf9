/- What the proof of the statement about TopApart stands on, part G. Conditions: as each statement says. -/
import Derived.Test.YtndhfbecpghinaaGreatTopApartF
import Derived.Test.YtndhfbecpghinaaGreatProg
namespace Go.Proofs.YtndhfbecpghinaaGreat.L
open Go Go.Proofs
set_option maxRecDepth 100000
section
attribute [local irreducible] Code.wp wpList Af bodyPost L.Go ab
open Num
attribute [local simp] ae
section
variable {P:Program} {c:Cx} {n:Nn} {l:Sl} {W:List Res} {ops:Array Oper} {Q:Exit→Act→World→Prop} {rest:List Oper}
variable {d:Nat} {T:TypeId} {pos:String} {after:Array Edge}
end
def hu(m d:List Nat)(i:Nat):F2:=k2 (bA (((fm m d (128*2)).drop (128*i)).take 64)) (bA ((((fm m d (128*2)).drop (128*i)).take 128).drop 64))
theorem Rb(m d:List Nat)(i:Nat):fel ((fm m d (128*2)).drop (128*i))=E2 (hu m d i):=BZ _
theorem VB(x y:F2):Spec Tryz.prog 22 [LV .u64 (E2 x),LV .u64 (E2 y)] ai [] (IsV (GV (g8 x y))):=by
 have:=Ff (ap x.re) (ap x.im) (ap y.re) (ap y.im);rwa [br,br]at this
set_option maxHeartbeats 8000000 in
theorem LO(s1 s2:Value)(m d:List Nat)(hm:Lt 256 m)(hd:Lt 256 d)(hl1:m.length<1073741824)(h1:1≤d.length)(h2:d.length≤255):
  Spec Tryz.prog 9 [s1,s2] (fun w=>Rd w s1 (m.map (N .u8))∧Rd w s2 (d.map (N .u8))) [] (IsV (.tuple [GV (g8 (hu m d 0) (hu m d 1)),N .i64 0].toArray)):=by
 refine ad Tryz.func9 rfl rfl rfl fun w hr=>?_
 have hr1:=RdC.mk0 hr.1
 have hr2:=RdC.mk0 hr.2
 have hl0:=fun x=>ae 6 x
 have hle:=fun x:F2=>ak x
 have hs:=VB (hu m d 0) (hu m d 1)
 have hfl:(((j1 (fm m d (128*2)) 2).flatten).map (N .u64)).length=2*12:=by rw[List.length_map,sY,j2]
 have g0:=qE (fm m d (128*2)) (k:=2) (i:=0) (by decide)
 have g1:=qE (fm m d (128*2)) (k:=2) (i:=1) (by decide)
 rw[Rb]at g0 g1
 have hE:=sX (fm m d (128*2)) 2
 obtain⟨x1,y1,i1,hq⟩:∃x1 y1 i1,GV (g8 (hu m d 0) (hu m d 1))=GE x1 y1 i1:=⟨_,_,_,rfl⟩
 rw[hq]at hs ⊢
 generalize hu m d 0=u at *
 generalize hu m d 1=v at *
 repeat (first|(refine ct ?_;intro _)|(refine ax (by rfl) (by rfl) (by rfl) (Eh s1 s2 m d 2 hm hd hl1 h1 h2 (by decide) (by decide)) .nil (fun w hw=>⟨RdW.old hr1 w hw,RdW.old hr2 w hw⟩) (by rfl) ?_;rintro _ _ ⟨x,rfl,rfl⟩)|refine y_5 ?_|refine Z01 ?_|refine Z02 ?_|refine Z03 ?_|refine Z04 ?_|refine Z05 ?_|refine Z06 ?_|refine Z07 ?_|refine Z08 ?_|refine Z09 ?_|refine Z10 ?_|refine Z11 ?_|refine Z12 ?_|refine Z13 ?_|refine Z14 ?_|refine Z17 ?_|refine Z18 ?_|refine Z19 ?_|refine Z22 ?_|refine Z23 ?_|refine Z24 ?_|refine Z26 ?_|refine Z27 ?_|refine Z29 ?_|refine Z30 ?_|refine Z31 ?_|refine Z32 ?_|refine Z67 ?_|refine Z82 fun _=>?_)
 generalize j1 (fm m d (128*2)) 2=L at *
 refine R.ag [0,1,2,3,4,5,6,7,8] (by rfl) ?_
 repeat (first|(refine R.Zpf (by rfl) (by intro _ _ _;(first|refine Z01 ?_|refine Z02 ?_|refine Z17 ?_|refine Z18 ?_|refine Z19 ?_|refine Z22 ?_|refine Z23 ?_);exact Zq) ?_)|(refine R.Zpp (by rfl) (by intro _ _ _;(first|refine TE ?_);exact Zq) ?_)|(refine R.Zpp (by rfl) (by intro _ _ _;(refine fh (m:=12) (s:=x) (i:=0) (k:=2) (kk:=.i64) (by rfl) (by rfl) (by rfl) (by rfl) (RdW.own fd) (by decide) hfl (by decide) (by rfl) ?_);exact Zq) ?_)|(refine R.Zpp (by rfl) (by intro _ _ _;(refine fh (m:=12) (s:=x) (i:=1) (k:=2) (kk:=.i64) (by rfl) (by rfl) (by rfl) (by rfl) (RdW.own fd) (by decide) hfl (by decide) (by rfl) ?_);exact Zq) ?_)|(refine R.Zpp (by rfl) (by intro _ _ _;(refine eI (m:=12) (s:=wide 12 x) (i:=0) (by rfl) (by rfl) (by rfl) (RdW.own fd) hE g0 (by decide) (by rfl) ?_);exact Zq) ?_)|(refine R.Zpp (by rfl) (by intro _ _ _;(refine eI (m:=12) (s:=wide 12 x) (i:=1) (by rfl) (by rfl) (by rfl) (RdW.own fd) hE g1 (by decide) (by rfl) ?_);exact Zq) ?_)|refine ah hs ?_|refine ge ?_|(refine Bw ?_;intro _))
 refine R.Zp0 ?_
 repeat (first|refine Z01 ?_|refine Z02 ?_|refine Z03 ?_|refine Z04 ?_|refine Z05 ?_|refine Z06 ?_|refine Z07 ?_|refine Z08 ?_|refine Z09 ?_|refine Z10 ?_|refine Z11 ?_|refine Z12 ?_|refine Z13 ?_|refine Z14 ?_|refine Z17 ?_|refine Z18 ?_|refine Z19 ?_|refine Z22 ?_|refine Z23 ?_|refine Z24 ?_|refine Z26 ?_|refine Z27 ?_|refine Z29 ?_|refine Z30 ?_|refine Z31 ?_|refine Z32 ?_|refine Z67 ?_|refine Z82 fun _=>?_)
 refine bF (m:=24) (by rfl) (by rfl) (by rfl) fd (by rfl) (by rfl) (by first|with_reducible assumption|simp) fun _ hw=>aa hw SubW.nil ⟨?_,rfl⟩
 rfl
end
end Go.Proofs.YtndhfbecpghinaaGreat.L
namespace Go.Proofs.YtndhfbecpghinaaGreat.L.Pr
structure AG (G:Type) where
 add:G→G→G
 zero:G
 neg:G→G
 assoc:∀a b c,add (add a b) c=add a (add b c)
 comm:∀a b,add a b=add b a
 zadd:∀a,add zero a=a
 nadd:∀a,add (neg a) a=zero
namespace AG
variable {G:Type} (A:AG G)
theorem addz(a:G):A.add a A.zero=a:=by rw[A.comm,A.zadd]
theorem addn(a:G):A.add a (A.neg a)=A.zero:=by rw[A.comm,A.nadd]
theorem can{a b c:G}(h:A.add a b=A.add a c):b=c:=by
 rw[← A.zadd b,← A.nadd a,A.assoc,h,← A.assoc,A.nadd,A.zadd]
theorem four(a b c d:G):A.add (A.add a b) (A.add c d)=A.add (A.add a c) (A.add b d):=by
 rw[A.assoc,A.assoc,← A.assoc b c d,A.comm b c,A.assoc c b d]
def mul(a:G):Nat→G
 | 0=>A.zero
 | k+1=>A.add (mul a k) a
theorem Cv(a:G)(k:Nat):A.mul a (k+1)=A.add (A.mul a k) a:=rfl
theorem mul_one(a:G):A.mul a 1=a:=A.zadd a
theorem mul_add(a:G)(j k:Nat):A.mul a (j+k)=A.add (A.mul a j) (A.mul a k):=by
 induction k with
 | zero=>exact(A.addz _).symm
 | succ k ih=>rw[← Nat.add_assoc,Cv,ih,Cv,A.assoc]
theorem mul_mul(a:G)(j k:Nat):A.mul a (j*k)=A.mul (A.mul a j) k:=by
 induction k with
 | zero=>rfl
 | succ k ih=>rw[Nat.mul_succ,mul_add,ih,Cv]
theorem mul_zero(k:Nat):A.mul A.zero k=A.zero:=by
 induction k with
 | zero=>rfl
 | succ k ih=>rw[Cv,ih,A.zadd]
theorem neg_eq{a b:G}(h:A.add a b=A.zero):A.neg b=a:=by
 apply A.can (a:=b)
 rw[A.addn,A.comm,h]
theorem lagrange{H:List G}(hn:H.Nodup)(h0:A.zero∈H)(hs:∀a∈H,∀b∈H,A.add a (A.neg b)∈H):
  ∀(n:Nat)(L:List G),L.length=n→L.Nodup→(∀x∈L,∀h∈H,A.add x h∈L)→H.length∣L.length:=by
 intro n
 induction n using Nat.strongRecOn with
 | ind n ih=>
  intro L hL hd hc
  cases L with
  | nil=>exact Nat.dvd_zero _
  | cons g r=>
   obtain⟨C,hC⟩:∃C,C=H.map (A.add g):=⟨_,rfl⟩
   have hCn:C.Nodup:=by
    rw[hC];exact List.pairwise_map.2 (hn.imp fun h e=>h (A.can e))
   have hm:∀x,x∈C↔∃h∈H,A.add g h=x:=fun x=>by rw[hC];exact List.mem_map
   haveI:DecidablePred (fun x=>x∈C):=fun _=>Classical.propDecidable _
   obtain⟨L',hL'⟩:∃L',L'=(g::r).filter (fun x=>!decide (x∈C)):=⟨_,rfl⟩
   have hm':∀x,x∈L'↔x∈g::r∧x∉C:=fun x=>by rw[hL',List.mem_filter];simp
   have hn':L'.Nodup:=by rw[hL'];exact hd.filter _
   have hp:(C++L').Perm (g::r):=by
    refine(List.perm_ext_iff_of_nodup ?_ hd).2 fun x=>?_
    ·rw[List.nodup_append]
     exact⟨hCn,hn',fun a ha b hb e=>((hm' b).1 hb).2 (e ▸ ha)⟩
    ·rw[List.mem_append,hm' x]
     constructor
     ·rintro(h | h)
      ·obtain⟨y,hy,rfl⟩:=(hm x).1 h
       exact hc g (List.mem_cons_self ..) y hy
      ·exact h.1
     ·intro h
      by_cases hx:x∈C
      ·exact .inl hx
      ·exact .inr ⟨h,hx⟩
   have hlen:=hp.length_eq
   rw[List.length_append,show C.length=H.length by rw[hC,List.length_map]]at hlen
   have hH:0<H.length:=List.length_pos_of_mem h0
   have:=ih L'.length (by omega) L' rfl hn' (fun x hx h hh=>by
    have hx':=(hm' x).1 hx
    refine(hm' _).2 ⟨hc x hx'.1 h hh,fun hin=>hx'.2 ?_⟩
    obtain⟨y,hy,he⟩:=(hm _).1 hin
    refine(hm x).2 ⟨A.add y (A.neg h),hs y hy h hh,?_⟩
    rw[← A.assoc,he,A.assoc,A.addn,A.addz])
   rw[← hlen]
   exact Nat.dvd_add (Nat.dvd_refl _) this
structure All (L:List G):Prop where
 nd:L.Nodup
 all:∀x,x∈L
theorem km{f:Nat→G}{n:Nat}(h:∀i j,i<j→j<n→f i≠f j):((List.range n).map f).Nodup:=by
 refine List.pairwise_map.2 ?_
 refine List.Pairwise.imp_of_mem ?_ List.pairwise_lt_range
 intro i j hi hj hij
 exact h i j hij (List.mem_range.1 hj)
theorem mul_sub0{a:G}{i j:Nat}(hij:i≤j)(h:A.mul a i=A.mul a j):A.mul a (j-i)=A.zero:=by
 apply A.can (a:=A.mul a i)
 rw[← A.mul_add,A.addz,Nat.add_sub_cancel' hij,h]
theorem zd:∀{l L:List G},l.Nodup→(∀x∈l,x∈L)→l.length≤L.length
 | [],_,_,_=>Nat.zero_le _
 | x::l,L,hl,hs=>by
  haveI:DecidableEq G:=fun _ _=>Classical.propDecidable _
  have hx:=hs x (List.mem_cons_self ..)
  have hn:=List.nodup_cons.1 hl
  have:=zd (l:=l) (L:=L.erase x) hn.2 (fun y hy=>(List.mem_erase_of_ne (show y≠x from fun e=>hn.1 (e ▸ hy))).2 (hs y (List.mem_cons_of_mem _ hy)))
  rw[List.length_erase_of_mem hx]at this
  have:=List.length_pos_of_mem hx
  rw[List.length_cons]
  omega
theorem ve{p j:Nat}(hp:aU p)(hj:¬p∣j):∃t,j*t%p=1:=by
 have h1:=hp.1
 have:=Al hp hj
 obtain⟨q,rfl⟩:∃q,p=q+2:=⟨p-2,by omega⟩
 refine⟨j^q,?_⟩
 rwa [show q+2-1=q+1 by omega,Nat.pow_succ,Nat.mul_comm]at this
theorem order{L:List G}(hL:All L)(a:G):∃d,0<d∧A.mul a d=A.zero∧(∀m,A.mul a m=A.zero→d∣m)∧d∣L.length:=by
 have hex:∃d,0<d∧A.mul a d=A.zero:=by
  apply Classical.byContradiction
  intro hc
  have:=zd (L:=L) (l:=(List.range (L.length+1)).map (A.mul a)) (km fun i j hij _ e=>hc ⟨j-i,by omega,A.mul_sub0 (Nat.le_of_lt hij) e⟩) (fun x _=>hL.all x)
  rw[List.length_map,List.length_range]at this
  omega
 have hmin:∃d,(0<d∧A.mul a d=A.zero)∧∀m,m<d→¬(0<m∧A.mul a m=A.zero):=by
  obtain⟨d,hd⟩:=hex
  induction d using Nat.strongRecOn with
  | ind d ih=>
   by_cases h:∃m,m<d∧0<m∧A.mul a m=A.zero
   ·obtain⟨m,hm,h2⟩:=h
    exact ih m hm h2
   ·exact⟨d,hd,fun m hm h2=>h ⟨m,hm,h2⟩⟩
 obtain⟨d,⟨hd0,hd⟩,hlt⟩:=hmin
 have hdiv:∀m,A.mul a m=A.zero→d∣m:=by
  intro m hm
  have h1:A.mul a (m%d)=A.zero:=by
   have h2:A.mul a (d*(m/d)+m%d)=A.zero:=by rw[Nat.div_add_mod];exact hm
   rwa [A.mul_add,A.mul_mul,hd,A.mul_zero,A.zadd]at h2
  apply Nat.dvd_of_mod_eq_zero
  apply Classical.byContradiction
  intro h0
  exact hlt _ (Nat.mod_lt _ hd0) ⟨by omega,h1⟩
 refine⟨d,hd0,hd,hdiv,?_⟩
 have hH:((List.range d).map (A.mul a)).Nodup:=km fun i j hij hj e=>hlt (j-i) (by omega) ⟨by omega,A.mul_sub0 (Nat.le_of_lt hij) e⟩
 have hmem:∀k,A.mul a k∈(List.range d).map (A.mul a):=fun k=>List.mem_map.2 ⟨k%d,List.mem_range.2 (Nat.mod_lt _ hd0),by
  have:A.mul a (d*(k/d)+k%d)=A.mul a (k%d):=by rw[A.mul_add,A.mul_mul,hd,A.mul_zero,A.zadd]
  rw[← this,Nat.div_add_mod]⟩
 have:=A.lagrange hH (hmem 0) (by
  intro x hx y hy
  obtain⟨i,_,rfl⟩:=List.mem_map.1 hx
  obtain⟨j,hj,rfl⟩:=List.mem_map.1 hy
  have hj:=List.mem_range.1 hj
  have e:A.neg (A.mul a j)=A.mul a (d-j):=A.neg_eq (by rw[← A.mul_add,Nat.sub_add_cancel (Nat.le_of_lt hj),hd])
  rw[e,← A.mul_add]
  exact hmem _) L.length L rfl hL.nd (fun x _ h _=>hL.all _)
 rwa [List.length_map,List.length_range]at this
theorem mul_all{L:List G}(hL:All L)(a:G):A.mul a L.length=A.zero:=by
 obtain⟨d,_,h1,_,e,he⟩:=A.order hL a
 rw[he,A.mul_mul,h1,A.mul_zero]
theorem prime_dvd{L:List G}(hL:All L){a:G}{p:Nat}(hp:aU p)(ha:a≠A.zero)(h:A.mul a p=A.zero):p∣L.length:=by
 obtain⟨d,_,h1,h2,h3⟩:=A.order hL a
 rcases hp.2 d (h2 p h)with rfl | rfl
 ·exact absurd (by rw[← A.mul_one a];exact h1) ha
 ·exact h3
theorem square_dvd{L:List G}(hL:All L){a b:G}{p:Nat}(hp:aU p)(ha:a≠A.zero)(h1:A.mul a p=A.zero)(h2:A.mul b p=A.zero)
  (hb:∀i,i<p→b≠A.mul a i):p*p∣L.length:=by
 have hp0:=hp.pos
 have hmod:∀(c:G),A.mul c p=A.zero→∀k,A.mul c k=A.mul c (k%p):=fun c hc k=>by
  have:A.mul c (p*(k/p)+k%p)=A.mul c (k%p):=by rw[A.mul_add,A.mul_mul,hc,A.mul_zero,A.zadd]
  rw[← this,Nat.div_add_mod]
 have hneg:∀(c:G),A.mul c p=A.zero→∀j,A.neg (A.mul c j)=A.mul c (p*j-j):=fun c hc j=>A.neg_eq (by
  rw[← A.mul_add,Nat.sub_add_cancel (Nat.le_mul_of_pos_left j hp0),A.mul_mul,hc,A.mul_zero])
 have hord:∀(c:G),c≠A.zero→A.mul c p=A.zero→∀k,A.mul c k=A.zero→p∣k:=fun c hc hcp k hk=>by
  obtain⟨d,_,e1,e2,_⟩:=A.order hL c
  rcases hp.2 d (e2 p hcp)with rfl | rfl
  ·exact absurd (by rw[← A.mul_one c];exact e1) hc
  ·exact e2 k hk
 have hb0:b≠A.zero:=hb 0 hp0
 have key:∀i j,A.mul b j=A.mul a i→p∣j:=by
  intro i j hij
  apply Classical.byContradiction
  intro hj
  obtain⟨t,ht⟩:=ve hp hj
  have e1:A.mul b (j*t)=b:=by rw[hmod b h2,ht,A.mul_one]
  rw[A.mul_mul,hij,← A.mul_mul,hmod a h1]at e1
  exact hb _ (Nat.mod_lt _ hp0) e1.symm
 let f:Nat→G:=fun k=>A.add (A.mul a (k/p)) (A.mul b (k%p))
 have hlin:∀i j i' j',A.add (A.mul a i) (A.mul b j)=A.add (A.mul a i') (A.mul b j')→p∣(i+(p*i'-i'))∧p∣(j+(p*j'-j')):=by
  intro i j i' j' h
  have e1:A.add (A.mul a (i+(p*i'-i'))) (A.mul b (j+(p*j'-j')))=A.zero:=by
   rw[A.mul_add,A.mul_add,A.four,h,A.four,← A.mul_add,← A.mul_add,Nat.add_sub_cancel' (Nat.le_mul_of_pos_left i' hp0),Nat.add_sub_cancel' (Nat.le_mul_of_pos_left j' hp0),A.mul_mul,A.mul_mul,h1,h2,A.mul_zero,A.mul_zero,A.zadd]
  have e2:A.mul b (j+(p*j'-j'))=A.neg (A.mul a (i+(p*i'-i'))):=(A.neg_eq (by rw[A.comm];exact e1)).symm
  have e3:=key _ _ (e2.trans (hneg a h1 _))
  refine⟨?_,e3⟩
  obtain⟨m,hm⟩:=e3
  rw[hm,A.mul_mul,h2,A.mul_zero,A.addz]at e1
  exact hord a ha h1 _ e1
 have hmodeq:∀x y,x<p→y<p→p∣(x+(p*y-y))→x=y:=by
  intro x y hx hy h
  obtain⟨q,rfl⟩:∃q,p=q+1:=⟨p-1,by omega⟩
  rw[show(q+1)*y-y=q*y by rw[Nat.add_mul,Nat.one_mul,Nat.add_sub_cancel]]at h
  have e:(x+q*y+y)%(q+1)=y%(q+1):=by
   obtain⟨m,hm⟩:=h
   rw[hm,Nat.mul_add_mod]
  rw[show x+q*y+y=x+(q+1)*y by rw[Nat.add_mul,Nat.one_mul,Nat.add_assoc],Nat.add_mul_mod_self_left,Nat.mod_eq_of_lt hx,Nat.mod_eq_of_lt hy]at e
  exact e
 have hH:((List.range (p*p)).map f).Nodup:=km fun k k' hk hk' e=>by
  have hlt:k/p<p:=Nat.div_lt_of_lt_mul (by omega)
  have hlt':k'/p<p:=Nat.div_lt_of_lt_mul hk'
  obtain⟨e1,e2⟩:=hlin _ _ _ _ e
  have e1:=hmodeq _ _ hlt hlt' e1
  have e2:=hmodeq _ _ (Nat.mod_lt _ hp0) (Nat.mod_lt _ hp0) e2
  have:=Nat.div_add_mod k p
  have:=Nat.div_add_mod k' p
  rw[e1,e2]at *
  omega
 have hmem:∀i j,A.add (A.mul a i) (A.mul b j)∈(List.range (p*p)).map f:=fun i j=>List.mem_map.2 ⟨p*(i%p)+j%p,List.mem_range.2 (by
  have h3:=Nat.mod_lt i hp0
  have h4:=Nat.mod_lt j hp0
  calc p*(i%p)+j%p<p*(i%p)+p:=by omega
   _=p*(i%p+1):=by rw[Nat.mul_add,Nat.mul_one]
   _≤p*p:=Nat.mul_le_mul_left _ h3),by
  show A.add (A.mul a ((p*(i%p)+j%p)/p)) (A.mul b ((p*(i%p)+j%p)%p))=_
  rw[Nat.mul_add_div hp0,Nat.div_eq_of_lt (Nat.mod_lt j hp0),Nat.add_zero,Nat.mul_add_mod,Nat.mod_mod,← hmod a h1,← hmod b h2]⟩
 have:=A.lagrange hH (by have:=hmem 0 0;rwa [show A.add (A.mul a 0) (A.mul b 0)=A.zero from A.zadd _]at this) (by
  intro x hx y hy
  obtain⟨k,_,rfl⟩:=List.mem_map.1 hx
  obtain⟨k',_,rfl⟩:=List.mem_map.1 hy
  show A.add (A.add (A.mul a (k/p)) (A.mul b (k%p))) (A.neg (A.add (A.mul a (k'/p)) (A.mul b (k'%p))))∈_
  have e:A.neg (A.add (A.mul a (k'/p)) (A.mul b (k'%p)))=A.add (A.mul a (p*(k'/p)-k'/p)) (A.mul b (p*(k'%p)-k'%p)):=A.neg_eq (by
   rw[A.four,← A.mul_add,← A.mul_add,Nat.sub_add_cancel (Nat.le_mul_of_pos_left _ hp0),Nat.sub_add_cancel (Nat.le_mul_of_pos_left _ hp0),A.mul_mul,A.mul_mul,h1,h2,A.mul_zero,A.mul_zero,A.zadd])
  rw[e,A.four,← A.mul_add,← A.mul_add]
  exact hmem _ _) L.length L rfl hL.nd (fun x _ h _=>hL.all _)
 rwa [List.length_map,List.length_range]at this
end AG
theorem Xb{α:Type}(l:List α):∃m:List α,m.Nodup∧(∀x,x∈m↔x∈l)∧m.length≤l.length:=by
 induction l with
 | nil=>exact⟨[],List.nodup_nil,fun _=>Iff.rfl,Nat.le_refl _⟩
 | cons x l ih=>
  obtain⟨m,h1,h2,h3⟩:=ih
  by_cases h:x∈m
  ·exact⟨m,h1,fun y=>by
    rw[List.mem_cons,h2 y]
    exact⟨.inr,fun hy=>hy.elim (fun e=>e ▸ (h2 x).1 h) id⟩,Nat.le_succ_of_le h3⟩
  ·exact⟨x::m,List.nodup_cons.2 ⟨h,h1⟩,fun y=>by rw[List.mem_cons,List.mem_cons,h2 y],Nat.succ_le_succ h3⟩
end Go.Proofs.YtndhfbecpghinaaGreat.L.Pr
namespace Go.Proofs.YtndhfbecpghinaaGreat.L.Kf
open Pr
namespace K2
variable {n:Nat} [NeZero n]
attribute [local irreducible] add mul sub neg zero one inv
abbrev Cu(b:K2 n):={q:Pt n // Onc b q}
section
variable (hp:P3 n) {b:K2 n} (h2:No2 b)
def cg:AG (Cu b) where
 add P Q:=⟨pa P.1 Q.1,dk hp P.2 Q.2⟩
 zero:=⟨none,trivial⟩
 neg P:=⟨pn P.1,cI P.2⟩
 assoc P Q R:=Subtype.ext (f8 hp h2 P.2 Q.2 R.2)
 comm P Q:=Subtype.ext (dJ hp P.2 Q.2)
 zadd _:=Subtype.ext rfl
 nadd P:=Subtype.ext (m9 hp P.1)
theorem Gk(P:Cu b)(k:Nat):((cg hp h2).mul P k).1=tim P.1 k:=by
 induction k with
 | zero=>rfl
 | succ k ih=>show pa ((cg hp h2).mul P k).1 P.1=pa (tim P.1 k) P.1;rw[ih]
theorem uH{P:Cu b}:P=(cg hp h2).zero↔P.1=none:=⟨fun e=>congrArg Subtype.val e,fun e=>Subtype.ext e⟩
theorem pG{P:Cu b}{k:Nat}:(cg hp h2).mul P k=(cg hp h2).zero↔tim P.1 k=none:=by
 rw[uH,Gk]
end
def Gd(n:Nat)[NeZero n]:List (K2 n):=(List.range (n*n)).map fun k=>⟨κ n (k/n),κ n (k%n)⟩
theorem Ge(x:K2 n):x∈Gd n:=by
 have h0:0<n:=Nat.pos_of_ne_zero (NeZero.ne n)
 refine List.mem_map.2 ⟨n*x.re.val+x.im.val,List.mem_range.2 ?_,?_⟩
 ·have h1:=x.re.isLt
  have h3:=x.im.isLt
  calc n*x.re.val+x.im.val<n*x.re.val+n:=by omega
   _=n*(x.re.val+1):=by rw[Nat.mul_add,Nat.mul_one]
   _≤n*n:=Nat.mul_le_mul_left _ h1
 ·refine ext' ?_ ?_
  ·show κ n ((n*x.re.val+x.im.val)/n)=x.re
   rw[Nat.mul_add_div h0,Nat.div_eq_of_lt x.im.isLt,Nat.add_zero,iO]
  ·show κ n ((n*x.re.val+x.im.val)%n)=x.im
   rw[Nat.mul_add_mod,mh,iO]
theorem xj{α β:Type}(f:α→List β)(h:∀x,(f x).length≤2):∀l:List α,(l.flatMap f).length≤2*l.length
 | []=>Nat.le_refl _
 | x::l=>by
  rw[List.flatMap_cons,List.length_append,List.length_cons]
  have:=h x
  have:=xj f h l
  omega
open Classical in
noncomputable def over(b x:K2 n):List (Cu b):=
 if h:∃y,Onc b (some (x,y))then[⟨some (x,h.choose),h.choose_spec⟩,⟨some (x,neg h.choose),cI h.choose_spec⟩]else[]
theorem IE(b x:K2 n):(over b x).length≤2:=by
 unfold over
 split
 ·exact Nat.le_refl _
 ·exact Nat.zero_le _
theorem ID(hp:P3 n){b x y:K2 n}(h:Onc b (some (x,y))):(⟨some (x,y),h⟩:Cu b)∈over b x:=by
 unfold over
 have hex:∃y,Onc b (some (x,y)):=⟨y,h⟩
 rw[dif_pos hex]
 have hz:mul hex.choose hex.choose=mul y y:=(bK hex.choose_spec).trans (bK h).symm
 rcases aW hp (C1 hz)with e | e
 ·have e:=aE e
  refine List.mem_cons.2 (.inl (Subtype.ext ?_))
  show some (x,y)=some (x,hex.choose)
  rw[e]
 ·have e:=aP e
  refine List.mem_cons_of_mem _ (List.mem_singleton.2 (Subtype.ext ?_))
  show some (x,y)=some (x,neg hex.choose)
  rw[e,bv]
theorem IY(hp:P3 n)(b:K2 n):∃L:List (Cu b),AG.All L∧L.length≤2*(n*n)+1:=by
 obtain⟨L,h1,h2,h3⟩:=Xb ((⟨none,trivial⟩:Cu b)::(Gd n).flatMap (over b))
 refine⟨L,⟨h1,fun P=>(h2 P).2 ?_⟩,Nat.le_trans h3 ?_⟩
 ·obtain⟨P,hP⟩:=P
  cases P with
  | none=>exact List.mem_cons_self ..
  | some q=>exact List.mem_cons_of_mem _ (List.mem_flatMap.2 ⟨q.1,Ge _,ID hp hP⟩)
 ·rw[List.length_cons]
  have:=xj (over b) (IE b) (Gd n)
  rw[show(Gd n).length=n*n by unfold Gd;rw[List.length_map,List.length_range]]at this
  exact Nat.succ_le_succ this
theorem Bn{b:K2 n}(h2:No2 b){q:Pt n}(ho:Onc b q)(h:pa q q=none):q=none:=by
 cases q with
 | none=>rfl
 | some q=>
  have hy:=gH h2 (bK ho)
  exfalso
  have:pa (some q) (some q)=some (cx (gb q.1 q.2) q.1 q.1,cy (gb q.1 q.2) q.1 q.2 q.1):=by
   show(if q.1=q.1 then if q.2=q.2∧q.2≠zero then _ else _ else _)=_
   rw[if_pos rfl,if_pos ⟨rfl,hy⟩]
  rw[this]at h
  cases h
theorem UX(hp:P3 n){b:K2 n}(h2:No2 b){M:Nat}(hM:∀L:List (Cu b),AG.All L→M∣L.length)(hb:2*(n*n)+1<3*M){q:Pt n}(ho:Onc b q):tim q M=none:=by
 obtain⟨L,hL,hlen⟩:=IY hp b
 obtain⟨k,hk⟩:=hM L hL
 have h0:0<L.length:=List.length_pos_of_mem (hL.all (⟨none,trivial⟩:Cu b))
 have h:=(cg hp h2).mul_all hL ⟨q,ho⟩
 rw[pG]at h
 rw[hk]at h h0 hlen
 have hk3:k<3:=by
  apply Classical.byContradiction
  intro hc
  have:=Nat.mul_le_mul_left M (Nat.le_of_not_lt hc)
  omega
 have hk0:k≠0:=by rintro rfl;rw[Nat.mul_zero]at h0;omega
 rcases(show k=1∨k=2 by omega)with rfl | rfl
 ·rwa [Nat.mul_one]at h
 ·rw[Nat.mul_two]at h
  have h3:pa (tim q M) (tim q M)=none:=by rw[← fk hp h2 ho];exact h
  exact Bn h2 (cY hp ho M) h3
theorem rD(hp:P3 n){b:K2 n}(h2:No2 b){q:Pt n}(ho:Onc b q)(hq:q≠none){l:Nat}(hl:aU l)(h:tim q l=none):∀L:List (Cu b),AG.All L→l∣L.length:=fun _ hL=>
 (cg hp h2).prime_dvd hL (a:=⟨q,ho⟩) hl (fun e=>hq ((uH hp h2).1 e)) ((pG hp h2).2 h)
theorem vQ(hp:P3 n){b:K2 n}(h2:No2 b){q s:Pt n}(ho:Onc b q)(hs:Onc b s)(hq:q≠none){l:Nat}(hl:aU l)(h:tim q l=none)(h':tim s l=none)(hn:∀i,i<l→s≠tim q i):∀L:List (Cu b),AG.All L→l*l∣L.length:=fun _ hL=>
 (cg hp h2).square_dvd hL (a:=⟨q,ho⟩) (b:=⟨s,hs⟩) hl (fun e=>hq ((uH hp h2).1 e)) ((pG hp h2).2 h) ((pG hp h2).2 h') (fun i hi e=>hn i hi (by rw[← Gk hp h2 ⟨q,ho⟩];exact congrArg Subtype.val e))
end K2
end Go.Proofs.YtndhfbecpghinaaGreat.L.Kf
namespace Go.Proofs.YtndhfbecpghinaaGreat.L.Pr
set_option maxRecDepth 100000
theorem IP:aU 13:=jM 2 (by decide +kernel)
theorem IQ:aU 23:=jM 2 (by decide +kernel)
theorem AX:aU 2713:=jM 6 (by decide +kernel)
theorem yc:aU 11953:=jM 7 (by decide +kernel)
theorem vM:aU 262069:=jM 9 (by decide +kernel)
theorem sF:aU 1367711:=jM 11 (by decide +kernel)
theorem ES:aU 541:=jM 5 (by decide +kernel)
theorem IR:aU 12192593745179:=lU (f:=44) [(1367711,0,2),(541,0,2)] (by
 intro x hx
 simp only[List.mem_cons,List.not_mem_nil,or_false]at hx
 rcases hx with rfl | rfl
 ·exact sF
 ·exact ES) (by decide +kernel)
theorem IS:aU 512088937297519:=lU (f:=49) [(12192593745179,0,2)] (by
 intro x hx
 simp only[List.mem_cons,List.not_mem_nil,or_false]at hx
 rcases hx with rfl
 ·exact IR) (by decide +kernel)
theorem ET:aU 1857858664515398933:=lU (f:=61) [(512088937297519,0,2)] (by
 intro x hx
 simp only[List.mem_cons,List.not_mem_nil,or_false]at hx
 rcases hx with rfl
 ·exact IS) (by decide +kernel)
theorem EU:aU 22294303974184787197:=lU (f:=65) [(1857858664515398933,0,2)] (by
 intro x hx
 simp only[List.mem_cons,List.not_mem_nil,or_false]at hx
 rcases hx with rfl
 ·exact ET) (by decide +kernel)
theorem EV:aU 19931107752921199754119:=lU (f:=75) [(22294303974184787197,0,2)] (by
 intro x hx
 simp only[List.mem_cons,List.not_mem_nil,or_false]at hx
 rcases hx with rfl
 ·exact EU) (by decide +kernel)
theorem EW:aU 81162125843606155545104998607900118769099783:=lU (f:=146) [(19931107752921199754119,0,2)] (by
 intro x hx
 simp only[List.mem_cons,List.not_mem_nil,or_false]at hx
 rcases hx with rfl
 ·exact EV) (by decide +kernel)
theorem EX:aU 26935696298915610574513298451669528361624243820491956655650666425177:=lU (f:=224) [(81162125843606155545104998607900118769099783,0,2)] (by
 intro x hx
 simp only[List.mem_cons,List.not_mem_nil,or_false]at hx
 rcases hx with rfl
 ·exact EW) (by decide +kernel)
theorem EY:aU 4638704574076146691498289350639807119782054683906549022985642612861209609656189848749536921852444848596916990932297:=lU (f:=381) [(26935696298915610574513298451669528361624243820491956655650666425177,0,2)] (by
 intro x hx
 simp only[List.mem_cons,List.not_mem_nil,or_false]at hx
 rcases hx with rfl
 ·exact EX) (by decide +kernel)
theorem MI:aU 402096035359507321594726366720466575392706800671181159425656785868777272553337714697862511267018014931937703598282857976535744623203249:=lU (f:=448) [(4638704574076146691498289350639807119782054683906549022985642612861209609656189848749536921852444848596916990932297,0,2)] (by
 intro x hx
 simp only[List.mem_cons,List.not_mem_nil,or_false]at hx
 rcases hx with rfl
 ·exact EY) (by decide +kernel)
end Go.Proofs.YtndhfbecpghinaaGreat.L.Pr
namespace Go.Proofs.YtndhfbecpghinaaGreat.L
open Go Go.Proofs
set_option maxRecDepth 100000
section
attribute [local irreducible] Code.wp wpList Af bodyPost L.Go
open Num
theorem RX{S:Kf.K2.St}{P:Kf.K2.Pt p}{x:Kf.K2.PN}{y:F2}(h:Kf.K2.Stands S P)(hd:(Kf.K2.isz S.z || !Kf.K2.isz (Kf.K2.plH p S x))=true):(some (Kf.K2.red p x,y):Kf.K2.Pt p)≠P:=by
 intro e
 have hz:Kf.K2.isz S.z=false:=by
  cases hz:Kf.K2.isz S.z with
  | false=>rfl
  | true=>rw[h.none_iff.1 hz]at e;cases e
 rw[hz,Bool.false_or]at hd
 have z0:Kf.K2.red p S.z≠Kf.K2.zero:=fun e=>by rw[(Kf.K2.dW h.z).2 e]at hz;cases hz
 rw[← h.e,Kf.K2.pA z0]at e
 have e1:Kf.K2.red p x=Kf.K2.jx (Kf.K2.red p S.x) (Kf.K2.red p S.z):=congrArg (fun o:Kf.K2.Pt p=>match o with | none=>Kf.K2.zero | some q=>q.1) e
 have hi:=(Kf.K2.aI p_3 z0).trans Kf.K2.dL.symm
 have e2:=Kf.K2.OJ hi e1.symm
 have hn:=Nat.dvd_refl p
 have h0:=bZ
 have e3:Kf.K2.red p (Kf.K2.plH p S x)=Kf.K2.zero:=by
  rw[← e2]
  simp only[Kf.K2.plH,Kf.K2.dY hn h0,Kf.K2.da hn h0,Kf.K2.pH]
 have e4:=(Kf.K2.dW (Kf.K2.jr h0 _ _)).2 e3
 rw[show Kf.K2.du p (Kf.K2.aO p x (Kf.K2.aO p S.z S.z)) S.x=Kf.K2.plH p S x from rfl]at e4
 rw[e4]at hd
 cases hd
theorem In{a b x:Kf.K2.PN}{y:F2}{l f:Nat}(ha:Kf.K2.ltP p a)(hb:Kf.K2.ltP p b)(ho:Kf.K2.Onc b2c (some (Kf.K2.red p a,Kf.K2.red p b)))(hl:l≤2^f)
  (h:(List.range l).all (fun i=>(Kf.K2.jgo p a b i f Kf.K2.vB).g&&(Kf.K2.isz (Kf.K2.jgo p a b i f Kf.K2.vB).z || !Kf.K2.isz (Kf.K2.plH p (Kf.K2.jgo p a b i f Kf.K2.vB) x)))=true):
  ∀i,i<l→(some (Kf.K2.red p x,y):Kf.K2.Pt p)≠Kf.K2.tim (some (Kf.K2.red p a,Kf.K2.red p b)) i:=by
 intro i hi
 have:=List.all_eq_true.1 h i (List.mem_range.2 hi)
 rw[Bool.and_eq_true]at this
 exact RX (Kf.K2.kW p_3 no2 ha hb ho (Nat.lt_of_lt_of_le hi hl) this.1) this.2
theorem gD{a b:Kf.K2.PN}{l f:Nat}(ha:Kf.K2.ltP p a)(hb:Kf.K2.ltP p b)(ho:Kf.K2.Onc b2c (some (Kf.K2.red p a,Kf.K2.red p b)))(hl:l<2^f)
  (h:((Kf.K2.jgo p a b l f Kf.K2.vB).g&&Kf.K2.isz (Kf.K2.jgo p a b l f Kf.K2.vB).z)=true):Kf.K2.tim (some (Kf.K2.red p a,Kf.K2.red p b)) l=none:=by
 rw[Bool.and_eq_true]at h
 exact(Kf.K2.kW p_3 no2 ha hb ho hl h.1).none_iff.1 h.2
def e0x:Kf.K2.PN:=(2732930528131101971611217246881750180683106134772116261772097223311611715341772080980349520485631927061565093082500,1624804182323061415002419486356893015843508388518757766191076390287001054493882962454462225453782815125112967330584)
def e0y:Kf.K2.PN:=(3893467846353003864083661299790087060260354055047221126513507759929187214484574158304677596688901387144120631851774,2873576094645233262270805484403102892230821419438861944784945239971798137977557654440842298211373996744583467941995)
theorem Ui:Kf.K2.ltP p e0x:=by unfold Kf.K2.ltP;decide +kernel
theorem Uj:Kf.K2.ltP p e0y:=by unfold Kf.K2.ltP;decide +kernel
theorem N7:Kf.K2.Onc b2c (some (Kf.K2.red p e0x,Kf.K2.red p e0y)):=show Kf.K2.mul (Kf.K2.red p e0y) (Kf.K2.red p e0y)=Kf.K2.add (Kf.K2.mul (Kf.K2.mul (Kf.K2.red p e0x) (Kf.K2.red p e0x)) (Kf.K2.red p e0x)) b2c by decide +kernel
theorem WO:Kf.K2.tim (some (Kf.K2.red p e0x,Kf.K2.red p e0y)) 2713=none:=gD (f:=12) Ui Uj N7 (by decide +kernel) (by decide +kernel)
def e1x:Kf.K2.PN:=(1854247552200671796290762094682081485062549137983414518419843264824777516848488982835075644141168762016099863964496,2453262726586132397845514920992038643697890559672297260083862336800848889493047522898371412514810404361560560182806)
def e1y:Kf.K2.PN:=(631050874728479091129663852256436773847489913836429807617462696769036715252939950774471986733361765681933794962003,3319851878711540555087758712995160246069763043719470346209582337524366152400752646724264963790353006193191809034212)
theorem Uo:Kf.K2.ltP p e1x:=by unfold Kf.K2.ltP;decide +kernel
theorem Up:Kf.K2.ltP p e1y:=by unfold Kf.K2.ltP;decide +kernel
theorem N9:Kf.K2.Onc b2c (some (Kf.K2.red p e1x,Kf.K2.red p e1y)):=show Kf.K2.mul (Kf.K2.red p e1y) (Kf.K2.red p e1y)=Kf.K2.add (Kf.K2.mul (Kf.K2.mul (Kf.K2.red p e1x) (Kf.K2.red p e1x)) (Kf.K2.red p e1x)) b2c by decide +kernel
theorem WS:Kf.K2.tim (some (Kf.K2.red p e1x,Kf.K2.red p e1y)) 11953=none:=gD (f:=14) Uo Up N9 (by decide +kernel) (by decide +kernel)
def e2x:Kf.K2.PN:=(3585882940940123013268656861893695144087016218084638877734548085628496539673708874517800297462173798022978434573316,3249695541147246801462394281019803944823620003741077476887539079277689246216854906768188995244707190556741090520591)
def e2y:Kf.K2.PN:=(1351827535497653296159023728595899920703594823441352227036821938812534411340809485437529542203114709240362216682344,2134882000594129960028861217504277504257556173374576646915278154221857029512890132494487016649875117503216456548496)
theorem Uq:Kf.K2.ltP p e2x:=by unfold Kf.K2.ltP;decide +kernel
theorem Ur:Kf.K2.ltP p e2y:=by unfold Kf.K2.ltP;decide +kernel
theorem Oa:Kf.K2.Onc b2c (some (Kf.K2.red p e2x,Kf.K2.red p e2y)):=show Kf.K2.mul (Kf.K2.red p e2y) (Kf.K2.red p e2y)=Kf.K2.add (Kf.K2.mul (Kf.K2.mul (Kf.K2.red p e2x) (Kf.K2.red p e2x)) (Kf.K2.red p e2x)) b2c by decide +kernel
theorem WU:Kf.K2.tim (some (Kf.K2.red p e2x,Kf.K2.red p e2y)) 262069=none:=gD (f:=18) Uq Ur Oa (by decide +kernel) (by decide +kernel)
def e3x:Kf.K2.PN:=(221936139291288489439513367527481495057882256099240953159569289799120704596728113827679483911795605698084286051573,3415555305535896194370153360405012379594754145007175298728826366042527546586477148490156050006251723613414992878937)
def e3y:Kf.K2.PN:=(3077596325830596161068317882852825580913622505477201261085323465694381487244631311082363101032370366548699883569914,951286233704538839119986282443269760452142569860253286581374505157382986650620546008451758486869596980584371380856)
theorem Ut:Kf.K2.ltP p e3x:=by unfold Kf.K2.ltP;decide +kernel
theorem Uu:Kf.K2.ltP p e3y:=by unfold Kf.K2.ltP;decide +kernel
theorem Oc:Kf.K2.Onc b2c (some (Kf.K2.red p e3x,Kf.K2.red p e3y)):=show Kf.K2.mul (Kf.K2.red p e3y) (Kf.K2.red p e3y)=Kf.K2.add (Kf.K2.mul (Kf.K2.mul (Kf.K2.red p e3x) (Kf.K2.red p e3x)) (Kf.K2.red p e3x)) b2c by decide +kernel
theorem WV:Kf.K2.tim (some (Kf.K2.red p e3x,Kf.K2.red p e3y)) 402096035359507321594726366720466575392706800671181159425656785868777272553337714697862511267018014931937703598282857976535744623203249=none:=gD (f:=448) Ut Uu Oc (by decide +kernel) (by decide +kernel)
def e4x:Kf.K2.PN:=(3724786844502180167891558729416129449000115420642389737248204246659523970410542797357533898368708494837061665677680,1141335301852042111109904309412722578402802990019776025308351928836484500914601819891608123758423149595378570951794)
def e4y:Kf.K2.PN:=(3659199057390176532242870202066124952884786772473267866939750082073367303377577444236085326897248847277067207759400,1458838372592766091508702817080480380647037193169483027221674853013145380294636776981066911163277917352681107466967)
theorem Od:Kf.K2.ltP p e4x:=by unfold Kf.K2.ltP;decide +kernel
theorem Oe:Kf.K2.ltP p e4y:=by unfold Kf.K2.ltP;decide +kernel
theorem oT:Kf.K2.Onc b2c (some (Kf.K2.red p e4x,Kf.K2.red p e4y)):=show Kf.K2.mul (Kf.K2.red p e4y) (Kf.K2.red p e4y)=Kf.K2.add (Kf.K2.mul (Kf.K2.mul (Kf.K2.red p e4x) (Kf.K2.red p e4x)) (Kf.K2.red p e4x)) b2c by decide +kernel
theorem Ly:Kf.K2.tim (some (Kf.K2.red p e4x,Kf.K2.red p e4y)) 52435875175126190479447740508185965837690552500527637822603658699938581184513=none:=gD (f:=255) Od Oe oT (by decide +kernel) (by decide +kernel)
def Ed:Kf.K2.PN:=(249367334142669963646324981136200765326260363708790066858131337966551089777386290072409819006724137548003034317840,630214770544375407070343935183851022115778996321952592597513998296250362306921804284466551526689698439285130190803)
def G0:Kf.K2.PN:=(3255931259487654311761675973442790385748961685389911941626630586830515265085259697684420727150124840128609202119395,3805088508598071439828456387093867998299269280435293096449769375317715796189840460067869641218405040002254200256628)
theorem GY:Kf.K2.ltP p Ed:=by unfold Kf.K2.ltP;decide +kernel
theorem GZ:Kf.K2.ltP p G0:=by unfold Kf.K2.ltP;decide +kernel
theorem Aj:Kf.K2.Onc b2c (some (Kf.K2.red p Ed,Kf.K2.red p G0)):=show Kf.K2.mul (Kf.K2.red p G0) (Kf.K2.red p G0)=Kf.K2.add (Kf.K2.mul (Kf.K2.mul (Kf.K2.red p Ed) (Kf.K2.red p Ed)) (Kf.K2.red p Ed)) b2c by decide +kernel
theorem UA:Kf.K2.tim (some (Kf.K2.red p Ed,Kf.K2.red p G0)) 13=none:=gD (f:=4) GY GZ Aj (by decide +kernel) (by decide +kernel)
def Eo:Kf.K2.PN:=(3302811696236693048817432710937200207154146062888472244124401231088541568825880779436480055488906969507825521497988,2159161761998572029827115715135251648516413537530764144546098409415901214338605707709859368308445700024446995204964)
def Hq:Kf.K2.PN:=(918272763181459299777785049801485251739425764325067183332904369815332912808088109486288125688779618627172051883901,1520342217214845708397311524493951876842629938360259965595483298367599583510590171163992542460916921937176980633828)
theorem Rn:Kf.K2.ltP p Eo:=by unfold Kf.K2.ltP;decide +kernel
theorem Ro:Kf.K2.ltP p Hq:=by unfold Kf.K2.ltP;decide +kernel
theorem Hp:Kf.K2.Onc b2c (some (Kf.K2.red p Eo,Kf.K2.red p Hq)):=show Kf.K2.mul (Kf.K2.red p Hq) (Kf.K2.red p Hq)=Kf.K2.add (Kf.K2.mul (Kf.K2.mul (Kf.K2.red p Eo) (Kf.K2.red p Eo)) (Kf.K2.red p Eo)) b2c by decide +kernel
theorem UJ:Kf.K2.tim (some (Kf.K2.red p Eo,Kf.K2.red p Hq)) 13=none:=gD (f:=4) Rn Ro Hp (by decide +kernel) (by decide +kernel)
def Ee:Kf.K2.PN:=(2100989141674736290334623335377785686341226648588822499472792282048962536451111251404132830159345397652384226341187,3840522637552796655335982991642318043474496655907274714563720532856438633635476919160308843927093044748568693045924)
def G3:Kf.K2.PN:=(199154094337164924625675979139541069878298196429898264448916972753328318735204784864697614111604578469428835674533,1275072922746497953683575457784634997213136127181158649310296974027492714454889277511457129178967738291649294335720)
theorem G1:Kf.K2.ltP p Ee:=by unfold Kf.K2.ltP;decide +kernel
theorem G2:Kf.K2.ltP p G3:=by unfold Kf.K2.ltP;decide +kernel
theorem Ak:Kf.K2.Onc b2c (some (Kf.K2.red p Ee,Kf.K2.red p G3)):=show Kf.K2.mul (Kf.K2.red p G3) (Kf.K2.red p G3)=Kf.K2.add (Kf.K2.mul (Kf.K2.mul (Kf.K2.red p Ee) (Kf.K2.red p Ee)) (Kf.K2.red p Ee)) b2c by decide +kernel
theorem UB:Kf.K2.tim (some (Kf.K2.red p Ee,Kf.K2.red p G3)) 23=none:=gD (f:=5) G1 G2 Ak (by decide +kernel) (by decide +kernel)
def Ep:Kf.K2.PN:=(1958017204391899394539162206591781961608870984938316392030853326152268775835027896430372983811689995677676747072868,1850899225844837626114930600540447784016769379102227377138527684896245565298183789770612318797852436809847033533128)
def Hs:Kf.K2.PN:=(453219839902191911911834952005864423867881091105845164171390316115950752220286130881322572399315885808516372185458,2884609588929288605226694121021975550067649551179596463553381328192507286764160491648258213571772038164332954648007)
theorem Rq:Kf.K2.ltP p Ep:=by unfold Kf.K2.ltP;decide +kernel
theorem Rr:Kf.K2.ltP p Hs:=by unfold Kf.K2.ltP;decide +kernel
theorem Hr:Kf.K2.Onc b2c (some (Kf.K2.red p Ep,Kf.K2.red p Hs)):=show Kf.K2.mul (Kf.K2.red p Hs) (Kf.K2.red p Hs)=Kf.K2.add (Kf.K2.mul (Kf.K2.mul (Kf.K2.red p Ep) (Kf.K2.red p Ep)) (Kf.K2.red p Ep)) b2c by decide +kernel
theorem UK:Kf.K2.tim (some (Kf.K2.red p Ep,Kf.K2.red p Hs)) 23=none:=gD (f:=5) Rq Rr Hr (by decide +kernel) (by decide +kernel)
theorem CL(L:List (Kf.K2.Cu b2c))(hL:Pr.AG.All L):16019282247729705411943748644318972617695120099330552659862384536985976748491357143400656079302193429974954385540174732940659106207100323726025938325193045129788127168347624263893040187112659960846674086295148469572963088890738917∣L.length:=by
 have h0:2713∣L.length:=Kf.K2.rD p_3 no2 N7 (by intro h;cases h) Pr.AX WO L hL
 have h1:11953∣L.length:=Kf.K2.rD p_3 no2 N9 (by intro h;cases h) Pr.yc WS L hL
 have k1:32428489∣L.length:=by
  have:=Nat.Coprime.mul_dvd_of_dvd_of_dvd (show Nat.Coprime 2713 11953 by decide +kernel) h0 h1
  rwa [show 2713*11953=32428489 by decide +kernel]at this
 have h2:262069∣L.length:=Kf.K2.rD p_3 no2 Oa (by intro h;cases h) Pr.vM WU L hL
 have k2:8498501683741∣L.length:=by
  have:=Nat.Coprime.mul_dvd_of_dvd_of_dvd (show Nat.Coprime 32428489 262069 by decide +kernel) k1 h2
  rwa [show 32428489*262069=8498501683741 by decide +kernel]at this
 have h3:402096035359507321594726366720466575392706800671181159425656785868777272553337714697862511267018014931937703598282857976535744623203249∣L.length:=Kf.K2.rD p_3 no2 Oc (by intro h;cases h) Pr.MI WV L hL
 have k3:3417213833528353644824999196800052619260030863795574352274180747220585946275454234589181635096475183139252053545727862789966597950563999243361674509∣L.length:=by
  have:=Nat.Coprime.mul_dvd_of_dvd_of_dvd (show Nat.Coprime 8498501683741 402096035359507321594726366720466575392706800671181159425656785868777272553337714697862511267018014931937703598282857976535744623203249 by decide +kernel) k2 h3
  rwa [show 8498501683741*402096035359507321594726366720466575392706800671181159425656785868777272553337714697862511267018014931937703598282857976535744623203249=3417213833528353644824999196800052619260030863795574352274180747220585946275454234589181635096475183139252053545727862789966597950563999243361674509 by decide +kernel]at this
 have h4:52435875175126190479447740508185965837690552500527637822603658699938581184513∣L.length:=Kf.K2.rD p_3 no2 oT (by intro h;cases h) Pr.pZ Ly L hL
 have k4:179184598021607201395328336867808778623227034365729160298681049842686063338121018147455353735441364525843719707164066765927216767229676667218777623574602578604133367281659313250333219842201540931831568844813240003724377679117∣L.length:=by
  have:=Nat.Coprime.mul_dvd_of_dvd_of_dvd (show Nat.Coprime 3417213833528353644824999196800052619260030863795574352274180747220585946275454234589181635096475183139252053545727862789966597950563999243361674509 52435875175126190479447740508185965837690552500527637822603658699938581184513 by decide +kernel) k3 h4
  rwa [show 3417213833528353644824999196800052619260030863795574352274180747220585946275454234589181635096475183139252053545727862789966597950563999243361674509*52435875175126190479447740508185965837690552500527637822603658699938581184513=179184598021607201395328336867808778623227034365729160298681049842686063338121018147455353735441364525843719707164066765927216767229676667218777623574602578604133367281659313250333219842201540931831568844813240003724377679117 by decide +kernel]at this
 have h5:169∣L.length:=Kf.K2.vQ p_3 no2 Aj Hp (by intro h;cases h) Pr.IP UA UJ (In (f:=4) GY GZ Aj (by decide) (by decide +kernel)) L hL
 have k5:30282197065651617035810488930659683587325368807808228090477097423413944704142452066919954781289590604867588630510727283441699633661815356759973418384107835784098539070600423939306314153332060417479535134773437560629419827770773∣L.length:=by
  have:=Nat.Coprime.mul_dvd_of_dvd_of_dvd (show Nat.Coprime 179184598021607201395328336867808778623227034365729160298681049842686063338121018147455353735441364525843719707164066765927216767229676667218777623574602578604133367281659313250333219842201540931831568844813240003724377679117 169 by decide +kernel) k4 h5
  rwa [show 179184598021607201395328336867808778623227034365729160298681049842686063338121018147455353735441364525843719707164066765927216767229676667218777623574602578604133367281659313250333219842201540931831568844813240003724377679117*169=30282197065651617035810488930659683587325368807808228090477097423413944704142452066919954781289590604867588630510727283441699633661815356759973418384107835784098539070600423939306314153332060417479535134773437560629419827770773 by decide +kernel]at this
 have h6:529∣L.length:=Kf.K2.vQ p_3 no2 Ak Hr (by intro h;cases h) Pr.IQ UB UK (In (f:=5) G1 G2 Ak (by decide) (by decide +kernel)) L hL
 have k6:16019282247729705411943748644318972617695120099330552659862384536985976748491357143400656079302193429974954385540174732940659106207100323726025938325193045129788127168347624263893040187112659960846674086295148469572963088890738917∣L.length:=by
  have:=Nat.Coprime.mul_dvd_of_dvd_of_dvd (show Nat.Coprime 30282197065651617035810488930659683587325368807808228090477097423413944704142452066919954781289590604867588630510727283441699633661815356759973418384107835784098539070600423939306314153332060417479535134773437560629419827770773 529 by decide +kernel) k5 h6
  rwa [show 30282197065651617035810488930659683587325368807808228090477097423413944704142452066919954781289590604867588630510727283441699633661815356759973418384107835784098539070600423939306314153332060417479535134773437560629419827770773*529=16019282247729705411943748644318972617695120099330552659862384536985976748491357143400656079302193429974954385540174732940659106207100323726025938325193045129788127168347624263893040187112659960846674086295148469572963088890738917 by decide +kernel]at this
 exact k6
theorem IZ{q:Kf.K2.Pt p}(ho:Kf.K2.Onc b2c q):Kf.K2.tim q 16019282247729705411943748644318972617695120099330552659862384536985976748491357143400656079302193429974954385540174732940659106207100323726025938325193045129788127168347624263893040187112659960846674086295148469572963088890738917=none:=Kf.K2.UX p_3 no2 CL (by decide +kernel) ho
theorem WZ:V hC*52435875175126190479447740508185965837690552500527637822603658699938581184513=16019282247729705411943748644318972617695120099330552659862384536985976748491357143400656079302193429974954385540174732940659106207100323726025938325193045129788127168347624263893040187112659960846674086295148469572963088890738917*686966430457948734194560730881182400509:=by decide +kernel
theorem Lo{q:Kf.K2.Pt p}(ho:Kf.K2.Onc b2c q):Kf.K2.tim (Kf.K2.tim q (V hC)) 52435875175126190479447740508185965837690552500527637822603658699938581184513=none:=by
 rw[← Kf.K2.iE p_3 no2 ho,WZ,Kf.K2.iE p_3 no2 ho,IZ ho,Kf.K2.dU]
end
section
attribute [local irreducible] Code.wp wpList Af bodyPost L.Go ab
open Num
attribute [local simp] ae
def rL:List Nat:=[18446744069414584321,6034159408538082302,3691218898639771653,8353516859464449352]
theorem OQ:Lt 18446744073709551616 rL:=by unfold Lt rL;decide
theorem Sw:rL.length=4:=rfl
theorem Vu:V rL=52435875175126190479447740508185965837690552500527637822603658699938581184513:=by decide +kernel
theorem Hk:Spec Tryz.prog 121 [] ai [] (IsV (LV .u64 rL)):=by
 refine ad Tryz.func121 rfl rfl rfl fun w _=>?_
 repeat (first|(refine sO ?_;intro _)|(refine oF (m:=4) (kk:=.u64) (by rfl) (by rfl) (by rfl) (by rfl) (by rfl) (by rfl) (by rfl) (by rfl) ?_;rw[show[18446744069414584321,6034159408538082302,3691218898639771653,8353516859464449352]++List.replicate (4-[18446744069414584321,6034159408538082302,3691218898639771653,8353516859464449352].length) 0=rL from rfl])|refine TB ?_|refine Z82 fun _=>?_)
 refine Zec fun _ hw=>aa hw SubW.nil ⟨?_,rfl⟩
 rfl
theorem HQ(x y:F2)(i:Bool):Spec Tryz.prog 116 [GE x y i] ai [] (IsV (.bool i)):=by
 refine ad Tryz.func116 rfl rfl rfl fun w _=>?_
 have hl0:=fun x=>ae 6 x
 have hle:=fun x:F2=>ak x
 repeat (first|refine fo ?_|refine bI ?_|refine eP ?_|refine Z02 ?_|refine Z03 ?_|refine Z04 ?_|refine Z05 ?_|refine Z06 ?_|refine Z07 ?_|refine Z08 ?_|refine Z09 ?_|refine Z10 ?_|refine Z11 ?_|refine Z12 ?_|refine Z13 ?_|refine Z14 ?_|refine Z24 ?_|refine Z26 ?_|refine Z27 ?_|refine Z67 ?_|refine Z81 fun _=>?_)
 refine Ze1 fun _ hw=>aa hw SubW.nil ⟨?_,rfl⟩
 rfl
theorem Pa{a b:Prop}(k:b)(h:Rm b→a:=by intro k;(first|refine af (by rfl) (by rfl) (by rfl) (Hk) (fun _ _=>trivial) (by rfl) ?_|refine Z01 ?_|refine Z02 ?_|refine Z03 ?_|refine Z04 ?_|refine Z05 ?_|refine Z06 ?_|refine Z07 ?_|refine Z08 ?_|refine Z09 ?_|refine Z10 ?_|refine Z11 ?_|refine Z12 ?_|refine Z13 ?_|refine Z14 ?_|refine Z17 ?_|refine Z18 ?_|refine Z19 ?_|refine Z24 ?_|refine Z26 ?_|refine Z27 ?_|refine Z29 ?_|refine Z30 ?_|refine Z31 ?_|refine Z32 ?_|refine Z49 ?_|refine Z50 ?_|refine Z51 ?_|refine Z52 ?_|refine Z62 ?_|refine Z63 ?_|refine Z67 ?_);exact k.h):a:=h ⟨k⟩
theorem Pb{a b:Prop}(k:b)(h:Rm b→a:=by intro k;(first|refine Z01 ?_|refine Z02 ?_|refine Z17 ?_|refine Z18 ?_|refine Z19 ?_|refine Z49 ?_|refine Z50 ?_|refine Z62 ?_|refine Z63 ?_);exact k.h):a:=h ⟨k⟩
theorem Pc{S1 a b:Prop}(s1:S1)(k:b)(h:S1→Rm b→a:=by intro s1 k;refine R.Zpp (by rfl) (by intro _ _ _;refine af (by rfl) (by rfl) (by rfl) s1 (RdW.arrAll (m:=4) fd Sw) (by rfl) ?_;exact Zq) ?_;exact k.h):a:=h s1 ⟨k⟩
theorem PX{a b:Prop}(k:b)(h:Rm b→a:=by intro k;(first|refine y_8 ?_|refine Z01 ?_|refine Z02 ?_|refine Z03 ?_|refine Z04 ?_|refine Z05 ?_|refine Z06 ?_|refine Z07 ?_|refine Z08 ?_|refine Z09 ?_|refine Z10 ?_|refine Z11 ?_|refine Z12 ?_|refine Z13 ?_|refine Z14 ?_|refine Z17 ?_|refine Z18 ?_|refine Z19 ?_|refine Z24 ?_|refine Z26 ?_|refine Z27 ?_|refine Z29 ?_|refine Z30 ?_|refine Z31 ?_|refine Z32 ?_|refine Z49 ?_|refine Z50 ?_|refine Z51 ?_|refine Z52 ?_|refine Z62 ?_|refine Z63 ?_|refine Z67 ?_);exact k.h):a:=h ⟨k⟩
set_option maxHeartbeats 8000000 in
theorem IC{P:Kf.K2.Pt p}(h:Kf.K2.Onc b2c P)(hr:Kf.K2.tim P 52435875175126190479447740508185965837690552500527637822603658699938581184513=none):
  Spec Tryz.prog 115 [GV P,.func (.func 37) #[] #[],.func (.func 116) #[] #[]] ai [] (IsV (.bool true)):=by
 refine ad Tryz.func115 rfl rfl rfl fun w _=>?_
 have hl0:=fun x=>ae 6 x
 have hle:=fun x:F2=>ak x
 have hm:∀s,Spec Tryz.prog 37 [s,GV P] (fun w=>Rd w s (rL.map (N .u64))) [] (IsV (.tuple [GV (Kf.K2.tim P (V rL)),N .i64 0].toArray)):=fun s=>
  u9 h (ap (gx P).re) (ap (gx P).im) (ap (gy P).re) (ap (gy P).im) (gi P) (by rw[br,br,kl]) s rL OQ (by decide)
 rw[Vu,hr,ml]at hm
 obtain⟨x1,y1,i1,hq⟩:∃x1 y1 i1,GV P=GE x1 y1 i1:=⟨_,_,_,rfl⟩
 rw[hq]at hm ⊢
 have hi:=HQ Kf.K2.zero Kf.K2.zero true
 repeat (first|(refine ct ?_;intro _)|(refine sO ?_;intro _)|refine Pa ?_|refine Z81 fun _=>?_|refine Z82 fun _=>?_)
 refine R.ag [0,1,2,3,4,5,6,7,8,9] (by rfl) ?_
 repeat (first|(refine R.Zpf (by rfl) (by intro _ _ _;(first|refine Pb ?_);exact Zq) ?_)|refine uw ?_|refine zn ?_|refine Pc (hm _) ?_|refine ge ?_|(refine Ko ?_;intro _)|(refine aV ?_;intro _))
 refine R.Zp0 ?_
 repeat (first|refine dM ?_|refine y_4 hi ?_|refine PX ?_|refine Z81 fun _=>?_|refine Z82 fun _=>?_)
 refine Ze1 fun _ hw=>aa hw SubW.nil ⟨?_,rfl⟩
 rfl
theorem Pd{a b:Prop}(k:b)(h:Rm b→a:=by intro k;(first|refine Z02 ?_|refine Z03 ?_|refine Z04 ?_|refine Z05 ?_|refine Z06 ?_|refine Z07 ?_|refine Z08 ?_|refine Z09 ?_|refine Z10 ?_|refine Z11 ?_|refine Z12 ?_|refine Z13 ?_|refine Z14 ?_|refine Z24 ?_|refine Z26 ?_|refine Z27 ?_|refine Z67 ?_);exact k.h):a:=h ⟨k⟩
theorem RE{P:Kf.K2.Pt p}(h:Kf.K2.Onc b2c P)(hr:Kf.K2.tim P 52435875175126190479447740508185965837690552500527637822603658699938581184513=none):Spec Tryz.prog 61 [GV P] ai [] (IsV (.bool true)):=by
 refine ad Tryz.func61 rfl rfl rfl fun w _=>?_
 have hl0:=fun x=>ae 6 x
 have hle:=fun x:F2=>ak x
 have ho:=IC h hr
 obtain⟨x1,y1,i1,hq⟩:∃x1 y1 i1,GV P=GE x1 y1 i1:=⟨_,_,_,rfl⟩
 rw[hq]at ho ⊢
 repeat (first|refine dM ?_|refine y_4 ho ?_|refine Pd ?_|refine Z81 fun _=>?_)
 refine Ze1 fun _ hw=>aa hw SubW.nil ⟨?_,rfl⟩
 rfl
theorem SJ(u v:F2):Kf.K2.tim (g8 u v) 52435875175126190479447740508185965837690552500527637822603658699938581184513=none:=Lo (Kf.K2.dk p_3 (fV u) (fV v))
end
end Go.Proofs.YtndhfbecpghinaaGreat.L
namespace Go.Proofs.YtndhfbecpghinaaGreat.L.Kf
namespace T6
variable {n:Nat} [NeZero n]
def cr(a b c d e f:K2 n):K2 n:=K2.sub (K2.mul (K2.add a b) (K2.add c d)) (K2.add e f)
attribute [local irreducible] K2.add K2.mul K2.sub K2.neg K2.zero K2.one K2.inv K2.xi
theorem rm(x y:T6 n):(⟨K2.add (K2.mul x.a y.a) (K2.mul K2.xi (cr x.b x.c y.b y.c (K2.mul x.b y.b) (K2.mul x.c y.c))),K2.add (cr x.a x.b y.a y.b (K2.mul x.a y.a) (K2.mul x.b y.b)) (K2.mul K2.xi (K2.mul x.c y.c)),K2.add (cr x.a x.c y.a y.c (K2.mul x.a y.a) (K2.mul x.c y.c)) (K2.mul x.b y.b)⟩:T6 n)=mul x y:=by
 unfold cr
 exact ext'
  (CR.aH (x:=(.a (.m (.v 0) (.v 3)) (.m (.v 6) (.s (.m (.a (.v 1) (.v 2)) (.a (.v 4) (.v 5))) (.a (.m (.v 1) (.v 4)) (.m (.v 2) (.v 5))))))) (y:=(.a (.m (.v 0) (.v 3)) (.m (.v 6) (.a (.m (.v 1) (.v 5)) (.m (.v 2) (.v 4)))))) (by decide +kernel) [x.a,x.b,x.c,y.a,y.b,y.c,K2.xi])
  (CR.aH (x:=(.a (.s (.m (.a (.v 0) (.v 1)) (.a (.v 3) (.v 4))) (.a (.m (.v 0) (.v 3)) (.m (.v 1) (.v 4)))) (.m (.v 6) (.m (.v 2) (.v 5))))) (y:=(.a (.a (.m (.v 0) (.v 4)) (.m (.v 1) (.v 3))) (.m (.v 6) (.m (.v 2) (.v 5))))) (by decide +kernel) [x.a,x.b,x.c,y.a,y.b,y.c,K2.xi])
  (CR.aH (x:=(.a (.s (.m (.a (.v 0) (.v 2)) (.a (.v 3) (.v 5))) (.a (.m (.v 0) (.v 3)) (.m (.v 2) (.v 5)))) (.m (.v 1) (.v 4)))) (y:=(.a (.a (.m (.v 0) (.v 5)) (.m (.v 1) (.v 4))) (.m (.v 2) (.v 3)))) (by decide +kernel) [x.a,x.b,x.c,y.a,y.b,y.c,K2.xi])
theorem RV(x:T6 n)(k:K2 n):mul x (em k)=⟨K2.mul x.a k,K2.mul x.b k,K2.mul x.c k⟩:=by
 unfold mul em
 simp only[K2.aj,K2.add_zero',K2.aM]
theorem VJ(x:T6 n):(⟨K2.mul K2.xi x.c,x.a,x.b⟩:T6 n)=mul vv x:=by
 unfold mul vv
 simp only[K2.aj,K2.aG,K2.add_zero',K2.aM,K2.aR]
end T6
namespace T12
variable {n:Nat} [NeZero n]
attribute [local irreducible] T6.add T6.mul T6.sub T6.neg T6.zero T6.one T6.inv T6.vv
theorem rm(x y:T12 n):(⟨T6.add (T6.mul x.a y.a) (T6.mul T6.vv (T6.mul x.b y.b)),T6.sub (T6.mul (T6.add x.a x.b) (T6.add y.a y.b)) (T6.add (T6.mul x.a y.a) (T6.mul x.b y.b))⟩:T12 n)=mul x y:=
 ext' rfl (CR.aH (x:=(.s (.m (.a (.v 0) (.v 1)) (.a (.v 2) (.v 3))) (.a (.m (.v 0) (.v 2)) (.m (.v 1) (.v 3))))) (y:=(.a (.m (.v 0) (.v 3)) (.m (.v 1) (.v 2)))) (by decide +kernel) [x.a,x.b,y.a,y.b])
end T12
end Go.Proofs.YtndhfbecpghinaaGreat.L.Kf
namespace Go.Proofs.YtndhfbecpghinaaGreat.L
open Go Go.Proofs
set_option maxRecDepth 100000
section
attribute [local irreducible] Code.wp wpList Af bodyPost L.Go ab
open Num
attribute [local simp] ae
abbrev F6:=Kf.T6 p
abbrev E6(x:F6):List Nat:=E2 x.a++(E2 x.b++E2 x.c)
theorem dj(x:F6):(E6 x).length=36:=by simp
theorem Tt(x:F2):(⟨x.re-x.im,x.re+x.im⟩:F2)=Kf.K2.mul Kf.K2.xi x:=by
 unfold Kf.K2.mul Kf.K2.xi
 exact Kf.K2.ext' (by grind) (by grind)
theorem FD(x:F2):Spec Tryz.prog 165 [LV .u64 (E2 x)] ai [] (IsV (LV .u64 (E2 (Kf.K2.mul Kf.K2.xi x)))):=by
 have:=Xv x;rwa [Tt]at this
theorem fy{m:Nat}{xss:List (List Nat)}(h:∀v∈xss,v.length=m):xss.flatten.length=xss.length*m:=by
 induction xss with
 | nil=>simp
 | cons x r ih=>
  rw[List.flatten_cons,List.length_append,h x (by simp),ih fun v hv=>h v (by simp[hv]),List.length_cons,Nat.succ_mul,Nat.add_comm]
def pC(l:List F2):F2:=l.foldl Kf.K2.add Kf.K2.zero
theorem Tg{l:List F2}{i:Nat}{x:F2}(h:l[i]?=some x):Kf.K2.add (pC (l.take i)) x=pC (l.take (i+1)):=by
 rw[List.take_add_one,h]
 simp only[pC,Option.toList,List.foldl_append,List.foldl_cons,List.foldl_nil]
def E2s(l:List F2):List (List Nat):=l.map E2
theorem La(l:List F2):∀v∈E2s l,v.length=12:=by
 intro v hv
 obtain⟨x,_,rfl⟩:=List.mem_map.1 hv
 exact ak x
attribute [local irreducible] pC E2s
theorem un{a b:Prop}(k:b)(h:Rm b→a:=by intro k;(first|refine Z01 ?_|refine Z03 ?_|refine Z04 ?_|refine Z05 ?_|refine Z06 ?_|refine Z07 ?_|refine Z08 ?_|refine Z09 ?_|refine Z10 ?_|refine Z11 ?_|refine Z12 ?_|refine Z13 ?_|refine Z14 ?_|refine Z15 ?_|refine Z17 ?_|refine Z18 ?_|refine Z20 ?_|refine Z21 ?_|refine Z22 ?_|refine Z23 ?_|refine Z24 ?_|refine Z26 ?_|refine Z27 ?_|refine Z29 ?_|refine Z30 ?_|refine Z31 ?_|refine Z32 ?_|refine Z67 ?_);exact k.h):a:=h ⟨k⟩
set_option maxHeartbeats 2000000 in
theorem FL(s:Value)(xs:List F2)(hl:xs.length<1000000):Spec Tryz.prog 164 [s] (fun w=>Rd w (wide 12 s) ((E2s xs).flatten.map (N .u64))) [] (IsV (LV .u64 (E2 (pC xs)))):=by
 refine ad Tryz.func164 rfl rfl rfl fun w hr=>?_
 have h1:=RdC.mk0 hr
 have hE:=La xs
 have el:(E2s xs).length=xs.length:=by unfold E2s;simp
 have hxl:((E2s xs).flatten.map (N .u64)).length=xs.length*12:=by rw[List.length_map,fy hE,el]
 have e0:pC (xs.take 0)=Kf.K2.zero:=by unfold pC;rfl
 have hz12:List.replicate 12 0=E2 (pC (xs.take 0)):=by rw[e0,ww]
 repeat (first|(refine bG ?_;intro _)|refine ie (m:=12) (k:=xs.length) (s:=s) (by rfl) (by rfl) (RdW.old h1) (by decide) hxl (by rfl) ?_|refine un ?_|refine Z82 fun _=>?_)
 rw[hz12]
 rename_i p2
 refine az (ι:=Nat) (fun i=>i≤xs.length) (fun i=>[(5,s),(6,N .i64 xs.length),(7,N .i64 i),(2,pt p2 0)]) (fun i=>[.blk p2 (LV .u64 (E2 (pC (xs.take i)))) 34]) (fun i=>xs.length-i) 0 (by omega) sbq sw ?_
 intro i hi
 repeat (first|refine un ?_|refine Z82 fun _=>?_)
 refine an (by rfl) (fun h=>?_) (fun h=>?_)
 ·obtain⟨x,hx⟩:∃x,xs[i]?=some x:=⟨_,List.getElem?_eq_getElem h⟩
  have hz:(E2s xs)[i]?=some (E2 x):=by unfold E2s;rw[List.getElem?_map,hx];rfl
  have hs:=cX (pC (xs.take i)) x
  rw[Tg hx]at hs
  repeat (first|(refine bG ?_;intro _)|refine fh (m:=12) (s:=s) (i:=i) (k:=xs.length) (by rfl) (by rfl) (by rfl) (by rfl) (RdW.old h1) (by decide) hxl h (by rfl) ?_|refine eI (m:=12) (s:=wide 12 s) (i:=i) (by rfl) (by rfl) (by rfl) (RdW.old h1) hE hz (by decide) (by rfl) ?_|refine eP ?_|refine y_4 hs ?_|refine un ?_|refine Z82 fun _=>?_)
  exact ao (i+1) (by omega) (by omega) sbq sw
 ·have hi':i=xs.length:=by omega
  subst hi'
  rw[List.take_length]
  repeat (first|refine eP ?_|refine Z01 ?_|refine Z03 ?_|refine Z04 ?_|refine Z05 ?_|refine Z06 ?_|refine Z07 ?_|refine Z08 ?_|refine Z09 ?_|refine Z10 ?_|refine Z11 ?_|refine Z12 ?_|refine Z13 ?_|refine Z14 ?_|refine Z15 ?_|refine Z17 ?_|refine Z18 ?_|refine Z20 ?_|refine Z21 ?_|refine Z22 ?_|refine Z23 ?_|refine Z24 ?_|refine Z26 ?_|refine Z27 ?_|refine Z29 ?_|refine Z30 ?_|refine Z31 ?_|refine Z32 ?_|refine Z67 ?_|refine Z82 fun _=>?_)
  refine Zec fun _ hw=>aa hw SubW.nil ⟨?_,rfl⟩
  rfl
abbrev LE2(x:F2):Value:=LV .u64 (E2 x)
abbrev LE6(x:F6):Value:=LV .u64 (E6 x)
def Lc(w:World)(o:List (Nat×F2)):Prop:=∀q∈o,eM w q.1 (LV .u64 (E2 q.2)) 34
def WG(c:Cx)(o:List (Nat×F2)):Prop:=∀q∈o,OldB c q.1 (LV .u64 (E2 q.2)) 34
theorem lE{a b:Prop}(k:b)(h:Rm b→a:=by intro k;refine ar (v:=LV .u64 (List.replicate 36 0)) (by rfl) (by rfl) ?_;exact k.h):a:=h ⟨k⟩
theorem Pe{a b:Prop}(k:b)(h:Rm b→a:=by intro k;(first|refine Z01 ?_|refine Z03 ?_|refine Z04 ?_|refine Z05 ?_|refine Z06 ?_|refine Z07 ?_|refine Z08 ?_|refine Z09 ?_|refine Z10 ?_|refine Z11 ?_|refine Z12 ?_|refine Z13 ?_|refine Z14 ?_|refine Z24 ?_|refine Z26 ?_|refine Z27 ?_|refine Z29 ?_|refine Z30 ?_|refine Z31 ?_|refine Z32 ?_|refine Z67 ?_);exact k.h):a:=h ⟨k⟩
set_option maxHeartbeats 2000000 in
theorem mf{F:FuncId}{caps:List Value}{o:List (Nat×F2)}{g:F2→F2}(hF:∀x,Spec Tryz.prog F ([LV .u64 (E2 x)]++caps) (fun w=>Lc w o) [] (IsV (LV .u64 (E2 (g x)))))(x y z:F2):
  Spec Tryz.prog 168 [LV .u64 (E2 x++(E2 y++E2 z)),.func (.func F) #[] caps.toArray] (fun w=>Lc w o) [] (IsV (LV .u64 (E2 (g x)++(E2 (g y)++E2 (g z))))):=by
 refine ad Tryz.func168 rfl rfl rfl fun w hr=>?_
 have ho:WG ⟨w,fps []⟩ o:=fun q hq=>OldB.mk0 (hr q hq)
 have hl0:=fun x=>ae 6 x
 have hle:=fun x:F2=>ak x
 have a1:=hF x
 have a2:=hF y
 have a3:=hF z
 repeat (first|(refine lE ?_;intro _)|refine Pe ?_|refine Z81 fun _=>?_|refine Z82 fun _=>?_)
 refine R.ag [0,1,2,3,4,5,6,7,8,9,10,11,12,13] (by rfl) ?_
 repeat (first|(refine R.Zpf (by rfl) (by intro _ _ _;(first|refine bI ?_|refine je ?_|refine si ?_|refine Z01 ?_);exact Zq) ?_)|refine aL ?_|refine jN ?_|refine jO ?_|refine jP ?_|refine cB ?_|(refine R.Zpp (by rfl) (by intro _ _ _;refine af (by rfl) (by rfl) (by rfl) (a1) (fun w hw q hq=>((ho q hq).shift (by assumption)).now w hw) (by rfl) ?_;exact Zq) ?_)|(refine R.Zpp (by rfl) (by intro _ _ _;refine af (by rfl) (by rfl) (by rfl) (a2) (fun w hw q hq=>((ho q hq).shift (by assumption)).now w hw) (by rfl) ?_;exact Zq) ?_)|(refine R.Zpp (by rfl) (by intro _ _ _;refine af (by rfl) (by rfl) (by rfl) (a3) (fun w hw q hq=>((ho q hq).shift (by assumption)).now w hw) (by rfl) ?_;exact Zq) ?_)|refine lF ?_|(refine aV ?_;intro _))
 refine R.Zp0 ?_
 repeat (first|refine Pe ?_|refine Z81 fun _=>?_|refine Z82 fun _=>?_)
 refine Zec fun _ hw=>aa hw SubW.nil ⟨?_,rfl⟩
 rfl
end
section
attribute [local irreducible] Code.wp wpList Af bodyPost L.Go ab
open Num
attribute [local simp] ae
theorem noL(w:World):Lc w []:=fun _ h=>by cases h
theorem oM(x:F6):Spec Tryz.prog 157 [LE6 x] ai [] (IsV (LE6 x)):=by
  refine ad Tryz.func157 rfl rfl rfl fun w hr=>?_
  have hle:=dj x
  repeat (first|(refine lE ?_;intro _)|refine af (by rfl) (by rfl) (by rfl) (mf (caps:=[]) (o:=[]) (g:=id) (fun y=>⟨(C2 y).call,fun w _=>(C2 y).run w trivial⟩) x.a x.b x.c) (fun w _=>noL w) (by rfl) ?_|refine bW ?_|refine Z81 fun _=>?_|refine Z82 fun _=>?_)
  refine Zec fun _ hw=>aa hw SubW.nil ⟨?_,rfl⟩
  rfl
theorem uh(x:F6):Spec Tryz.prog 158 [LE6 x] ai [] (IsV (LE6 (Kf.T6.neg x))):=by
  refine ad Tryz.func158 rfl rfl rfl fun w hr=>?_
  have hle:=dj x
  repeat (first|(refine lE ?_;intro _)|refine af (by rfl) (by rfl) (by rfl) (mf (caps:=[]) (o:=[]) (g:=Kf.K2.neg) (fun y=>⟨(o8 y).call,fun w _=>(o8 y).run w trivial⟩) x.a x.b x.c) (fun w _=>noL w) (by rfl) ?_|refine bW ?_|refine Z81 fun _=>?_|refine Z82 fun _=>?_)
  refine Zec fun _ hw=>aa hw SubW.nil ⟨?_,rfl⟩
  rfl
theorem Wd{a b:Prop}(k:b)(h:Rm b→a:=by intro k;(first|refine bI ?_|refine je ?_|refine si ?_);exact k.h):a:=h ⟨k⟩
theorem Wo{a b:Prop}(k:b)(h:Rm b→a:=by intro k;refine R.Zpf (by rfl) (by intro _ _ _;(first|refine Wd ?_);exact Zq) ?_;exact k.h):a:=h ⟨k⟩
theorem DW{a b:Prop}(k:b)(h:Rm b→a:=by intro k;(first|refine Wo ?_|refine aL ?_|refine jN ?_|refine jO ?_|refine jP ?_|refine cB ?_);exact k.h):a:=h ⟨k⟩
theorem kY(x y:F6):Spec Tryz.prog 148 [LE6 x,LE6 y] ai [] (IsV (LE6 (Kf.T6.add x y))):=by
  refine ad Tryz.func148 rfl rfl rfl fun w hr=>?_
  have hl0:=fun x=>ae 6 x
  have hle:=fun x:F2=>ak x
  have a1:=cX x.a y.a
  have a2:=cX x.b y.b
  have a3:=cX x.c y.c
  repeat (first|(refine lE ?_;intro _)|refine bW ?_|refine Z81 fun _=>?_|refine Z82 fun _=>?_)
  refine R.ag [0,1,2,3,4,5,6,7,8,9,10,11,12,13,14,15,16] (by rfl) ?_
  repeat (first|refine DW ?_|refine ah a1 ?_|refine ah a2 ?_|refine ah a3 ?_|refine lF ?_|(refine aV ?_;intro _))
  refine R.Zp0 ?_
  repeat (first|refine bW ?_|refine Z81 fun _=>?_|refine Z82 fun _=>?_)
  refine Zec fun _ hw=>aa hw SubW.nil ⟨?_,rfl⟩
  rfl
theorem ui(x y:F6):Spec Tryz.prog 150 [LE6 x,LE6 y] ai [] (IsV (LE6 (Kf.T6.sub x y))):=by
  refine ad Tryz.func150 rfl rfl rfl fun w hr=>?_
  have hl0:=fun x=>ae 6 x
  have hle:=fun x:F2=>ak x
  have a1:=bE x.a y.a
  have a2:=bE x.b y.b
  have a3:=bE x.c y.c
  repeat (first|(refine lE ?_;intro _)|refine bW ?_|refine Z81 fun _=>?_|refine Z82 fun _=>?_)
  refine R.ag [0,1,2,3,4,5,6,7,8,9,10,11,12,13,14,15,16] (by rfl) ?_
  repeat (first|refine DW ?_|refine ah a1 ?_|refine ah a2 ?_|refine ah a3 ?_|refine lF ?_|(refine aV ?_;intro _))
  refine R.Zp0 ?_
  repeat (first|refine bW ?_|refine Z81 fun _=>?_|refine Z82 fun _=>?_)
  refine Zec fun _ hw=>aa hw SubW.nil ⟨?_,rfl⟩
  rfl
theorem NO(x:F6):Spec Tryz.prog 149 [LE6 x] ai [] (IsV (LE6 ⟨Kf.K2.mul Kf.K2.xi x.c,x.a,x.b⟩)):=by
 refine ad Tryz.func149 rfl rfl rfl fun w hr=>?_
 have hl0:=fun x=>ae 6 x
 have hle:=fun x:F2=>ak x
 have a1:=FD x.c
 have a2:=C2 x.a
 have a3:=C2 x.b
 repeat (first|(refine lE ?_;intro _)|refine bW ?_|refine Z81 fun _=>?_|refine Z82 fun _=>?_)
 refine R.ag [0,1,2,3,4,5,6,7,8,9,10] (by rfl) ?_
 repeat (first|refine DW ?_|refine ah a1 ?_|refine ah a2 ?_|refine ah a3 ?_|refine lF ?_|(refine aV ?_;intro _))
 refine R.Zp0 ?_
 repeat (first|refine bW ?_|refine Z81 fun _=>?_|refine Z82 fun _=>?_)
 refine Zec fun _ hw=>aa hw SubW.nil ⟨?_,rfl⟩
 rfl
def jl(a b c d e f:F2):F2:=Kf.K2.sub (Kf.K2.mul (Kf.K2.add a b) (Kf.K2.add c d)) (Kf.K2.add e f)
theorem kA(a b c d e f:F2):Spec Tryz.prog 163 [LE2 a,LE2 b,LE2 c,LE2 d,LE2 e,LE2 f] ai [] (IsV (LE2 (jl a b c d e f))):=by
 refine ad Tryz.func163 rfl rfl rfl fun w hr=>?_
 have hl0:=fun x=>ae 6 x
 have hle:=fun x:F2=>ak x
 have a1:=cX a b
 have a2:=cX c d
 have a3:=cX e f
 have a4:=aF (Kf.K2.add a b) (Kf.K2.add c d)
 have a5:=bE (Kf.K2.mul (Kf.K2.add a b) (Kf.K2.add c d)) (Kf.K2.add e f)
 repeat (first|(refine bG ?_;intro _)|refine bW ?_|refine Z81 fun _=>?_|refine Z82 fun _=>?_)
 refine R.ag [0,1,2,3,4,5,6,7,8,9,10,11] (by rfl) ?_
 repeat (first|(refine R.Zpf (by rfl) (by intro _ _ _;(first|contradiction);exact Zq) ?_)|refine aL ?_|refine cB ?_|refine ah a1 ?_|refine ah a2 ?_|refine ah a3 ?_|refine ah a4 ?_|refine ah a5 ?_|refine aA ?_|(refine aV ?_;intro _))
 refine R.Zp0 ?_
 repeat (first|refine bW ?_|refine Z81 fun _=>?_|refine Z82 fun _=>?_)
 refine Zec fun _ hw=>aa hw SubW.nil ⟨?_,rfl⟩
 rfl
theorem FU(k x:F2)(b:Nat):Spec Tryz.prog 172 [LE2 x,pt b 0] (fun w=>Lc w [(b,k)]) [] (IsV (LE2 (Kf.K2.mul x k))):=by
 refine ad Tryz.func172 rfl rfl rfl fun w hr=>?_
 have h1:=OldB.mk0 (hr _ (List.mem_singleton.2 rfl))
 have hl0:=fun x=>ae 6 x
 have hle:=fun x:F2=>ak x
 have a1:=aF x k
 repeat (first|(refine bG ?_;intro _)|refine TL h1 ?_|refine eP ?_|refine y_4 a1 ?_|refine bW ?_|refine Z81 fun _=>?_|refine Z82 fun _=>?_)
 refine Zec fun _ hw=>aa hw SubW.nil ⟨?_,rfl⟩
 rfl
theorem Pf{a b:Prop}(k:b)(h:Rm b→a:=by intro k;(first|refine Z03 ?_|refine Z04 ?_|refine Z05 ?_|refine Z06 ?_|refine Z07 ?_|refine Z08 ?_|refine Z09 ?_|refine Z10 ?_|refine Z11 ?_|refine Z12 ?_|refine Z13 ?_|refine Z14 ?_|refine Z24 ?_|refine Z26 ?_|refine Z27 ?_|refine Z29 ?_|refine Z30 ?_|refine Z31 ?_|refine Z32 ?_|refine Z48 ?_|refine Z67 ?_);exact k.h):a:=h ⟨k⟩
theorem zk(x:F6)(k:F2):Spec Tryz.prog 169 [LE6 x,LE2 k] ai [] (IsV (LE6 ⟨Kf.K2.mul x.a k,Kf.K2.mul x.b k,Kf.K2.mul x.c k⟩)):=by
 refine ad Tryz.func169 rfl rfl rfl fun w hr=>?_
 have hl0:=fun x=>ae 6 x
 have hle:=fun x:F2=>ak x
 have hl6:=dj x
 repeat (first|(refine lE ?_;intro _)|refine Pf ?_|refine Z81 fun _=>?_|refine Z82 fun _=>?_)
 repeat (first|(refine af (by rfl) (by rfl) (by rfl) (mf (caps:=[pt _ 0]) (o:=[(_,k)]) (g:=fun y=>Kf.K2.mul y k) (fun y=>FU k y _) x.a x.b x.c) (fun w hw q hq=>by rw[List.mem_singleton.1 hq];exact eM.own fd w hw) (by rfl) ?_)|refine Pf ?_|refine Z81 fun _=>?_|refine Z82 fun _=>?_)
 refine Zec fun _ hw=>aa hw SubW.nil ⟨?_,rfl⟩
 rfl
end
section
attribute [local irreducible] Code.wp wpList Af bodyPost L.Go ab
open Num
attribute [local simp] ae
abbrev sl2(x y:F2):List (List Nat):=[E2 x,E2 y]
theorem jA(x y:F2):∀v∈sl2 x y,v.length=12:=by
 intro v hv
 rcases List.mem_cons.1 hv with rfl | hv
 ·exact ak x
 ·rw[List.mem_singleton.1 hv];exact ak y
theorem Xu(x y:F2):pC [x,y]=Kf.K2.add x y:=by
 unfold pC
 show Kf.K2.add (Kf.K2.add Kf.K2.zero x) y=_
 rw[Kf.K2.aM]
theorem il(s:Value)(x y:F2):Spec Tryz.prog 164 [s] (fun w=>Rd w (wide 12 s) ((sl2 x y).flatten.map (N .u64))) [] (IsV (LE2 (Kf.K2.add x y))):=by
 have:=FL s [x,y] (by simp)
 rw[Xu]at this
 unfold E2s at this
 exact this
theorem SM(x y:F2):(sl2 x y).flatten.length=2*12:=by simp
attribute [local irreducible] jl
theorem uo{a b:Prop}(k:b)(h:Rm b→a:=by intro k;(first|refine Z01 ?_|refine Z02 ?_|refine Z03 ?_|refine Z04 ?_|refine Z05 ?_|refine Z06 ?_|refine Z07 ?_|refine Z08 ?_|refine Z09 ?_|refine Z10 ?_|refine Z11 ?_|refine Z12 ?_|refine Z13 ?_|refine Z14 ?_|refine Z24 ?_|refine Z26 ?_|refine Z27 ?_|refine Z29 ?_|refine Z30 ?_|refine Z31 ?_|refine Z32 ?_|refine Z67 ?_);exact k.h):a:=h ⟨k⟩
theorem zu{S1 a b:Prop}(s1:S1)(k:b)(h:S1→Rm b→a:=by intro s1 k;refine R.Zpp (by rfl) (by intro _ _ _;refine af (by rfl) (by rfl) (by rfl) s1 (RdW.slv fd (SM _ _)) (by rfl) ?_;exact Zq) ?_;exact k.h):a:=h s1 ⟨k⟩
theorem KM{a b:Prop}(k:b)(h:Rm b→a:=by intro k;(first|refine jN ?_|refine jO ?_|refine jP ?_|refine cB ?_);exact k.h):a:=h ⟨k⟩
set_option maxHeartbeats 4000000 in
theorem J8(x y:F6):Spec Tryz.prog 146 [LE6 x,LE6 y] ai [] (IsV (LE6 ⟨Kf.K2.add (Kf.K2.mul x.a y.a) (Kf.K2.mul Kf.K2.xi (jl x.b x.c y.b y.c (Kf.K2.mul x.b y.b) (Kf.K2.mul x.c y.c))),
  Kf.K2.add (jl x.a x.b y.a y.b (Kf.K2.mul x.a y.a) (Kf.K2.mul x.b y.b)) (Kf.K2.mul Kf.K2.xi (Kf.K2.mul x.c y.c)),Kf.K2.add (jl x.a x.c y.a y.c (Kf.K2.mul x.a y.a) (Kf.K2.mul x.c y.c)) (Kf.K2.mul x.b y.b)⟩)):=by
 refine ad Tryz.func146 rfl rfl rfl fun w hr=>?_
 have hl0:=fun x=>ae 6 x
 have hle:=fun x:F2=>ak x
 obtain⟨x0,x1,x2⟩:=x
 obtain⟨y0,y1,y2⟩:=y
 have a1:=aF x0 y0
 have a2:=aF x1 y1
 have a3:=aF x2 y2
 have c1:=kA x1 x2 y1 y2 (Kf.K2.mul x1 y1) (Kf.K2.mul x2 y2)
 have c2:=kA x0 x1 y0 y1 (Kf.K2.mul x0 y0) (Kf.K2.mul x1 y1)
 have c3:=kA x0 x2 y0 y2 (Kf.K2.mul x0 y0) (Kf.K2.mul x2 y2)
 show Go _ _ [(0,LV .u64 (E2 x0++(E2 x1++E2 x2))),(1,LV .u64 (E2 y0++(E2 y1++E2 y2)))] _ _
 show Go _ _ _ _ (_)
 generalize jl x1 x2 y1 y2 (Kf.K2.mul x1 y1) (Kf.K2.mul x2 y2)=k1 at *
 generalize jl x0 x1 y0 y1 (Kf.K2.mul x0 y0) (Kf.K2.mul x1 y1)=k2 at *
 generalize jl x0 x2 y0 y2 (Kf.K2.mul x0 y0) (Kf.K2.mul x2 y2)=k3 at *
 have e1:=FD k1
 have e2:=FD (Kf.K2.mul x2 y2)
 generalize Kf.K2.mul x0 y0=z0 at *
 generalize Kf.K2.mul x1 y1=z1 at *
 generalize Kf.K2.mul x2 y2=z2 at *
 generalize Kf.K2.mul Kf.K2.xi k1=v1 at *
 generalize Kf.K2.mul Kf.K2.xi z2=v2 at *
 have s1:=fun b=>il (slv b 2) z0 v1
 have s2:=fun b=>il (slv b 2) k2 v2
 have s3:=fun b=>il (slv b 2) k3 z1
 generalize Kf.K2.add z0 v1=t1 at *
 generalize Kf.K2.add k2 v2=t2 at *
 generalize Kf.K2.add k3 z1=t3 at *
 repeat (first|(refine lE ?_;intro _)|refine uo ?_|refine Z81 fun _=>?_|refine Z82 fun _=>?_|refine Z85 fun _=>?_)
 rename_i p2 p3 p4
 refine Nd (fun a b d=>[(2,pt p2 0),(3,pt p3 0),(4,pt p4 0),(5,pt a 0),(6,pt b 0),(7,pt d 0)]) (fun a b d=>[.blk a (LE2 z0) 34,.blk b (LE2 z1) 34,.blk d (LE2 z2) 34,.blk p4 (LV .u64 (List.replicate 36 0)) 136,.blk p3 (LV .u64 (E2 y0++(E2 y1++E2 y2))) 136,.blk p2 (LV .u64 (E2 x0++(E2 x1++E2 x2))) 136]) (fun p5 p6 p7=>?_) (fun hK=>?_)
 case refine_2=>
  refine R.ag [0,1,2,3,4,5,6,7,8,9,10,11,12,13,14,15,16,17,18,19,20] (by rfl) ?_
  repeat' (first|(refine R.Zpf (by rfl) (by intro _ _ _;(first|refine bI ?_|refine je ?_|refine Z01 ?_|refine Z02 ?_);exact Zq) ?_)|refine aL ?_|refine jN ?_|refine jO ?_|refine jP ?_|refine cB ?_|refine ah a1 ?_|refine ah a2 ?_|refine ah a3 ?_|refine aA ?_|(refine R.T9 (R.Mks.mk (R.Mk.mk' (by rfl) (by intro _ _ _;refine ar (v:=LV .u64 (List.replicate 12 0)) (by rfl) (by rfl) fun _=>?_;first|exact R.iH|exact R.dN|exact R.iI)) (fun _=>?_)) (R.Mks.mk (R.Mk.mk' (by rfl) (by intro _ _ _;refine ar (v:=LV .u64 (List.replicate 12 0)) (by rfl) (by rfl) fun _=>?_;first|exact R.iH|exact R.dN|exact R.iI)) (fun _=>?_)) (R.Mks.mk (R.Mk.mk' (by rfl) (by intro _ _ _;refine ar (v:=LV .u64 (List.replicate 12 0)) (by rfl) (by rfl) fun _=>?_;first|exact R.iH|exact R.dN|exact R.iI)) (fun _=>?_)))|(refine R.Ga (R.Mks.mk (R.Mk.mk' (by rfl) (by intro _ _ _;refine ar (v:=LV .u64 (List.replicate 12 0)) (by rfl) (by rfl) fun _=>?_;first|exact R.iH|exact R.dN|exact R.iI)) (fun _=>?_)) (R.Mks.mk (R.Mk.mk' (by rfl) (by intro _ _ _;refine ar (v:=LV .u64 (List.replicate 12 0)) (by rfl) (by rfl) fun _=>?_;first|exact R.iH|exact R.dN|exact R.iI)) (fun _=>?_)))|(refine fN ?_;intro _)|(refine sC ?_;intro _))
  all_goals refine R.Zp0 ?_
  all_goals exact dZ sbq sw (hK _ _ _)
 case refine_1=>
  repeat (first|refine uo ?_|refine Z81 fun _=>?_|refine Z82 fun _=>?_|refine Z85 fun _=>?_)
  refine R.ag [0,1,2,3,4,5,6,7,8,9,10,11,16,17,18,19,20,21,22,23,24,25,26,28,32,33,34,35,36,37,38,39,40,41,42,44,12,13,14,15,27,29,30,31,43,45,46,47,48] (by rfl) ?_
  repeat (first|(refine R.Zpf (by rfl) (by intro _ _ _;(first|refine bI ?_|refine je ?_|refine si ?_|refine Z01 ?_|refine Z02 ?_);exact Zq) ?_)|refine aL ?_|refine zu (s1 _) ?_|refine zu (s2 _) ?_|refine zu (s3 _) ?_|refine KM ?_|refine ah c1 ?_|refine ah c2 ?_|refine ah c3 ?_|refine ah e1 ?_|refine ah e2 ?_|refine lF ?_|(refine R.Zpd (by rfl) (by intro _ _ _;(refine av (m:=12) (kk:=.u64) (vss:=sl2 z0 v1) (by rfl) (by rfl) (by rfl) (by rfl) (by rfl) (by rfl) (by rfl) (jA _ _) (by rfl) (by rfl) fun _=>?_);exact R.dN) fun _=>?_)|(refine R.Zpd (by rfl) (by intro _ _ _;(refine av (m:=12) (kk:=.u64) (vss:=sl2 k2 v2) (by rfl) (by rfl) (by rfl) (by rfl) (by rfl) (by rfl) (by rfl) (jA _ _) (by rfl) (by rfl) fun _=>?_);exact R.dN) fun _=>?_)|(refine R.Zpd (by rfl) (by intro _ _ _;(refine av (m:=12) (kk:=.u64) (vss:=sl2 k3 z1) (by rfl) (by rfl) (by rfl) (by rfl) (by rfl) (by rfl) (by rfl) (jA _ _) (by rfl) (by rfl) fun _=>?_);exact R.dN) fun _=>?_)|(refine sC ?_;intro _))
  refine R.Zp0 ?_
  repeat (first|refine uo ?_|refine Z81 fun _=>?_|refine Z82 fun _=>?_|refine Z85 fun _=>?_)
  refine Zec fun _ hw=>aa hw SubW.nil ⟨?_,rfl⟩
  rfl
end
section
attribute [local irreducible] Code.wp wpList Af bodyPost L.Go ab
open Num
attribute [local simp] ae
theorem fK(x y:F6):Spec Tryz.prog 146 [LE6 x,LE6 y] ai [] (IsV (LE6 (Kf.T6.mul x y))):=by
 have:=J8 x y
 have e:=Kf.T6.rm x y
 unfold jl at this
 unfold Kf.T6.cr at e
 rwa [e]at this
theorem zl(x:F6):Spec Tryz.prog 149 [LE6 x] ai [] (IsV (LE6 (Kf.T6.mul Kf.T6.vv x))):=by
 have:=NO x
 rwa [Kf.T6.VJ]at this
theorem FV(x:F6)(k:F2):Spec Tryz.prog 169 [LE6 x,LE2 k] ai [] (IsV (LE6 (Kf.T6.mul x (Kf.T6.em k)))):=by
 have:=zk x k
 rwa [← Kf.T6.RV]at this
theorem Kp{a b:Prop}(k:b)(h:Rm b→a:=by intro k;refine R.Zpb (by rfl) (by intro _ _ _;refine ar (v:=LV .u64 (List.replicate 36 0)) (by rfl) (by rfl) fun _=>?_;exact R.eN) ?_;exact k.h):a:=h ⟨k⟩
set_option maxHeartbeats 4000000 in
theorem FR(x:F6):Spec Tryz.prog 159 [LE6 x] ai [] (IsV (LE6 (Kf.T6.inv x))):=by
 refine ad Tryz.func159 rfl rfl rfl fun w hr=>?_
 have hl0:=fun x=>ae 6 x
 have hle:=fun x:F2=>ak x
 have e0:Kf.T6.inv x=Kf.T6.mul (Kf.T6.cof x) (Kf.T6.em (Kf.K2.inv (Kf.T6.nrm x))):=rfl
 have e1:Kf.T6.nrm x=Kf.K2.add (Kf.K2.mul x.a (Kf.T6.cof x).a) (Kf.K2.mul Kf.K2.xi (Kf.K2.add (Kf.K2.mul x.c (Kf.T6.cof x).b) (Kf.K2.mul x.b (Kf.T6.cof x).c))):=rfl
 have c0:(Kf.T6.cof x).a=Kf.K2.sub (Kf.K2.mul x.a x.a) (Kf.K2.mul Kf.K2.xi (Kf.K2.mul x.b x.c)):=rfl
 have c1:(Kf.T6.cof x).b=Kf.K2.sub (Kf.K2.mul Kf.K2.xi (Kf.K2.mul x.c x.c)) (Kf.K2.mul x.a x.b):=rfl
 have c2:(Kf.T6.cof x).c=Kf.K2.sub (Kf.K2.mul x.b x.b) (Kf.K2.mul x.a x.c):=rfl
 have s9:=FV (Kf.T6.cof x) (Kf.K2.inv (Kf.T6.nrm x))
 rw[← e0]at s9
 have s8:=kw (Kf.T6.nrm x)
 generalize Kf.T6.inv x=r at *
 generalize Kf.K2.inv (Kf.T6.nrm x)=i at *
 generalize Kf.T6.cof x=z at *
 obtain⟨z0,z1,z2⟩:=z
 obtain⟨x0,x1,x2⟩:=x
 simp only at c0 c1 c2 e1
 have a1:=aF x0 x0
 have a2:=aF x1 x2
 have a3:=FD (Kf.K2.mul x1 x2)
 have a4:=bE (Kf.K2.mul x0 x0) (Kf.K2.mul Kf.K2.xi (Kf.K2.mul x1 x2))
 have b1:=aF x2 x2
 have b2:=FD (Kf.K2.mul x2 x2)
 have b3:=aF x0 x1
 have b4:=bE (Kf.K2.mul Kf.K2.xi (Kf.K2.mul x2 x2)) (Kf.K2.mul x0 x1)
 have d1:=aF x1 x1
 have d2:=aF x0 x2
 have d3:=bE (Kf.K2.mul x1 x1) (Kf.K2.mul x0 x2)
 rw[← c0]at a4
 rw[← c1]at b4
 rw[← c2]at d3
 have n1:=aF x0 z0
 have n2:=aF x2 z1
 have n3:=aF x1 z2
 have n4:=fun b=>il (slv b 2) (Kf.K2.mul x2 z1) (Kf.K2.mul x1 z2)
 have n5:=FD (Kf.K2.add (Kf.K2.mul x2 z1) (Kf.K2.mul x1 z2))
 have n6:=fun b=>il (slv b 2) (Kf.K2.mul x0 z0) (Kf.K2.mul Kf.K2.xi (Kf.K2.add (Kf.K2.mul x2 z1) (Kf.K2.mul x1 z2)))
 rw[← e1]at n6
 generalize Kf.K2.mul Kf.K2.xi (Kf.K2.add (Kf.K2.mul x2 z1) (Kf.K2.mul x1 z2))=m1 at *
 generalize Kf.K2.add (Kf.K2.mul x2 z1) (Kf.K2.mul x1 z2)=m2 at *
 generalize Kf.K2.mul x0 z0=m3 at *
 generalize Kf.K2.mul x2 z1=m4 at *
 generalize Kf.K2.mul x1 z2=m5 at *
 generalize Kf.T6.nrm ⟨x0,x1,x2⟩=nn at *
 clear e0 e1 c0 c1 c2
 generalize Kf.K2.mul Kf.K2.xi (Kf.K2.mul x1 x2)=k1 at *
 generalize Kf.K2.mul Kf.K2.xi (Kf.K2.mul x2 x2)=k2 at *
 generalize Kf.K2.mul x0 x0=k3 at *
 generalize Kf.K2.mul x1 x2=k4 at *
 generalize Kf.K2.mul x2 x2=k5 at *
 generalize Kf.K2.mul x0 x1=k6 at *
 generalize Kf.K2.mul x1 x1=k7 at *
 generalize Kf.K2.mul x0 x2=k8 at *
 have hz:(E2 z0++(E2 z1++E2 z2)).length=36:=eQ _ _ _
 repeat (first|(refine lE ?_;intro _)|refine bW ?_|refine Z81 fun _=>?_|refine Z82 fun _=>?_|refine Z85 fun _=>?_)
 refine R.ag [0,1,2,3,4,5,6,7,8,9,10,11,12,13,14,15,16,17,18,19,20,21,22,23,24,25,26,27,28,29,30,31,32,33,34,35,36,37] (by rfl) ?_
 repeat (first|refine DW ?_|refine ah a1 ?_|refine ah a2 ?_|refine ah a3 ?_|refine ah a4 ?_|refine ah b1 ?_|refine ah b2 ?_|refine ah b3 ?_|refine ah b4 ?_|refine ah d1 ?_|refine ah d2 ?_|refine ah d3 ?_|refine lF ?_|(refine Kp ?_;intro _)|(refine sC ?_;intro _))
 refine R.Zp0 ?_
 repeat (first|refine bW ?_|refine Z81 fun _=>?_|refine Z82 fun _=>?_|refine Z85 fun _=>?_)
 rename_i p1 p2 p3
 refine nz (fun a=>[(1,pt p1 0),(2,pt p2 0),(3,pt p3 0),(4,pt a 0)]) (fun a=>[.blk a (LE2 nn) 34,.blk p3 (LV .u64 (E2 z0++(E2 z1++E2 z2))) 136,.blk p2 (LV .u64 (List.replicate 36 0)) 136]) (fun p4=>?_) (fun hK=>?_)
 case refine_2=>
  refine R.ag [0,1,2,3,5,6,7,8,10,11,12,13,4,9,14,15,20,16,17,18,19,21] (by rfl) ?_
  repeat' (first|(refine R.Zpf (by rfl) (by intro _ _ _;(first|refine bI ?_|refine je ?_);exact Zq) ?_)|refine aL ?_|refine zu (n4 _) ?_|refine zu (n6 _) ?_|refine KM ?_|refine ah n1 ?_|refine ah n2 ?_|refine ah n3 ?_|refine ah n5 ?_|refine aA ?_|(refine R.Zpd (by rfl) (by intro _ _ _;(refine av (m:=12) (kk:=.u64) (vss:=sl2 m4 m5) (by rfl) (by rfl) (by rfl) (by rfl) (by rfl) (by rfl) (by rfl) (jA _ _) (by rfl) (by rfl) fun _=>?_);exact R.dN) fun _=>?_)|(refine R.Zpd (by rfl) (by intro _ _ _;(refine av (m:=12) (kk:=.u64) (vss:=sl2 m3 m1) (by rfl) (by rfl) (by rfl) (by rfl) (by rfl) (by rfl) (by rfl) (jA _ _) (by rfl) (by rfl) fun _=>?_);exact R.dN) fun _=>?_)|(refine R.zU (i:=15) (j:=20) [16,17,18,20,19,21] [15,16,17,18,19,21] (R.Mks.mk (R.Mk.mk' (by rfl) (by intro _ _ _;(refine av (m:=12) (kk:=.u64) (vss:=sl2 m4 m5) (by rfl) (by rfl) (by rfl) (by rfl) (by rfl) (by rfl) (by rfl) (jA _ _) (by rfl) (by rfl) fun _=>?_);first|exact R.iH|exact R.dN|exact R.iI)) (fun _=>?_)) (R.Mks.mk (R.Mk.mk' (by rfl) (by intro _ _ _;refine ar (v:=LV .u64 (List.replicate 12 0)) (by rfl) (by rfl) fun _=>?_;first|exact R.iH|exact R.dN|exact R.iI)) (fun _=>?_)))|(refine R.zU (i:=18) (j:=20) [19,20,21] [18,19,21] (R.Mks.mk (R.Mk.mk' (by rfl) (by intro _ _ _;(refine av (m:=12) (kk:=.u64) (vss:=sl2 m3 m1) (by rfl) (by rfl) (by rfl) (by rfl) (by rfl) (by rfl) (by rfl) (jA _ _) (by rfl) (by rfl) fun _=>?_);first|exact R.iH|exact R.dN|exact R.iI)) (fun _=>?_)) (R.Mks.mk (R.Mk.mk' (by rfl) (by intro _ _ _;refine ar (v:=LV .u64 (List.replicate 12 0)) (by rfl) (by rfl) fun _=>?_;first|exact R.iH|exact R.dN|exact R.iI)) (fun _=>?_)))|(refine fN ?_;intro _)|(refine sC ?_;intro _))
  all_goals refine R.Zp0 ?_
  all_goals exact dZ sbq sw (hK _)
 case refine_1=>
  repeat (first|refine bW ?_|refine Z81 fun _=>?_|refine Z82 fun _=>?_|refine Z85 fun _=>?_)
  refine R.ag [0,1,2,3,4] (by rfl) ?_
  repeat (first|(refine R.Zpf (by rfl) (by intro _ _ _;(first|refine bI ?_);exact Zq) ?_)|refine aL ?_|(refine R.Zpp (by rfl) (by intro _ _ _;(refine bH (by rfl) fd (by rfl) (by rfl) (ab.all hz) (by rfl) ?_);exact Zq) ?_)|refine KM ?_|refine ah s8 ?_|refine ah s9 ?_|refine lF ?_|(refine sC ?_;intro _))
  refine R.Zp0 ?_
  repeat (first|refine bW ?_|refine Z81 fun _=>?_|refine Z82 fun _=>?_|refine Z85 fun _=>?_)
  refine Zec fun _ hw=>aa hw SubW.nil ⟨?_,rfl⟩
  rfl
abbrev F12:=Kf.T12 p
abbrev E12(x:F12):List Nat:=E6 x.a++E6 x.b
abbrev bM(x:F12):Value:=LV .u64 (E12 x)
theorem be(x:F12):(E12 x).length=72:=by rw[List.length_append,dj,dj]
theorem ab.h0(x:F12):ab (E12 x) 0 36 (E6 x.a):=ab.l (dj _)
theorem ab.h1(x:F12):ab (E12 x) 36 36 (E6 x.b):=ab.r (dj _) (dj _)
theorem ab.k0(x:F12):ab (E12 x) 0 12 (E2 x.a.a):=ab.inl (ab.t0 (ak _))
theorem ab.k1(x:F12):ab (E12 x) 12 12 (E2 x.a.b):=ab.inl (ab.t1 (ak _) (ak _))
theorem ab.k2(x:F12):ab (E12 x) 24 12 (E2 x.a.c):=ab.inl (ab.t2 (ak _) (ak _) (ak _))
theorem ab.k3(x:F12):ab (E12 x) 36 12 (E2 x.b.a):=by
 have h:=ab.inr (xs:=E6 x.a) (show ab (E6 x.b) 0 12 (E2 x.b.a)from ab.t0 (ak x.b.a))
 rwa [dj]at h
theorem ab.k4(x:F12):ab (E12 x) 48 12 (E2 x.b.b):=by
 have h:=ab.inr (xs:=E6 x.a) (show ab (E6 x.b) 12 12 (E2 x.b.b)from ab.t1 (ak x.b.a) (ak x.b.b))
 rwa [dj]at h
theorem ab.k5(x:F12):ab (E12 x) 60 12 (E2 x.b.c):=by
 have h:=ab.inr (xs:=E6 x.a) (show ab (E6 x.b) 24 12 (E2 x.b.c)from ab.t2 (ak x.b.a) (ak x.b.b) (ak x.b.c))
 rwa [dj]at h
theorem ab.whole(x:F12):ab (E12 x) 0 72 (E12 x):=ab.all (be x)
theorem ab.whole6(x:F6):ab (E6 x) 0 36 (E6 x):=ab.all (dj x)
theorem cO{a b:Prop}(k:b)(h:Rm b→a:=by intro k;refine ar (v:=LV .u64 (List.replicate 72 0)) (by rfl) (by rfl) ?_;exact k.h):a:=h ⟨k⟩
theorem zv{a b:Prop}(k:b)(h:Rm b→a:=by intro k;refine oH (by rfl) (by first | exact(show _=some (0,36)from rfl) | exact(show _=some (36,36)from rfl) | exact(show _=some (0,12)from rfl) | exact(show _=some (12,12)from rfl) | exact(show _=some (24,12)from rfl)) (by rfl) (by rfl) ?_;exact k.h):a:=h ⟨k⟩
theorem Ph{a b:Prop}(k:b)(h:Rm b→a:=by intro k;refine cC (m:=36) (by rfl) (by rfl) (by rfl) (by rfl) (dj _) (dj _) (by rfl) ?_;exact k.h):a:=h ⟨k⟩
theorem zw{a b:Prop}(k:b)(h:Rm b→a:=by intro k;refine R.Zpp (by rfl) (by intro _ _ _;(refine bH (by rfl) fd (by rfl) (by rfl) (ab.k0 _) (by rfl) ?_);exact Zq) ?_;exact k.h):a:=h ⟨k⟩
theorem zx{a b:Prop}(k:b)(h:Rm b→a:=by intro k;refine R.Zpp (by rfl) (by intro _ _ _;(refine bH (by rfl) fd (by rfl) (by rfl) (ab.k1 _) (by rfl) ?_);exact Zq) ?_;exact k.h):a:=h ⟨k⟩
theorem zy{a b:Prop}(k:b)(h:Rm b→a:=by intro k;refine R.Zpp (by rfl) (by intro _ _ _;(refine bH (by rfl) fd (by rfl) (by rfl) (ab.k2 _) (by rfl) ?_);exact Zq) ?_;exact k.h):a:=h ⟨k⟩
theorem zz{a b:Prop}(k:b)(h:Rm b→a:=by intro k;refine R.Zpp (by rfl) (by intro _ _ _;(refine bH (by rfl) fd (by rfl) (by rfl) (ab.k3 _) (by rfl) ?_);exact Zq) ?_;exact k.h):a:=h ⟨k⟩
theorem zD{a b:Prop}(k:b)(h:Rm b→a:=by intro k;refine R.Zpp (by rfl) (by intro _ _ _;(refine bH (by rfl) fd (by rfl) (by rfl) (ab.k4 _) (by rfl) ?_);exact Zq) ?_;exact k.h):a:=h ⟨k⟩
theorem zE{a b:Prop}(k:b)(h:Rm b→a:=by intro k;refine R.Zpp (by rfl) (by intro _ _ _;(refine bH (by rfl) fd (by rfl) (by rfl) (ab.k5 _) (by rfl) ?_);exact Zq) ?_;exact k.h):a:=h ⟨k⟩
theorem zF{a b:Prop}(k:b)(h:Rm b→a:=by intro k;refine R.Zpp (by rfl) (by intro _ _ _;(refine bH (by rfl) fd (by rfl) (by rfl) (ab.h0 _) (by rfl) ?_);exact Zq) ?_;exact k.h):a:=h ⟨k⟩
theorem zI{a b:Prop}(k:b)(h:Rm b→a:=by intro k;refine R.Zpp (by rfl) (by intro _ _ _;(refine bH (by rfl) fd (by rfl) (by rfl) (ab.h1 _) (by rfl) ?_);exact Zq) ?_;exact k.h):a:=h ⟨k⟩
theorem Dz{a b:Prop}(k:b)(h:Rm b→a:=by intro k;refine R.Zps (by rfl) (by intro _ _ _;(refine aX (m:=72) (by rfl) (by rfl) fd (by rfl) (by simp) (be _) ?_);exact Zqq) ?_;exact k.h):a:=h ⟨k⟩
theorem PY{a b:Prop}(k:b)(h:Rm b→a:=by intro k;refine R.Zpf (by rfl) (by intro _ _ _;(first|refine zv ?_|refine Ph ?_);exact Zq) ?_;exact k.h):a:=h ⟨k⟩
theorem Qd{a b:Prop}(k:b)(h:Rm b→a:=by intro k;(first|refine PY ?_|refine aL ?_|refine zw ?_|refine zx ?_|refine zy ?_|refine zz ?_|refine zD ?_|refine zE ?_|refine zF ?_|refine zI ?_);exact k.h):a:=h ⟨k⟩
theorem nP{a b:Prop}(k:b)(h:Rm b→a:=by intro k;(first|refine aA ?_|refine Dz ?_);exact k.h):a:=h ⟨k⟩
theorem FQ(x:F12):Spec Tryz.prog 160 [bM x] ai [] (IsV (bM x)):=by
  refine ad Tryz.func160 rfl rfl rfl fun w hr=>?_
  have a1:=oM x.a
  have a2:=oM x.b
  repeat (first|(refine cO ?_;intro _)|refine bW ?_|refine Z81 fun _=>?_|refine Z82 fun _=>?_)
  refine R.ag [0,1,2,3,4,5,6,7] (by rfl) ?_
  repeat (first|refine Qd ?_|refine ah a1 ?_|refine ah a2 ?_|refine nP ?_|(refine aV ?_;intro _))
  refine R.Zp0 ?_
  repeat (first|refine bW ?_|refine Z81 fun _=>?_|refine Z82 fun _=>?_)
  refine Zec fun _ hw=>aa hw SubW.nil ⟨?_,rfl⟩
  rfl
theorem jG(x:F12):Spec Tryz.prog 142 [bM x] ai [] (IsV (bM (Kf.T12.conj x))):=by
  refine ad Tryz.func142 rfl rfl rfl fun w hr=>?_
  have a1:=oM x.a
  have a2:=uh x.b
  repeat (first|(refine cO ?_;intro _)|refine bW ?_|refine Z81 fun _=>?_|refine Z82 fun _=>?_)
  refine R.ag [0,1,2,3,4,5,6,7] (by rfl) ?_
  repeat (first|refine Qd ?_|refine ah a1 ?_|refine ah a2 ?_|refine nP ?_|(refine aV ?_;intro _))
  refine R.Zp0 ?_
  repeat (first|refine bW ?_|refine Z81 fun _=>?_|refine Z82 fun _=>?_)
  refine Zec fun _ hw=>aa hw SubW.nil ⟨?_,rfl⟩
  rfl
theorem Kq{a b:Prop}(k:b)(h:Rm b→a:=by intro k;refine R.Zps (by rfl) (by intro _ _ _;(refine aX (m:=36) (by rfl) (by rfl) fd (by rfl) (by simp) (dj _) ?_);exact Zqq) ?_;exact k.h):a:=h ⟨k⟩
theorem FN(u v:Nat)(x y:F12):Spec Tryz.prog 147 [pt u 0,pt v 0] (fun w=>eM w u (bM x) 138∧eM w v (bM y) 138) [] (IsV (LE6 (Kf.T6.mul (Kf.T6.add x.a x.b) (Kf.T6.add y.a y.b)))):=by
 refine ad Tryz.func147 rfl rfl rfl fun w hr=>?_
 have h1:=OldB.mk0 hr.1
 have h2:=OldB.mk0 hr.2
 have a1:=kY x.a x.b
 have a2:=kY y.a y.b
 have a3:=fK (Kf.T6.add x.a x.b) (Kf.T6.add y.a y.b)
 repeat (first|(refine lE ?_;intro _)|refine bW ?_|refine Z82 fun _=>?_)
 refine R.ag [0,1,2,3,4,5,6,7,8,9,10,11] (by rfl) ?_
 repeat (first|(refine R.Zpf (by rfl) (by intro _ _ _;(first|refine zv ?_);exact Zq) ?_)|refine aL ?_|(refine R.Zpp (by rfl) (by intro _ _ _;(refine ep (by rfl) (h1.shift (by assumption)) (by rfl) (by rfl) (ab.h0 x) (by rfl) ?_);exact Zq) ?_)|(refine R.Zpp (by rfl) (by intro _ _ _;(refine ep (by rfl) (h1.shift (by assumption)) (by rfl) (by rfl) (ab.h1 x) (by rfl) ?_);exact Zq) ?_)|(refine R.Zpp (by rfl) (by intro _ _ _;(refine ep (by rfl) (h2.shift (by assumption)) (by rfl) (by rfl) (ab.h0 y) (by rfl) ?_);exact Zq) ?_)|(refine R.Zpp (by rfl) (by intro _ _ _;(refine ep (by rfl) (h2.shift (by assumption)) (by rfl) (by rfl) (ab.h1 y) (by rfl) ?_);exact Zq) ?_)|refine ah a1 ?_|refine ah a2 ?_|refine ah a3 ?_|refine aA ?_|refine Kq ?_|(refine Bw ?_;intro _))
 refine R.Zp0 ?_
 repeat (first|refine bW ?_|refine Z82 fun _=>?_)
 refine Zec fun _ hw=>aa hw SubW.nil ⟨?_,rfl⟩
 rfl
theorem Pi{a b:Prop}(k:b)(h:Rm b→a:=by intro k;refine R.Zpp (by rfl) (by intro _ _ _;(refine bH (by rfl) fd (by rfl) (by rfl) (ab.whole6 _) (by rfl) ?_);exact Zq) ?_;exact k.h):a:=h ⟨k⟩
set_option maxHeartbeats 2000000 in
theorem jd(x y:F12):Spec Tryz.prog 129 [bM x,bM y] ai [] (IsV (bM (Kf.T12.mul x y))):=by
 refine ad Tryz.func129 rfl rfl rfl fun w hr=>?_
 rw[← Kf.T12.rm]
 have a1:=fK x.a y.a
 have a2:=fK x.b y.b
 have a3:=zl (Kf.T6.mul x.b y.b)
 have a4:=kY (Kf.T6.mul x.a y.a) (Kf.T6.mul Kf.T6.vv (Kf.T6.mul x.b y.b))
 have a5:=fun u v=>FN u v x y
 have a6:=kY (Kf.T6.mul x.a y.a) (Kf.T6.mul x.b y.b)
 have a7:=ui (Kf.T6.mul (Kf.T6.add x.a x.b) (Kf.T6.add y.a y.b)) (Kf.T6.add (Kf.T6.mul x.a y.a) (Kf.T6.mul x.b y.b))
 generalize Kf.T6.sub (Kf.T6.mul (Kf.T6.add x.a x.b) (Kf.T6.add y.a y.b)) (Kf.T6.add (Kf.T6.mul x.a y.a) (Kf.T6.mul x.b y.b))=k1 at *
 generalize Kf.T6.mul (Kf.T6.add x.a x.b) (Kf.T6.add y.a y.b)=k2 at *
 generalize Kf.T6.add (Kf.T6.mul x.a y.a) (Kf.T6.mul Kf.T6.vv (Kf.T6.mul x.b y.b))=k3 at *
 generalize Kf.T6.mul Kf.T6.vv (Kf.T6.mul x.b y.b)=k4 at *
 generalize Kf.T6.add (Kf.T6.mul x.a y.a) (Kf.T6.mul x.b y.b)=k5 at *
 generalize Kf.T6.mul x.a y.a=k6 at *
 generalize Kf.T6.mul x.b y.b=k7 at *
 repeat (first|(refine cO ?_;intro _)|refine zN ?_|refine Z81 fun _=>?_|refine Z82 fun _=>?_)
 rename_i p2 p3 p4
 refine C4 (fun a b=>[(2,pt p2 0),(3,pt p3 0),(4,pt p4 0),(5,pt a 0),(6,pt b 0)]) (fun a b=>[.blk a (LE6 k6) 136,.blk b (LE6 k7) 136,.blk p4 (LV .u64 (List.replicate 72 0)) 138,.blk p3 (bM y) 138,.blk p2 (bM x) 138]) (fun p5 p6=>?_) (fun hK=>?_)
 case refine_2=>
  refine R.ag [0,1,2,3,4,5,6,7,8,9,10,11,12,13] (by rfl) ?_
  repeat' (first|(refine R.Zpf (by rfl) (by intro _ _ _;(first|refine zv ?_|refine Z01 ?_|refine Z02 ?_|refine Z48 ?_);exact Zq) ?_)|refine aL ?_|refine zw ?_|refine zx ?_|refine zy ?_|refine zz ?_|refine zD ?_|refine zE ?_|refine zF ?_|refine zI ?_|refine ah a1 ?_|refine ah a2 ?_|refine aA ?_|refine Kq ?_|(refine R.Ga (R.Mks.mk (R.Mk.mk' (by rfl) (by intro _ _ _;refine ar (v:=LV .u64 (List.replicate 36 0)) (by rfl) (by rfl) fun _=>?_;first|exact R.iH|exact R.dN|exact R.iI)) (fun _=>?_)) (R.Mks.mk (R.Mk.mk' (by rfl) (by intro _ _ _;refine ar (v:=LV .u64 (List.replicate 36 0)) (by rfl) (by rfl) fun _=>?_;first|exact R.iH|exact R.dN|exact R.iI)) (fun _=>?_)))|(refine Kp ?_;intro _)|(refine aV ?_;intro _))
  all_goals refine R.Zp0 ?_
  all_goals exact dZ sbq sw (hK _ _)
 case refine_1=>
  repeat (first|refine zN ?_|refine Z81 fun _=>?_|refine Z82 fun _=>?_)
  refine R.ag [0,1,2,3,4,5,6,7,8,9,10,11] (by rfl) ?_
  repeat (first|(refine R.Zpf (by rfl) (by intro _ _ _;(first|refine Ph ?_|refine Z01 ?_|refine Z02 ?_|refine Z48 ?_);exact Zq) ?_)|refine aL ?_|refine Pi ?_|refine ah a3 ?_|refine ah a4 ?_|(refine R.Zpp (by rfl) (by intro _ _ _;refine af (by rfl) (by rfl) (by rfl) (a5 _ _) (fun w hw=>⟨eM.own fd w hw,eM.own fd w hw⟩) (by rfl) ?_;exact Zq) ?_)|refine ah a6 ?_|refine ah a7 ?_|refine nP ?_|(refine aV ?_;intro _))
  refine R.Zp0 ?_
  repeat (first|refine zN ?_|refine Z81 fun _=>?_|refine Z82 fun _=>?_)
  refine Zec fun _ hw=>aa hw SubW.nil ⟨?_,rfl⟩
  rfl
set_option maxHeartbeats 2000000 in
theorem FM(x:F12):Spec Tryz.prog 143 [bM x] ai [] (IsV (bM (Kf.T12.inv x))):=by
 refine ad Tryz.func143 rfl rfl rfl fun w hr=>?_
 have e:Kf.T12.inv x=⟨Kf.T6.mul x.a (Kf.T6.inv (Kf.T6.sub (Kf.T6.mul x.a x.a) (Kf.T6.mul Kf.T6.vv (Kf.T6.mul x.b x.b)))),Kf.T6.neg (Kf.T6.mul x.b (Kf.T6.inv (Kf.T6.sub (Kf.T6.mul x.a x.a) (Kf.T6.mul Kf.T6.vv (Kf.T6.mul x.b x.b)))))⟩:=rfl
 rw[e]
 have a1:=fK x.a x.a
 have a2:=fK x.b x.b
 have a3:=zl (Kf.T6.mul x.b x.b)
 have a4:=ui (Kf.T6.mul x.a x.a) (Kf.T6.mul Kf.T6.vv (Kf.T6.mul x.b x.b))
 generalize Kf.T6.sub (Kf.T6.mul x.a x.a) (Kf.T6.mul Kf.T6.vv (Kf.T6.mul x.b x.b))=k1 at *
 have a5:=FR k1
 generalize Kf.T6.inv k1=i at *
 have a6:=fK x.a i
 have a7:=fK x.b i
 have a8:=uh (Kf.T6.mul x.b i)
 generalize Kf.T6.neg (Kf.T6.mul x.b i)=k2 at *
 generalize Kf.T6.mul x.b i=k3 at *
 generalize Kf.T6.mul x.a i=k4 at *
 generalize Kf.T6.mul Kf.T6.vv (Kf.T6.mul x.b x.b)=k5 at *
 generalize Kf.T6.mul x.b x.b=k6 at *
 generalize Kf.T6.mul x.a x.a=k7 at *
 repeat (first|(refine cO ?_;intro _)|refine bW ?_|refine Z81 fun _=>?_|refine Z82 fun _=>?_)
 refine R.ag [0,1,2,3,4,5,6,7,8,9,10,11,12,13,14] (by rfl) ?_
 repeat (first|(refine R.Zpf (by rfl) (by intro _ _ _;(first|refine zv ?_);exact Zq) ?_)|refine aL ?_|refine zw ?_|refine zx ?_|refine zy ?_|refine zz ?_|refine zD ?_|refine zE ?_|refine zF ?_|refine zI ?_|refine ah a1 ?_|refine ah a2 ?_|refine ah a3 ?_|refine ah a4 ?_|refine ah a5 ?_|refine aA ?_|refine Kq ?_|(refine Kp ?_;intro _)|(refine aV ?_;intro _))
 refine R.Zp0 ?_
 repeat (first|refine bW ?_|refine Z81 fun _=>?_|refine Z82 fun _=>?_)
 refine R.ag [0,1,2,3,4,5,6,7,8,9,10] (by rfl) ?_
 repeat (first|refine PY ?_|refine aL ?_|refine zw ?_|refine zx ?_|refine zy ?_|refine zz ?_|refine zD ?_|refine zE ?_|refine zF ?_|refine zI ?_|refine Pi ?_|refine ah a6 ?_|refine ah a7 ?_|refine ah a8 ?_|refine nP ?_|(refine aV ?_;intro _))
 refine R.Zp0 ?_
 repeat (first|refine bW ?_|refine Z81 fun _=>?_|refine Z82 fun _=>?_)
 refine Zec fun _ hw=>aa hw SubW.nil ⟨?_,rfl⟩
 rfl
end
section
attribute [local irreducible] Code.wp wpList Af bodyPost L.Go ab
open Num
attribute [local simp] ae
section
variable {P:Program} {c:Cx} {n:Nn} {l:Sl} {W:List Res} {ops:Array Oper} {Q:Exit→Act→World→Prop} {rest:List Oper}
variable {d:Nat} {T:TypeId} {pos:String} {after:Array Edge}
theorem Bb{t:TypeId}{fs:Array Field}{m:Nat}{k:IntKind}{xs:List Nat}{x:Operand}(ht:P.underlying t=some (.struct fs))(hpl:jT P fs.toList=some [(0,m),(m,m),(m+m,m)])(hz:cH P t=some (LV k (List.replicate (m+(m+m)) 0)))
  (hv:evs l [x]=some [LV k xs]) (h1:xs.length=m) (hn:Nat.blt d n.sz=true)
  (hk:Go c n ((d,LV k (xs++(List.replicate m 0++List.replicate m 0)))::l) W (wpList P ops Q rest)):Go c n l W (wpList P ops Q (⟨some d,.build t #[(0,x)],T,pos,after,none⟩::rest)):=
 eF (is:=[0]) (xs:=[x]) (vs:=[xs]) ht hpl hz hv (by
  have e:List.replicate (m+(m+m)) 0=[]++List.replicate m 0++(List.replicate m 0++List.replicate m 0):=by rw[List.nil_append,List.replicate_append_replicate,List.replicate_append_replicate]
  rw[e]
  exact .cons (by simp) (by simpa using h1) .nil) hn hk
theorem Bc{t:TypeId}{fs:Array Field}{m:Nat}{k:IntKind}{xs:List Nat}{x:Operand}(ht:P.underlying t=some (.struct fs))(hpl:jT P fs.toList=some [(0,m),(m,m),(m+m,m)])(hz:cH P t=some (LV k (List.replicate (m+(m+m)) 0)))
  (hv:evs l [x]=some [LV k xs]) (h1:xs.length=m) (hn:Nat.blt d n.sz=true)
  (hk:Go c n ((d,LV k (List.replicate m 0++(xs++List.replicate m 0)))::l) W (wpList P ops Q rest)):Go c n l W (wpList P ops Q (⟨some d,.build t #[(1,x)],T,pos,after,none⟩::rest)):=
 eF (is:=[1]) (xs:=[x]) (vs:=[xs]) ht hpl hz hv (by
  have e:List.replicate (m+(m+m)) 0=List.replicate m 0++List.replicate m 0++List.replicate m 0:=by rw[List.replicate_append_replicate,List.replicate_append_replicate,Nat.add_assoc]
  rw[e,← List.append_assoc]
  exact .cons (by simp) (by simpa using h1) .nil) hn hk
theorem yG{t:TypeId}{fs:Array Field}{m:Nat}{k:IntKind}{xs ys:List Nat}{x y:Operand}(ht:P.underlying t=some (.struct fs))(hpl:jT P fs.toList=some [(0,m),(m,m),(m+m,m)])(hz:cH P t=some (LV k (List.replicate (m+(m+m)) 0)))
  (hv:evs l [x,y]=some [LV k xs,LV k ys]) (h1:xs.length=m) (h2:ys.length=m) (hn:Nat.blt d n.sz=true)
  (hk:Go c n ((d,LV k (xs++(ys++List.replicate m 0)))::l) W (wpList P ops Q rest)):Go c n l W (wpList P ops Q (⟨some d,.build t #[(0,x),(1,y)],T,pos,after,none⟩::rest)):=
 eF (is:=[0,1]) (xs:=[x,y]) (vs:=[xs,ys]) ht hpl hz hv (by
  have e:List.replicate (m+(m+m)) 0=[]++List.replicate m 0++(List.replicate m 0++List.replicate m 0):=by rw[List.nil_append,List.replicate_append_replicate,List.replicate_append_replicate]
  rw[e]
  refine .cons (by simp) (by simpa using h1) ?_
  rw[List.nil_append,← List.append_assoc,← List.append_assoc]
  exact .cons (by simp[h1]) (by simpa using h2) .nil) hn hk
end
theorem K6:(List.replicate 12 0:List Nat)=E2 (Kf.K2.zero:F2):=ww
theorem Qg:(List.replicate 36 0:List Nat)=E6 Kf.T6.zero:=By
theorem U9:E2 (Kf.K2.one:F2)++(List.replicate 12 0++List.replicate 12 0)=E6 (Kf.T6.one:F6):=by rw[K6];rfl
theorem Vb:E6 (Kf.T6.one:F6)++List.replicate 36 0=E12 (Kf.T12.one:F12):=by rw[Qg];rfl
attribute [local irreducible] Kf.T12.mul Kf.T12.one CR.pw
theorem Xo(x:F12)(m:Nat):Kf.T12.mul (CR.pw x m) (CR.pw x m)=CR.pw x (m+m):=(CR.dO x m m).symm
theorem Xp(x:F12)(m:Nat):Kf.T12.mul (CR.pw x m) x=CR.pw x (m+1):=(CR.lc x m).symm
theorem VY{a b:Prop}(k:b)(h:Rm b→a:=by intro k;refine Bb (m:=12) (by rfl) (by rfl) (by kernel_rfl) (by rfl) (ak _) (by rfl) ?_;rw[U9];exact k.h):a:=h ⟨k⟩
theorem VZ{a b:Prop}(k:b)(h:Rm b→a:=by intro k;refine eo (m:=36) (by rfl) (by rfl) (by kernel_rfl) (by rfl) (dj _) (by rfl) ?_;rw[Vb];exact k.h):a:=h ⟨k⟩
theorem uq{a b:Prop}(k:b)(h:Rm b→a:=by intro k;(first|refine Z01 ?_|refine Z02 ?_|refine Z03 ?_|refine Z04 ?_|refine Z05 ?_|refine Z06 ?_|refine Z07 ?_|refine Z08 ?_|refine Z09 ?_|refine Z10 ?_|refine Z11 ?_|refine Z12 ?_|refine Z13 ?_|refine Z14 ?_|refine Z15 ?_|refine Z16 ?_|refine Z17 ?_|refine Z18 ?_|refine Z20 ?_|refine Z21 ?_|refine Z22 ?_|refine Z23 ?_|refine Z24 ?_|refine Z26 ?_|refine Z27 ?_|refine Z29 ?_|refine Z30 ?_|refine Z31 ?_|refine Z32 ?_|refine Z36 ?_|refine Z37 ?_|refine Z38 ?_|refine Z40 ?_|refine Z42 ?_|refine Z67 ?_|refine Z71 ?_);exact k.h):a:=h ⟨k⟩
theorem gd{a b:Prop}(k:b)(h:Rm b→a:=by intro k;refine bH (by rfl) fd (by rfl) (by rfl) (ab.whole _) (by rfl) ?_;exact k.h):a:=h ⟨k⟩
theorem su{a b:Prop}(k:b)(h:Rm b→a:=by intro k;refine aX (m:=72) (by rfl) (by rfl) fd (by rfl) (be _) (be _) ?_;exact k.h):a:=h ⟨k⟩
theorem jQ{a b:Prop}(k:b)(h:Rm b→a:=by intro k;refine aX (m:=72) (by rfl) (by rfl) fd (by rfl) (by simp) (be _) ?_;exact k.h):a:=h ⟨k⟩
theorem KN{a b:Prop}(k:b)(h:Rm b→a:=by intro k;(first|refine zL ?_|refine NV ?_|refine VY ?_|refine VZ ?_);exact k.h):a:=h ⟨k⟩
theorem PZ{a b:Prop}(k:b)(h:Rm b→a:=by intro k;(first|refine su ?_|refine Z01 ?_|refine Z02 ?_|refine Z03 ?_|refine Z04 ?_|refine Z05 ?_|refine Z06 ?_|refine Z07 ?_|refine Z08 ?_|refine Z09 ?_|refine Z10 ?_|refine Z11 ?_|refine Z12 ?_|refine Z13 ?_|refine Z14 ?_|refine Z15 ?_|refine Z16 ?_|refine Z17 ?_|refine Z18 ?_|refine Z20 ?_|refine Z21 ?_|refine Z22 ?_|refine Z23 ?_|refine Z24 ?_|refine Z26 ?_|refine Z27 ?_|refine Z29 ?_|refine Z30 ?_|refine Z31 ?_|refine Z32 ?_|refine Z36 ?_|refine Z37 ?_|refine Z38 ?_|refine Z40 ?_|refine Z42 ?_|refine Z67 ?_|refine Z71 ?_);exact k.h):a:=h ⟨k⟩
set_option maxHeartbeats 4000000 in
theorem oK(x:F12)(s:Value)(xs:List Nat)(hx:Lt 18446744073709551616 xs)(hl:xs.length<65536):
  Spec Tryz.prog 92 [bM x,s] (fun w=>Rd w s (xs.map (N .u64))) [] (IsV (bM (CR.pw x (V xs)))):=by
 refine ad Tryz.func92 rfl rfl rfl fun w hr=>?_
 have hr:=RdC.mk0 hr
 have hl0:=fun x=>ae 6 x
 have hle:=fun x:F2=>ak x
 have hz:V xs/2^(64*xs.length)=0:=Nat.div_eq_of_lt (by rw[Nat.pow_mul,← W_2];exact uD hx)
 have h0:(Kf.T12.one:F12)=CR.pw x (V xs/2^(64*xs.length-0)):=by rw[Nat.sub_zero,hz];exact(CR.Sn x).symm
 repeat (first|refine KN ?_|(refine cO ?_;intro _)|refine uq ?_|refine Z81 fun _=>?_|refine Z82 fun _=>?_)
 rw[h0]
 rename_i p2 p4 p5
 refine az (ι:=Nat×Bool) (fun q=>q.1≤64*xs.length∧(q.2=false→V xs/2^(64*xs.length-q.1)=0)) (fun q=>[(1,s),(2,pt p2 0),(4,pt p4 0),(5,pt p5 0),(6,.bool q.2),(15,N .i64 (64*xs.length)),(16,N .i64 q.1)])
  (fun q=>[.blk p5 (bM (CR.pw x (V xs/2^(64*xs.length-q.1)))) 138,.blk p4 (LV .u64 (List.replicate 72 0)) 138,.blk p2 (bM x) 138]) (fun q=>64*xs.length-q.1) (0,false) ⟨Nat.zero_le _,fun _=>by rw[Nat.sub_zero];exact hz⟩ sbq sw ?_
 rintro⟨i,bg⟩ ⟨hi,hb⟩
 simp only at hi hb ⊢
 repeat (first|refine uq ?_|refine Z81 fun _=>?_|refine Z82 fun _=>?_)
 refine an (by rfl) (fun hc=>?_) (fun hc=>?_)
 ·have hc':i<64*xs.length:=hc
  obtain⟨k,hk⟩:∃k,64*xs.length=i+k+1:=⟨64*xs.length-i-1,by omega⟩
  have hkl:k<64*xs.length:=by omega
  have e1:64*xs.length-i=k+1:=by omega
  have e2:64*xs.length-(i+1)=k:=by omega
  have e3:64*xs.length-1-i=k:=by omega
  rw[e1]at hb ⊢
  have hst:=mz (V xs) k
  have hbt:=my hx k
  have n1:=jd (CR.pw x (V xs/2^(k+1))) (CR.pw x (V xs/2^(k+1)))
  rw[Xo]at n1
  have n2:=jd (CR.pw x (V xs/2^(k+1)+V xs/2^(k+1))) x
  rw[Xp]at n2
  generalize V xs/2^(k+1)=m at *
  cases bg with
  | false=>
   have hq:CR.pw x m=CR.pw x (m+m):=by rw[hb rfl]
   rw[hq]
   clear n1
   repeat (first|refine gd ?_|refine y_4 n1 ?_|refine su ?_|refine ii (by rfl) (by rfl) (show k%64≤64 by omega) (by rfl) ?_|rw[hbt]|rw[e3]|refine uq ?_|refine Z81 fun _=>?_|refine Z82 fun _=>?_)
   refine an (by rfl) (fun hb1=>?_) (fun hb1=>?_)
   ·have hx1:V xs/2^k=m+m+1:=by omega
    repeat (first|refine gd ?_|refine y_4 n2 ?_|refine PZ ?_|refine Z81 fun _=>?_|refine Z82 fun _=>?_)
    rw[← hx1]
    exact ao (i+1,true) ⟨by simp only;omega,fun h=>by cases h⟩ (by simp only;omega) sbq (by simp only;rw[e2];exact sw)
   ·have hx1:V xs/2^k=m+m:=by omega
    repeat (first|refine uq ?_|refine Z81 fun _=>?_|refine Z82 fun _=>?_)
    rw[← hx1]
    exact ao (i+1,false) ⟨by simp only;omega,fun h=>by have:=hb rfl;simp only[e2];omega⟩ (by simp only;omega) sbq (by simp only;rw[e2];exact sw)
  | true=>
   clear hb
   repeat (first|refine gd ?_|refine y_4 n1 ?_|refine su ?_|refine ii (by rfl) (by rfl) (show k%64≤64 by omega) (by rfl) ?_|rw[hbt]|rw[e3]|refine uq ?_|refine Z81 fun _=>?_|refine Z82 fun _=>?_)
   refine an (by rfl) (fun hb1=>?_) (fun hb1=>?_)
   ·have hx1:V xs/2^k=m+m+1:=by omega
    repeat (first|refine gd ?_|refine y_4 n2 ?_|refine PZ ?_|refine Z81 fun _=>?_|refine Z82 fun _=>?_)
    rw[← hx1]
    exact ao (i+1,true) ⟨by simp only;omega,fun h=>by cases h⟩ (by simp only;omega) sbq (by simp only;rw[e2];exact sw)
   ·have hx1:V xs/2^k=m+m:=by omega
    repeat (first|refine uq ?_|refine Z81 fun _=>?_|refine Z82 fun _=>?_)
    rw[← hx1]
    exact ao (i+1,true) ⟨by simp only;omega,fun h=>by cases h⟩ (by simp only;omega) sbq (by simp only;rw[e2];exact sw)
 ·have hi':i=64*xs.length:=by omega
  subst hi'
  rw[Nat.sub_self,Nat.pow_zero,Nat.div_one]
  repeat (first|refine gd ?_|refine jQ ?_|refine Z01 ?_|refine Z02 ?_|refine Z03 ?_|refine Z04 ?_|refine Z05 ?_|refine Z06 ?_|refine Z07 ?_|refine Z08 ?_|refine Z09 ?_|refine Z10 ?_|refine Z11 ?_|refine Z12 ?_|refine Z13 ?_|refine Z14 ?_|refine Z15 ?_|refine Z16 ?_|refine Z17 ?_|refine Z18 ?_|refine Z20 ?_|refine Z21 ?_|refine Z22 ?_|refine Z23 ?_|refine Z24 ?_|refine Z26 ?_|refine Z27 ?_|refine Z29 ?_|refine Z30 ?_|refine Z31 ?_|refine Z32 ?_|refine Z36 ?_|refine Z37 ?_|refine Z38 ?_|refine Z40 ?_|refine Z42 ?_|refine Z67 ?_|refine Z71 ?_|refine Z81 fun _=>?_|refine Z82 fun _=>?_)
  refine Zec fun _ hw=>aa hw SubW.nil ⟨?_,rfl⟩
  rfl
end
section
attribute [local irreducible] Code.wp wpList Af bodyPost L.Go ab
open Num
attribute [local simp] ae
def gK:F2:=k2 0x1904d3bf02bb0667c231beb4202c0d1f0fd603fd3cbd5f4f7b2443d784bab9c4f67ea53d63e7813d8d0775ed92235fb8 0x00fc3e2b36c4e03288e9e902231f9fb854a14787b6c7b36fec0c8ec971f63c5f282d5ac14d6c7ec22cf78a126ddc4af3
def qD:List (List Nat):=(List.range 6).map fun k=>E2 (Kf.K2.pw gK k)
theorem G7:∀v∈qD,v.length=12:=by
 intro v hv
 obtain⟨k,_,rfl⟩:=List.mem_map.1 hv
 exact ak _
theorem G6{k:Nat}(h:k<6):qD[k]?=some (E2 (Kf.K2.pw gK k)):=by
 unfold qD
 rw[List.getElem?_map,List.getElem?_range h];rfl
theorem uW:([0x1,0x0,0x0,0x0,0x0,0x0,0x0,0x0,0x0,0x0,0x0,0x0,
 0x8d0775ed92235fb8,0xf67ea53d63e7813d,0x7b2443d784bab9c4,0xfd603fd3cbd5f4f,0xc231beb4202c0d1f,0x1904d3bf02bb0667,0x2cf78a126ddc4af3,0x282d5ac14d6c7ec2,0xec0c8ec971f63c5f,0x54a14787b6c7b36f,0x88e9e902231f9fb8,0xfc3e2b36c4e032,
 0x0,0x0,0x0,0x0,0x0,0x0,0x8bfd00000000aaac,0x409427eb4f49fffd,0x897d29650fb85f9b,0xaa0d857d89759ad4,0xec02408663d4de85,0x1a0111ea397fe699,
 0xc81084fbede3cc09,0xee67992f72ec05f4,0x77f76e17009241c5,0x48395dabc2d3435e,0x6831e36d6bd17ffe,0x6af0e0437ff400b,0xc81084fbede3cc09,0xee67992f72ec05f4,0x77f76e17009241c5,0x48395dabc2d3435e,0x6831e36d6bd17ffe,0x6af0e0437ff400b,
 0x8bfd00000000aaad,0x409427eb4f49fffd,0x897d29650fb85f9b,0xaa0d857d89759ad4,0xec02408663d4de85,0x1a0111ea397fe699,0x0,0x0,0x0,0x0,0x0,0x0,
 0x9b18fae980078116,0xc63a3e6e257f8732,0x8beadf4d8e9c0566,0xf39816240c0b8fee,0xdf47fa6b48b1e045,0x5b2cfd9013a5fd8,0x1ee605167ff82995,0x5871c1908bd478cd,0xdb45f3536814f0bd,0x70df3560e77982d0,0x6bd3ad4afa99cc91,0x144e4211384586c1]:List Nat)=qD.flatten:=by decide +kernel
set_option maxHeartbeats 2000000 in
theorem uX:Spec Tryz.prog 170 [] ai [] (IsV (LV .u64 qD.flatten)):=by
 refine ad Tryz.func170 rfl rfl rfl fun w hr=>?_
 have hlen:(qD.flatten).length=72:=by rw[← uW];rfl
 repeat (first|(refine cO ?_;intro _)|refine Dq ?_|refine eO ?_|refine Fs (k:=6) (m:=12) (kk:=.u64) (vss:=[_,_,_,_,_,_]) (by rfl) (by rfl) (by rfl) (by rfl) (by rfl) (by rfl) (by decide) (by rfl) ?_|refine aX (m:=72) (by rfl) (by rfl) fd (by rfl) (by simp) (by rfl) ?_|refine Z03 ?_|refine Z04 ?_|refine Z05 ?_|refine Z06 ?_|refine Z07 ?_|refine Z08 ?_|refine Z09 ?_|refine Z10 ?_|refine Z11 ?_|refine Z12 ?_|refine Z13 ?_|refine Z14 ?_|refine Z29 ?_|refine Z30 ?_|refine Z31 ?_|refine Z32 ?_|refine Z82 fun _=>?_)
 refine Zec fun _ hw=>aa hw SubW.nil ⟨?_,rfl⟩
 rw[← uW];rfl
def TR(w:World)(b:Nat):Prop:=eM w b (LV .u64 qD.flatten) 204
theorem Pj{a b:Prop}(k:b)(h:Rm b→a:=by intro k;(first|refine Z01 ?_|refine Z03 ?_|refine Z04 ?_|refine Z05 ?_|refine Z06 ?_|refine Z07 ?_|refine Z08 ?_|refine Z09 ?_|refine Z10 ?_|refine Z11 ?_|refine Z12 ?_|refine Z13 ?_|refine Z14 ?_|refine Z22 ?_|refine Z23 ?_|refine Z24 ?_|refine Z26 ?_|refine Z27 ?_|refine Z29 ?_|refine Z30 ?_|refine Z31 ?_|refine Z32 ?_|refine Z67 ?_);exact k.h):a:=h ⟨k⟩
theorem fC(x:F2){k:Nat}(hk:k<6)(b:Nat):Spec Tryz.prog 171 [LE2 x,N .i64 k,pt b 0] (fun w=>TR w b) [] (IsV (LE2 (Kf.K2.mul (Kf.K2.conj x) (Kf.K2.pw gK k)))):=by
 refine ad Tryz.func171 rfl rfl rfl fun w hr=>?_
 have h1:OldB _ b (LV .u64 qD.flatten) _:=OldB.mk0 hr
 have hl0:=fun x=>ae 6 x
 have hle:=fun x:F2=>ak x
 have hp:ab qD.flatten (0+k*12) 12 (E2 (Kf.K2.pw gK k)):=by rw[Nat.zero_add];exact ab.nth G7 (G6 hk)
 have a1:=SI x
 have a2:=aF (Kf.K2.conj x) (Kf.K2.pw gK k)
 repeat (first|(refine bG ?_;intro _)|refine Pj ?_|refine Z81 fun _=>?_|refine Z82 fun _=>?_)
 refine R.ag [0,1,2,3,4,5,6] (by rfl) ?_
 repeat (first|(refine R.Zpf (by rfl) (by intro _ _ _;(first|refine t5 (m:=6) (sz:=12) (i:=k) (by rfl) (by rfl) (by rfl) (by rfl) hk (by rfl) ?_|refine Z01 ?_|refine Z22 ?_|refine Z23 ?_);exact Zq) ?_)|(refine R.Zpp (by rfl) (by intro _ _ _;(first|refine TE ?_);exact Zq) ?_)|refine cB ?_|refine ah a1 ?_|(refine R.Zpp (by rfl) (by intro _ _ _;(refine ep (by rfl) (h1.shift (by assumption)) (by rfl) (by rfl) hp (by rfl) ?_);exact Zq) ?_)|refine ah a2 ?_|refine aA ?_|(refine aV ?_;intro _))
 refine R.Zp0 ?_
 repeat (first|refine Pj ?_|refine Z81 fun _=>?_|refine Z82 fun _=>?_)
 refine Zec fun _ hw=>aa hw SubW.nil ⟨?_,rfl⟩
 rfl
theorem Em(x:F12):Kf.T12.frb gK x=⟨⟨Kf.K2.mul (Kf.K2.conj x.a.a) (Kf.K2.pw gK 0),Kf.K2.mul (Kf.K2.conj x.a.b) (Kf.K2.pw gK 2),Kf.K2.mul (Kf.K2.conj x.a.c) (Kf.K2.pw gK 4)⟩,⟨Kf.K2.mul (Kf.K2.conj x.b.a) (Kf.K2.pw gK 1),Kf.K2.mul (Kf.K2.conj x.b.b) (Kf.K2.pw gK 3),Kf.K2.mul (Kf.K2.conj x.b.c) (Kf.K2.pw gK 5)⟩⟩:=by
 have h0:Kf.K2.pw gK 0=Kf.K2.one:=rfl
 rw[h0,Kf.K2.mul_one',Kf.K2.AZ];rfl
theorem Pl{a b:Prop}(k:b)(h:Rm b→a:=by intro k;refine cC (m:=36) (by rfl) (by rfl) (by rfl) (by rfl) (eQ _ _ _) (eQ _ _ _) (by rfl) ?_;exact k.h):a:=h ⟨k⟩
theorem DA{a b:Prop}(k:b)(h:Rm b→a:=by intro k;refine R.Zps (by rfl) (by intro _ _ _;(refine aX (m:=72) (by rfl) (by rfl) fd (by rfl) (by simp) (be ⟨⟨_,_,_⟩,⟨_,_,_⟩⟩) ?_);exact Zqq) ?_;exact k.h):a:=h ⟨k⟩
set_option maxHeartbeats 2000000 in
theorem As(x:F12):Spec Tryz.prog 162 [bM x] ai [] (IsV (bM (Kf.T12.frb gK x))):=by
 refine ad Tryz.func162 rfl rfl rfl fun w hr=>?_
 have hl0:=fun x=>ae 6 x
 have hle:=fun x:F2=>ak x
 have hfl:qD.flatten.length=72:=by rw[← uW];rfl
 rw[Em]
 have a0:=fun b=>fC x.a.a (k:=0) (by decide) b
 have a1:=fun b=>fC x.b.a (k:=1) (by decide) b
 have a2:=fun b=>fC x.a.b (k:=2) (by decide) b
 have a3:=fun b=>fC x.b.b (k:=3) (by decide) b
 have a4:=fun b=>fC x.a.c (k:=4) (by decide) b
 have a5:=fun b=>fC x.b.c (k:=5) (by decide) b
 unfold TR at a0 a1 a2 a3 a4 a5
 have ff:=uX
 generalize Kf.K2.mul (Kf.K2.conj x.a.a) (Kf.K2.pw gK 0)=k0 at *
 generalize Kf.K2.mul (Kf.K2.conj x.b.a) (Kf.K2.pw gK 1)=k1 at *
 generalize Kf.K2.mul (Kf.K2.conj x.a.b) (Kf.K2.pw gK 2)=k2 at *
 generalize Kf.K2.mul (Kf.K2.conj x.b.b) (Kf.K2.pw gK 3)=k3 at *
 generalize Kf.K2.mul (Kf.K2.conj x.a.c) (Kf.K2.pw gK 4)=k4 at *
 generalize Kf.K2.mul (Kf.K2.conj x.b.c) (Kf.K2.pw gK 5)=k5 at *
 generalize qD.flatten=fv at *
 repeat (first|(refine cO ?_;intro _)|refine y_4 ff ?_|refine aX (m:=72) (by rfl) (by rfl) fd (by rfl) (by simp) hfl ?_|refine zN ?_|refine Z81 fun _=>?_|refine Z82 fun _=>?_)
 refine R.ag [0,1,2,3,4,5,6,7,8,9,10,11,12,13,14,15,16,17,18,19,20,21,22,23,24,25,26,27,28,29,30,31,32,33] (by rfl) ?_
 repeat (first|(refine R.Zpf (by rfl) (by intro _ _ _;(first|refine zv ?_|refine si ?_|refine Pl ?_|refine Z01 ?_|refine Z02 ?_|refine Z48 ?_);exact Zq) ?_)|refine aL ?_|refine zw ?_|refine zx ?_|refine zy ?_|refine zz ?_|refine zD ?_|refine zE ?_|refine zF ?_|refine zI ?_|refine Bx (a0 _) ?_|refine Bx (a1 _) ?_|refine Bx (a2 _) ?_|refine Bx (a3 _) ?_|refine Bx (a4 _) ?_|refine Bx (a5 _) ?_|refine aA ?_|refine DA ?_|(refine aV ?_;intro _))
 refine R.Zp0 ?_
 repeat (first|refine zN ?_|refine Z81 fun _=>?_|refine Z82 fun _=>?_)
 refine Zec fun _ hw=>aa hw SubW.nil ⟨?_,rfl⟩
 rfl
theorem Bm{n m:Nat}(h:n<m)(hm:m<1000):Spec Tryz.prog 161 [N .i64 n,N .i64 m] ai [] (IsV (N .i64 n)):=by
 refine ad Tryz.func161 rfl rfl rfl fun w hr=>?_
 have h1:n%m=n:=Nat.mod_eq_of_lt h
 have h2:(n+m)%m=n:=by rw[Nat.add_mod_right,h1]
 repeat (first|rw[h1]|rw[h2]|refine Z01 ?_|refine Z02 ?_|refine Z03 ?_|refine Z04 ?_|refine Z05 ?_|refine Z06 ?_|refine Z07 ?_|refine Z08 ?_|refine Z09 ?_|refine Z10 ?_|refine Z11 ?_|refine Z12 ?_|refine Z13 ?_|refine Z14 ?_|refine Z15 ?_|refine Z38 ?_)
 refine Ze1 fun _ hw=>aa hw SubW.nil ⟨?_,rfl⟩
 rfl
def frI:Nat→F12→F12
 | 0,x=>x
 | k+1,x=>Kf.T12.frb gK (frI k x)
attribute [local irreducible] Kf.T12.frb
set_option maxHeartbeats 2000000 in
theorem od(x:F12){n:Nat}(h:n<12):Spec Tryz.prog 144 [bM x,N .i64 n] ai [] (IsV (bM (frI n x))):=by
 refine ad Tryz.func144 rfl rfl rfl fun w hr=>?_
 have a1:=FQ x
 have a2:=Bm h (by decide)
 have h0:bM x=bM (frI 0 x):=rfl
 repeat (first|(refine cO ?_;intro _)|refine gd ?_|refine y_4 a1 ?_|refine su ?_|refine y_4 a2 ?_|refine cj ?_|refine Z81 fun _=>?_|refine Z82 fun _=>?_)
 rename_i p2 p4
 refine az (ι:=Nat) (fun i=>i≤n) (fun i=>[(2,pt p2 0),(4,pt p4 0),(8,N .i64 n),(9,N .i64 i)]) (fun i=>[.blk p2 (bM (frI i x)) 138,.blk p4 (LV .u64 (List.replicate 72 0)) 138]) (fun i=>n-i) 0 (by omega) sbq sw ?_
 intro i hi
 repeat (first|refine cj ?_|refine Z81 fun _=>?_|refine Z82 fun _=>?_)
 refine an (by rfl) (fun hc=>?_) (fun hc=>?_)
 ·have a3:=As (frI i x)
  repeat (first|refine gd ?_|refine y_4 a3 ?_|refine su ?_|refine Z01 ?_|refine Z03 ?_|refine Z04 ?_|refine Z05 ?_|refine Z06 ?_|refine Z07 ?_|refine Z08 ?_|refine Z09 ?_|refine Z10 ?_|refine Z11 ?_|refine Z12 ?_|refine Z13 ?_|refine Z14 ?_|refine Z15 ?_|refine Z17 ?_|refine Z18 ?_|refine Z24 ?_|refine Z26 ?_|refine Z27 ?_|refine Z29 ?_|refine Z30 ?_|refine Z31 ?_|refine Z32 ?_|refine Z67 ?_|refine Z81 fun _=>?_|refine Z82 fun _=>?_)
  exact ao (i+1) (by omega) (by omega) sbq sw
 ·have hi':i=n:=by omega
  subst hi'
  repeat (first|refine gd ?_|refine jQ ?_|refine Z01 ?_|refine Z03 ?_|refine Z04 ?_|refine Z05 ?_|refine Z06 ?_|refine Z07 ?_|refine Z08 ?_|refine Z09 ?_|refine Z10 ?_|refine Z11 ?_|refine Z12 ?_|refine Z13 ?_|refine Z14 ?_|refine Z15 ?_|refine Z17 ?_|refine Z18 ?_|refine Z24 ?_|refine Z26 ?_|refine Z27 ?_|refine Z29 ?_|refine Z30 ?_|refine Z31 ?_|refine Z32 ?_|refine Z67 ?_|refine Z81 fun _=>?_|refine Z82 fun _=>?_)
  refine Zec fun _ hw=>aa hw SubW.nil ⟨?_,rfl⟩
  rfl
end
section
attribute [local irreducible] Code.wp wpList Af bodyPost L.Go ab
open Num
attribute [local simp] ae
attribute [local irreducible] Kf.T12.mul Kf.T12.one Kf.T12.conj Kf.T12.inv CR.pw frI
def bi(l:List F12):F12:=l.foldl Kf.T12.mul Kf.T12.one
theorem MK{l:List F12}{i:Nat}{x:F12}(h:l[i]?=some x):Kf.T12.mul (bi (l.take i)) x=bi (l.take (i+1)):=by
 rw[List.take_add_one,h]
 simp only[bi,Option.toList,List.foldl_append,List.foldl_cons,List.foldl_nil]
def gt(l:List F12):List (List Nat):=l.map E12
theorem dc(l:List F12):∀v∈gt l,v.length=72:=by
 intro v hv
 obtain⟨x,_,rfl⟩:=List.mem_map.1 hv
 exact be x
theorem sP(l:List F12):(gt l).flatten.length=l.length*72:=by
 rw[fy (dc l)];unfold gt;rw[List.length_map]
attribute [local irreducible] bi gt
set_option maxHeartbeats 2000000 in
theorem fF(s:Value)(xs:List F12)(hl:xs.length<1000000):Spec Tryz.prog 126 [s] (fun w=>Rd w (wide 72 s) ((gt xs).flatten.map (N .u64))) [] (IsV (bM (bi xs))):=by
 refine ad Tryz.func126 rfl rfl rfl fun w hr=>?_
 have hl0:=fun x=>ae 6 x
 have hle:=fun x:F2=>ak x
 have h1:=RdC.mk0 hr
 have hE:=dc xs
 have el:(gt xs).length=xs.length:=by unfold gt;simp
 have hxl:((gt xs).flatten.map (N .u64)).length=xs.length*72:=by rw[List.length_map,sP]
 have e0:(Kf.T12.one:F12)=bi (xs.take 0):=by unfold bi;rfl
 repeat (first|(refine cO ?_;intro _)|refine KN ?_|refine ie (m:=72) (k:=xs.length) (s:=s) (by rfl) (by rfl) (RdW.old h1) (by decide) hxl (by rfl) ?_|refine un ?_|refine Z82 fun _=>?_)
 rw[e0]
 rename_i p2 p3
 refine az (ι:=Nat) (fun i=>i≤xs.length) (fun i=>[(10,s),(11,N .i64 xs.length),(12,N .i64 i),(2,pt p2 0),(3,pt p3 0)]) (fun i=>[.blk p3 (bM (bi (xs.take i))) 138,.blk p2 (LV .u64 (List.replicate 72 0)) 138]) (fun i=>xs.length-i) 0 (by omega) sbq sw ?_
 intro i hi
 repeat (first|refine un ?_|refine Z82 fun _=>?_)
 refine an (by rfl) (fun h=>?_) (fun h=>?_)
 ·obtain⟨x,hx⟩:∃x,xs[i]?=some x:=⟨_,List.getElem?_eq_getElem h⟩
  have hz:(gt xs)[i]?=some (E12 x):=by unfold gt;rw[List.getElem?_map,hx];rfl
  have hs:=jd (bi (xs.take i)) x
  rw[MK hx]at hs
  repeat (first|(refine cO ?_;intro _)|refine fh (m:=72) (s:=s) (i:=i) (k:=xs.length) (by rfl) (by rfl) (by rfl) (by rfl) (RdW.old h1) (by decide) hxl h (by rfl) ?_|refine eI (m:=72) (s:=wide 72 s) (i:=i) (by rfl) (by rfl) (by rfl) (RdW.old h1) hE hz (by decide) (by rfl) ?_|refine gd ?_|refine aX (m:=72) (by rfl) (by rfl) fd (by rfl) (by first | exact be _ | simp) (be _) ?_|refine y_4 hs ?_|refine un ?_|refine Z82 fun _=>?_)
  exact ao (i+1) (by omega) (by omega) sbq sw
 ·have hi':i=xs.length:=by omega
  subst hi'
  rw[List.take_length]
  repeat (first|refine gd ?_|refine jQ ?_|refine Z01 ?_|refine Z03 ?_|refine Z04 ?_|refine Z05 ?_|refine Z06 ?_|refine Z07 ?_|refine Z08 ?_|refine Z09 ?_|refine Z10 ?_|refine Z11 ?_|refine Z12 ?_|refine Z13 ?_|refine Z14 ?_|refine Z15 ?_|refine Z17 ?_|refine Z18 ?_|refine Z20 ?_|refine Z21 ?_|refine Z22 ?_|refine Z23 ?_|refine Z24 ?_|refine Z26 ?_|refine Z27 ?_|refine Z29 ?_|refine Z30 ?_|refine Z31 ?_|refine Z32 ?_|refine Z67 ?_|refine Z82 fun _=>?_)
  refine Zec fun _ hw=>aa hw SubW.nil ⟨?_,rfl⟩
  rfl
theorem oL(a:F12):Spec Tryz.prog 145 [bM a] ai [] (IsV (bM (CR.pw a 15132376222941642752))):=by
 refine ad Tryz.func145 rfl rfl rfl fun w hr=>?_
 have hp:=fun s=>oK a s [15132376222941642752] (by unfold Lt;decide) (by decide)
 rw[show V [15132376222941642752]=15132376222941642752 by decide +kernel]at hp
 repeat (first|(refine cO ?_;intro _)|refine bL (vs:=[15132376222941642752]) (kk:=.u64) (by rfl) (by rfl) (by rfl) (by rfl) (by rfl) (by rfl) (by rfl) (by rfl) fun _=>?_|refine gd ?_|refine KQ (hp _) ?_|refine jQ ?_|refine Z03 ?_|refine Z04 ?_|refine Z05 ?_|refine Z06 ?_|refine Z07 ?_|refine Z08 ?_|refine Z09 ?_|refine Z10 ?_|refine Z11 ?_|refine Z12 ?_|refine Z13 ?_|refine Z14 ?_|refine Z24 ?_|refine Z26 ?_|refine Z27 ?_|refine Z29 ?_|refine Z30 ?_|refine Z31 ?_|refine Z32 ?_|refine Z67 ?_|refine Z81 fun _=>?_|refine Z82 fun _=>?_|refine Z85 fun _=>?_)
 refine Zec fun _ hw=>aa hw SubW.nil ⟨?_,rfl⟩
 rfl
theorem Sx{c:Cx}{W:List Res}{b k:Nat}{xs:List F12}{U:TypeId}{R:List Res}(h:Find W (.blk b (LV .u64 (gt xs).flatten) U) R)(hl:xs.length=k):RdW c W (wide 72 (slv b k)) ((gt xs).flatten.map (N .u64)):=RdW.slv h (by rw[sP,hl])
end
section
attribute [local irreducible] Code.wp wpList Af bodyPost L.Go ab
open Num
attribute [local simp] ae
attribute [local irreducible] Kf.T12.mul Kf.T12.one Kf.T12.conj Kf.T12.inv CR.pw frI
attribute [local irreducible] bi
def qI(f:F12):F12:=bi [Kf.T12.conj f,Kf.T12.inv f]
def uY(f:F12):F12:=bi [frI 2 (qI f),qI f]
def lJ(f:F12):F12:=CR.pw (uY f) (V [10088250816726084267,4137836090706223446])
def iV(f:F12):F12:=bi [Kf.T12.conj (CR.pw (lJ f) 15132376222941642752),frI 1 (lJ f)]
def Ei(f:F12):F12:=bi [CR.pw (CR.pw (iV f) 15132376222941642752) 15132376222941642752,frI 2 (iV f),Kf.T12.conj (iV f)]
def gm(f:F12):F12:=bi [Ei f,uY f]
theorem V0{a b:Prop}(k:b)(h:Rm b→a:=by intro k;refine R.Zpf (by rfl) (by intro _ _ _;(first|refine Z01 ?_|refine Z02 ?_);exact Zq) ?_;exact k.h):a:=h ⟨k⟩
theorem Pm{a b:Prop}(k:b)(h:Rm b→a:=by intro k;refine R.Zpp (by rfl) (by intro _ _ _;(refine bH (by rfl) fd (by rfl) (by rfl) (ab.whole _) (by rfl) ?_);exact Zq) ?_;exact k.h):a:=h ⟨k⟩
theorem DB{S1 a b:Prop}(s1:S1)(k:b)(h:S1→Rm b→a:=by intro s1 k;refine R.Zpp (by rfl) (by intro _ _ _;refine af (by rfl) (by rfl) (by rfl) s1 (Sx fd rfl) (by rfl) ?_;exact Zq) ?_;exact k.h):a:=h s1 ⟨k⟩
theorem ur{a b:Prop}(k:b)(h:Rm b→a:=by intro k;refine R.Zpb (by rfl) (by intro _ _ _;refine ar (v:=LV .u64 (List.replicate 72 0)) (by rfl) (by rfl) fun _=>?_;exact R.eN) ?_;exact k.h):a:=h ⟨k⟩
theorem P0{a b:Prop}(k:b)(h:Rm b→a:=by intro k;(first|refine jQ ?_|refine Z01 ?_|refine Z02 ?_|refine Z03 ?_|refine Z04 ?_|refine Z05 ?_|refine Z06 ?_|refine Z07 ?_|refine Z08 ?_|refine Z09 ?_|refine Z10 ?_|refine Z11 ?_|refine Z12 ?_|refine Z13 ?_|refine Z14 ?_|refine Z24 ?_|refine Z26 ?_|refine Z27 ?_|refine Z29 ?_|refine Z30 ?_|refine Z31 ?_|refine Z32 ?_|refine Z67 ?_);exact k.h):a:=h ⟨k⟩
theorem DS{a b:Prop}(k:b)(h:Rm b→a:=by intro k;(first|refine V0 ?_|refine aL ?_|refine Pm ?_);exact k.h):a:=h ⟨k⟩
set_option maxHeartbeats 8000000 in
theorem An(f:F12):Spec Tryz.prog 128 [bM f] ai [] (IsV (bM (gm f))):=by
 refine ad Tryz.func128 rfl rfl rfl fun w hr=>?_
 have a1:=jG f
 have a2:=FM f
 have a3:=fun s=>fF s [Kf.T12.conj f,Kf.T12.inv f] (by simp)
 have eG:bi [Kf.T12.conj f,Kf.T12.inv f]=qI f:=rfl
 rw[eG]at a3
 have b1:=od (qI f) (n:=2) (by decide)
 have b2:=fun s=>fF s [frI 2 (qI f),qI f] (by simp)
 have eH:bi [frI 2 (qI f),qI f]=uY f:=rfl
 rw[eH]at b2
 have c1:=fun s=>oK (uY f) s [10088250816726084267,4137836090706223446] (by unfold Lt;decide) (by decide)
 have eA:CR.pw (uY f) (V [10088250816726084267,4137836090706223446])=lJ f:=rfl
 rw[eA]at c1
 have d1:=oL (lJ f)
 have d2:=jG (CR.pw (lJ f) 15132376222941642752)
 have d3:=od (lJ f) (n:=1) (by decide)
 have d4:=fun s=>fF s [Kf.T12.conj (CR.pw (lJ f) 15132376222941642752),frI 1 (lJ f)] (by simp)
 have eB:bi [Kf.T12.conj (CR.pw (lJ f) 15132376222941642752),frI 1 (lJ f)]=iV f:=rfl
 rw[eB]at d4
 have g1:=oL (iV f)
 have g2:=oL (CR.pw (iV f) 15132376222941642752)
 have g3:=od (iV f) (n:=2) (by decide)
 have g4:=jG (iV f)
 have g5:=fun s=>fF s [CR.pw (CR.pw (iV f) 15132376222941642752) 15132376222941642752,frI 2 (iV f),Kf.T12.conj (iV f)] (by simp)
 have eC:bi [CR.pw (CR.pw (iV f) 15132376222941642752) 15132376222941642752,frI 2 (iV f),Kf.T12.conj (iV f)]=Ei f:=rfl
 rw[eC]at g5
 have k1:=fun s=>fF s [Ei f,uY f] (by simp)
 rw[show bi [Ei f,uY f]=gm f from rfl]at k1
 clear eG eH eA eB eC
 generalize gm f=zP at *
 generalize Ei f=zC at *
 generalize Kf.T12.conj (CR.pw (lJ f) 15132376222941642752)=y1 at *
 generalize CR.pw (lJ f) 15132376222941642752=y2 at *
 generalize frI 1 (lJ f)=y3 at *
 generalize CR.pw (CR.pw (iV f) 15132376222941642752) 15132376222941642752=y4 at *
 generalize CR.pw (iV f) 15132376222941642752=y5 at *
 generalize frI 2 (iV f)=y6 at *
 generalize Kf.T12.conj (iV f)=y7 at *
 generalize iV f=zB at *
 generalize lJ f=zA at *
 generalize uY f=zH at *
 generalize frI 2 (qI f)=y8 at *
 generalize qI f=zG at *
 generalize Kf.T12.conj f=y9 at *
 generalize Kf.T12.inv f=yA at *
 repeat (first|(refine cO ?_;intro _)|refine uo ?_|refine Z81 fun _=>?_|refine Z82 fun _=>?_|refine Z85 fun _=>?_)
 rename_i p1 p2
 refine nz (fun a=>[(2,pt p2 0),(3,pt a 0)]) (fun a=>[.blk a (bM zG) 138,.blk p2 (LV .u64 (List.replicate 72 0)) 138]) (fun p3=>?_) (fun hK=>?_)
 case refine_2=>
  refine R.ag [0,1,2,3,4,6,5,7] (by rfl) ?_
  repeat' (first|refine DS ?_|refine ah a1 ?_|refine ah a2 ?_|refine DB (a3 _) ?_|refine nP ?_|(refine R.Zpd (by rfl) (by intro _ _ _;(refine av (m:=72) (k:=2) (kk:=.u64) (vss:=gt [y9,yA]) (by rfl) (by rfl) (by rfl) (by rfl) (by rfl) (by rfl) (by rfl) (dc _) (by rfl) (by rfl) fun _=>?_);exact R.dN) fun _=>?_)|(refine R.zU (i:=4) (j:=6) [5,6,7] [4,5,7] (R.Mks.mk (R.Mk.mk' (by rfl) (by intro _ _ _;(refine av (m:=72) (k:=2) (kk:=.u64) (vss:=gt [y9,yA]) (by rfl) (by rfl) (by rfl) (by rfl) (by rfl) (by rfl) (by rfl) (dc _) (by rfl) (by rfl) fun _=>?_);first|exact R.iH|exact R.dN|exact R.iI)) (fun _=>?_)) (R.Mks.mk (R.Mk.mk' (by rfl) (by intro _ _ _;refine ar (v:=LV .u64 (List.replicate 72 0)) (by rfl) (by rfl) fun _=>?_;first|exact R.iH|exact R.dN|exact R.iI)) (fun _=>?_)))|(refine ur ?_;intro _)|(refine sC ?_;intro _))
  all_goals refine R.Zp0 ?_
  all_goals exact dZ sbq sw (hK _)
 clear a1 a2 a3
 case refine_1=>
  repeat (first|refine uo ?_|refine Z81 fun _=>?_|refine Z82 fun _=>?_|refine Z85 fun _=>?_)
  refine nz (fun a=>[(2,pt p2 0),(4,pt a 0)]) (fun a=>[.blk a (bM zH) 138,.blk p2 (LV .u64 (List.replicate 72 0)) 138]) (fun p4=>?_) (fun hK=>?_)
  case refine_2=>
   refine R.ag [0,1,2,3,5,4,6] (by rfl) ?_
   repeat' (first|refine DS ?_|refine ah b1 ?_|refine DB (b2 _) ?_|refine nP ?_|(refine R.Zpd (by rfl) (by intro _ _ _;(refine av (m:=72) (k:=2) (kk:=.u64) (vss:=gt [y8,zG]) (by rfl) (by rfl) (by rfl) (by rfl) (by rfl) (by rfl) (by rfl) (dc _) (by rfl) (by rfl) fun _=>?_);exact R.dN) fun _=>?_)|(refine R.zU (i:=3) (j:=5) [4,5,6] [3,4,6] (R.Mks.mk (R.Mk.mk' (by rfl) (by intro _ _ _;(refine av (m:=72) (k:=2) (kk:=.u64) (vss:=gt [y8,zG]) (by rfl) (by rfl) (by rfl) (by rfl) (by rfl) (by rfl) (by rfl) (dc _) (by rfl) (by rfl) fun _=>?_);first|exact R.iH|exact R.dN|exact R.iI)) (fun _=>?_)) (R.Mks.mk (R.Mk.mk' (by rfl) (by intro _ _ _;refine ar (v:=LV .u64 (List.replicate 72 0)) (by rfl) (by rfl) fun _=>?_;first|exact R.iH|exact R.dN|exact R.iI)) (fun _=>?_)))|(refine ur ?_;intro _)|(refine sC ?_;intro _))
   all_goals refine R.Zp0 ?_
   all_goals exact dZ sbq sw (hK _)
  case refine_1=>
   clear b1 b2
   repeat (first|(refine cO ?_;intro _)|refine gd ?_|refine bL (vs:=[10088250816726084267,4137836090706223446]) (kk:=.u64) (by rfl) (by rfl) (by rfl) (by rfl) (by rfl) (by rfl) (by rfl) (by rfl) fun _=>?_|refine KQ (c1 _) ?_|refine P0 ?_|refine Z81 fun _=>?_|refine Z82 fun _=>?_|refine Z85 fun _=>?_)
   rename_i p6
   refine nz (fun a=>[(2,pt p2 0),(4,pt p4 0),(5,.func (.func 145) #[] #[]),(7,pt a 0)]) (fun a=>[.blk a (bM zB) 138,.blk p4 (bM zH) 138,.blk p2 (LV .u64 (List.replicate 72 0)) 138]) (fun p7=>?_) (fun hK=>?_)
   case refine_2=>
    refine R.ag [0,1,2,3,4,5,6,8,7,9] (by rfl) ?_
    repeat' (first|refine DS ?_|refine ah d1 ?_|refine ah d2 ?_|refine ah d3 ?_|refine DB (d4 _) ?_|refine nP ?_|(refine R.Zpd (by rfl) (by intro _ _ _;(refine av (m:=72) (k:=2) (kk:=.u64) (vss:=gt [y1,y3]) (by rfl) (by rfl) (by rfl) (by rfl) (by rfl) (by rfl) (by rfl) (dc _) (by rfl) (by rfl) fun _=>?_);exact R.dN) fun _=>?_)|(refine R.zU (i:=6) (j:=8) [7,8,9] [6,7,9] (R.Mks.mk (R.Mk.mk' (by rfl) (by intro _ _ _;(refine av (m:=72) (k:=2) (kk:=.u64) (vss:=gt [y1,y3]) (by rfl) (by rfl) (by rfl) (by rfl) (by rfl) (by rfl) (by rfl) (dc _) (by rfl) (by rfl) fun _=>?_);first|exact R.iH|exact R.dN|exact R.iI)) (fun _=>?_)) (R.Mks.mk (R.Mk.mk' (by rfl) (by intro _ _ _;refine ar (v:=LV .u64 (List.replicate 72 0)) (by rfl) (by rfl) fun _=>?_;first|exact R.iH|exact R.dN|exact R.iI)) (fun _=>?_)))|(refine ur ?_;intro _)|(refine sC ?_;intro _))
    all_goals refine R.Zp0 ?_
    all_goals exact dZ sbq sw (hK _)
   case refine_1=>
    clear d1 d2 d3 d4
    repeat (first|refine uo ?_|refine Z81 fun _=>?_|refine Z82 fun _=>?_|refine Z85 fun _=>?_)
    refine nz (fun a=>[(2,pt p2 0),(4,pt p4 0),(8,pt a 0)]) (fun a=>[.blk a (bM zC) 138,.blk p4 (bM zH) 138,.blk p2 (LV .u64 (List.replicate 72 0)) 138]) (fun p8=>?_) (fun hK=>?_)
    case refine_2=>
     refine R.ag [0,1,2,3,4,5,6,7,8,9,11,10,12] (by rfl) ?_
     repeat' (first|refine DS ?_|refine ah g1 ?_|refine ah g2 ?_|refine ah g3 ?_|refine ah g4 ?_|refine DB (g5 _) ?_|refine nP ?_|(refine R.Zpd (by rfl) (by intro _ _ _;(refine av (m:=72) (k:=3) (kk:=.u64) (vss:=gt [y4,y6,y7]) (by rfl) (by rfl) (by rfl) (by rfl) (by rfl) (by rfl) (by rfl) (dc _) (by rfl) (by rfl) fun _=>?_);exact R.dN) fun _=>?_)|(refine R.zU (i:=9) (j:=11) [10,11,12] [9,10,12] (R.Mks.mk (R.Mk.mk' (by rfl) (by intro _ _ _;(refine av (m:=72) (k:=3) (kk:=.u64) (vss:=gt [y4,y6,y7]) (by rfl) (by rfl) (by rfl) (by rfl) (by rfl) (by rfl) (by rfl) (dc _) (by rfl) (by rfl) fun _=>?_);first|exact R.iH|exact R.dN|exact R.iI)) (fun _=>?_)) (R.Mks.mk (R.Mk.mk' (by rfl) (by intro _ _ _;refine ar (v:=LV .u64 (List.replicate 72 0)) (by rfl) (by rfl) fun _=>?_;first|exact R.iH|exact R.dN|exact R.iI)) (fun _=>?_)))|(refine ur ?_;intro _)|(refine sC ?_;intro _))
     all_goals refine R.Zp0 ?_
     all_goals exact dZ sbq sw (hK _)
    case refine_1=>
     repeat (first|refine av (m:=72) (k:=2) (kk:=.u64) (vss:=gt [zC,zH]) (by rfl) (by rfl) (by rfl) (by rfl) (by rfl) (by rfl) (by rfl) (dc _) (by rfl) (by rfl) fun _=>?_|refine gd ?_|refine af (by rfl) (by rfl) (by rfl) (k1 _) (Sx fd rfl) (by rfl) ?_|refine P0 ?_|refine Z81 fun _=>?_|refine Z82 fun _=>?_|refine Z85 fun _=>?_)
     refine Zec fun _ hw=>aa hw SubW.nil ⟨?_,rfl⟩
     rfl
end
section
attribute [local irreducible] Code.wp wpList Af bodyPost L.Go ab
open Num
attribute [local simp] ae
attribute [local irreducible] al cW cA g6 dC em
theorem Eu(x y:Fq)(i:Bool):Spec Tryz.prog 107 [HE x y i] ai [] (IsV (.bool i)):=by
 refine ad Tryz.func107 rfl rfl rfl fun w _=>?_
 have hl0:=fun x=>ae 6 x
 repeat (first|refine fo ?_|refine cv ?_|refine Z02 ?_|refine Z03 ?_|refine Z04 ?_|refine Z05 ?_|refine Z06 ?_|refine Z07 ?_|refine Z08 ?_|refine Z09 ?_|refine Z10 ?_|refine Z11 ?_|refine Z12 ?_|refine Z13 ?_|refine Z14 ?_|refine Z24 ?_|refine Z26 ?_|refine Z27 ?_|refine Z67 ?_|refine Z81 fun _=>?_)
 refine Ze1 fun _ hw=>aa hw SubW.nil ⟨?_,rfl⟩
 rfl
theorem Kr{a b:Prop}(k:b)(h:Rm b→a:=by intro k;refine R.Zpp (by rfl) (by intro _ _ _;refine db (m:=12) (by rfl) fd (by rfl) (by rfl) (by first|with_reducible assumption|simp) (by rfl) ?_;exact Zq) ?_;exact k.h):a:=h ⟨k⟩
set_option maxHeartbeats 8000000 in
theorem EM{P:Kf.K2.Pt p}(h:Kf.K2.Onc c4 P)(hR:Kf.K2.Rl P)(hr:Kf.K2.tim P 52435875175126190479447740508185965837690552500527637822603658699938581184513=none):
  Spec Tryz.prog 106 [HV P,.func (.func 30) #[] #[],.func (.func 107) #[] #[]] ai [] (IsV (.bool true)):=by
 refine ad Tryz.func106 rfl rfl rfl fun w _=>?_
 have hl0:=fun x=>ae 6 x
 have hm:=fun s=>Cf h hR s rL OQ (by decide)
 rw[Vu,hr,jh]at hm
 obtain⟨x1,y1,i1,hq⟩:∃x1 y1 i1,HV P=HE x1 y1 i1:=⟨_,_,_,rfl⟩
 rw[hq]at hm ⊢
 have hi:=Eu 0 0 true
 repeat (first|(refine dV ?_;intro _)|(refine sO ?_;intro _)|refine Pa ?_|refine Z81 fun _=>?_|refine Z82 fun _=>?_)
 refine R.ag [0,1,2,3,4,5,6,7,8,9] (by rfl) ?_
 repeat (first|(refine R.Zpf (by rfl) (by intro _ _ _;(first|refine Pb ?_);exact Zq) ?_)|refine uw ?_|refine Kr ?_|refine Pc (hm _) ?_|refine aA ?_|refine Ki ?_|(refine R.Zpb (by rfl) (by intro _ _ _;refine ar (E:=58) (v:=GL (List.replicate 12 0) false) (by kernel_rfl) (by rfl) fun _=>?_;exact R.eN) fun _=>?_)|(refine aV ?_;intro _))
 refine R.Zp0 ?_
 repeat (first|refine jf ?_|refine y_4 hi ?_|refine PX ?_|refine Z81 fun _=>?_|refine Z82 fun _=>?_)
 refine Ze1 fun _ hw=>aa hw SubW.nil ⟨?_,rfl⟩
 rfl
theorem RD{P:Kf.K2.Pt p}(h:Kf.K2.Onc c4 P)(hR:Kf.K2.Rl P)(hr:Kf.K2.tim P 52435875175126190479447740508185965837690552500527637822603658699938581184513=none):Spec Tryz.prog 54 [HV P] ai [] (IsV (.bool true)):=by
 refine ad Tryz.func54 rfl rfl rfl fun w _=>?_
 have hl0:=fun x=>ae 6 x
 have ho:=EM h hR hr
 obtain⟨x1,y1,i1,hq⟩:∃x1 y1 i1,HV P=HE x1 y1 i1:=⟨_,_,_,rfl⟩
 rw[hq]at ho ⊢
 repeat (first|refine jf ?_|refine y_4 ho ?_|refine Pd ?_|refine Z81 fun _=>?_)
 refine Ze1 fun _ hw=>aa hw SubW.nil ⟨?_,rfl⟩
 rfl
theorem om:Spec Tryz.prog 139 [] ai [] (IsV (bM Kf.T12.one)):=by
 refine ad Tryz.func139 rfl rfl rfl fun w _=>?_
 have hl0:=fun x=>ae 6 x
 have hle:=fun x:F2=>ak x
 repeat (first|refine KN ?_|(refine cO ?_;intro _)|refine jQ ?_|refine Z03 ?_|refine Z04 ?_|refine Z05 ?_|refine Z06 ?_|refine Z07 ?_|refine Z08 ?_|refine Z09 ?_|refine Z10 ?_|refine Z11 ?_|refine Z12 ?_|refine Z13 ?_|refine Z14 ?_|refine Z29 ?_|refine Z30 ?_|refine Z31 ?_|refine Z32 ?_|refine Z82 fun _=>?_)
 refine Zec fun _ hw=>aa hw SubW.nil ⟨?_,rfl⟩
 rfl
theorem GI(v:Fq):D 6 v.val++List.replicate 6 0=E2 (em v):=by
 rw[z6];unfold em;rfl
theorem GO(l:F2)(u:Fq):Kf.K2.gs l u=Kf.K2.mul l (em u):=by
 unfold Kf.K2.gs Kf.K2.mul em
 exact Kf.K2.ext' (by grind) (by grind)
theorem Ks{a b:Prop}(k:b)(h:Rm b→a:=by intro k;refine yG (m:=12) (by rfl) (by rfl) (by kernel_rfl) (by rfl) (ak _) (ak _) (by rfl) ?_;rw[K6];exact k.h):a:=h ⟨k⟩
set_option maxHeartbeats 4000000 in
theorem tl(l x y:F2)(i:Bool)(u v:Fq)(j:Bool):Spec Tryz.prog 156 [LE2 l,GE x y i,HE u v j] ai [] (IsV (bM (Kf.T12.ln l x y (em u) (em v)))):=by
 refine ad Tryz.func156 rfl rfl rfl fun w _=>?_
 have hl0:=fun x=>ae 6 x
 have hle:=fun x:F2=>ak x
 have a1:=aF l x
 have a2:=bE (Kf.K2.mul l x) y
 have a3:=C3 l u
 rw[GO]at a3
 have a4:=o8 (Kf.K2.mul l (em u))
 have a5:=I5 v
 have e:Kf.T12.ln l x y (em u) (em v)=⟨⟨Kf.K2.sub (Kf.K2.mul l x) y,Kf.K2.neg (Kf.K2.mul l (em u)),Kf.K2.zero⟩,⟨Kf.K2.zero,em v,Kf.K2.zero⟩⟩:=rfl
 rw[e]
 generalize Kf.K2.neg (Kf.K2.mul l (em u))=c1 at *
 generalize Kf.K2.mul l (em u)=c2 at *
 generalize Kf.K2.sub (Kf.K2.mul l x) y=c3 at *
 generalize Kf.K2.mul l x=c4 at *
 have e1:=GI v
 generalize em v=ev at *
 repeat (first|(refine cO ?_;intro _)|refine bW ?_|refine Z81 fun _=>?_|refine Z82 fun _=>?_)
 refine R.ag [0,1,2,3,4,5,6,7,8,9,10,11,12,13,14,15,16,17,18,19] (by rfl) ?_
 repeat (first|(refine R.Zpf (by rfl) (by intro _ _ _;(first|refine cv ?_|refine Ks ?_|(refine eo (m:=6) (by rfl) (by rfl) (by kernel_rfl) (by rfl) (ae 6 _) (by rfl) ?_;rw[e1])|(refine Bc (m:=12) (by rfl) (by rfl) (by kernel_rfl) (by rfl) (ak _) (by rfl) ?_;rw[K6])|refine Pl ?_|refine bI ?_|refine eO ?_|refine fM ?_|(refine rU (by rfl) (by rfl) (by rfl) (by rfl) (by simp;done) (by rfl) ?_));exact Zq) ?_)|refine aL ?_|refine lC ?_|refine sj ?_|refine sn ?_|refine ah a1 ?_|refine ah a2 ?_|refine ah a3 ?_|refine ah a4 ?_|refine ah a5 ?_|refine cB ?_|refine aA ?_|refine DA ?_|(refine aV ?_;intro _))
 refine R.Zp0 ?_
 repeat (first|refine bW ?_|refine Z81 fun _=>?_|refine Z82 fun _=>?_)
 refine Zec fun _ hw=>aa hw SubW.nil ⟨?_,rfl⟩
 rfl
section
variable {P:Program} {c:Cx} {n:Nn} {l:Sl} {W:List Res}
theorem ib{fn:Func}{R:Ending→World→Prop}{t u:Tmp}{b b' m m':Nat}{T T' U U':TypeId}{k':IntKind}{ys ys':List Nat}{i:Bool}{R0 R1:List Res}
  (hres:fn.results = #[.cell t T,.cell u T']) (hv:lk l t=some (pt b 0)) (hu:lk l u=some (pt b' 0)) (hf:Find W (.blk b (GL ys i) U) R0) (hf':Find W (.blk b' (LV k' ys') U') R1) (hs:cD P T=true) (hz:ay P T=some (m+1)) (hl:ys.length=m)
  (hs':cD P T'=true) (hz':ay P T'=some m') (hl':ys'.length=m')
  (hR:∀w,SatW c W w→R (.returned (.tuple #[GL ys i,LV k' ys'])) w) (hD:n.df=[]:=by rfl):Go c n l W (bodyPost P fn R .ret):=by
 rw[cw]at hf
 exact t4 hres hv hu hf hf' hs (by rw[hz];simp[hl]) hs' (by subst hl';simpa using hz') (by rw[cw]at hR;exact hR) hD
end
abbrev SV(T:Kf.K2.Pt p)(f:F12):Value:=.tuple [GV T,bM f].toArray
theorem VI(x:F2)(u:Fq):Kf.T12.e6 (Kf.T12.vt x (em u))=⟨⟨x,em (g6 u),Kf.K2.zero⟩,Kf.T6.zero⟩:=by
 unfold Kf.T12.e6 Kf.T12.vt
 rw[GJ]
theorem xC(x y:F2):Spec Tryz.prog 62 [GE x y false] ai [] (IsV (GE x y false)):=xA (some (x,y))
theorem V1{a b:Prop}(k:b)(h:Rm b→a:=by intro k;refine eo (m:=36) (by rfl) (by rfl) (by kernel_rfl) (by rfl) (eQ _ _ _) (by rfl) ?_;rw[Qg];exact k.h):a:=h ⟨k⟩
theorem Pn{a b:Prop}(k:b)(h:Rm b→a:=by intro k;refine R.D1 (by rfl) (by intro _ _ _;(refine cQ (by rfl) fd (by rfl) (by rfl) (by first | (refine ab.l ?_;(simp;done)) | (refine ab.r ?_ ?_ <;> (simp;done)) | (refine ab.all ?_;(simp;done))) (by rfl) ?_);exact Zq) ?_;exact k.h):a:=h ⟨k⟩
theorem KO{a b:Prop}(k:b)(h:Rm b→a:=by intro k;(first|refine fo ?_|refine po ?_|refine cv ?_|refine O5 ?_);exact k.h):a:=h ⟨k⟩
theorem KP{a b:Prop}(k:b)(h:Rm b→a:=by intro k;(first|refine bI ?_|refine eP ?_|refine eO ?_|refine fM ?_|refine fL ?_|refine kB ?_|refine Z01 ?_|refine Z02 ?_|refine Z03 ?_|refine Z04 ?_|refine Z05 ?_|refine Z06 ?_|refine Z07 ?_|refine Z08 ?_|refine Z09 ?_|refine Z10 ?_|refine Z11 ?_|refine Z12 ?_|refine Z13 ?_|refine Z14 ?_|refine Z24 ?_|refine Z26 ?_|refine Z27 ?_|refine Z29 ?_|refine Z30 ?_|refine Z31 ?_|refine Z32 ?_|refine Z49 ?_|refine Z50 ?_|refine Z51 ?_|refine Z52 ?_|refine Z67 ?_|refine Z77 ?_|refine Z78 ?_|refine Z79 ?_);exact k.h):a:=h ⟨k⟩
theorem P1{a b:Prop}(k:b)(h:Rm b→a:=by intro k;(first|refine V1 ?_|refine bI ?_|refine eO ?_|refine fM ?_|refine fL ?_|refine kB ?_|refine Z01 ?_|refine Z02 ?_|refine Z49 ?_|refine Z50 ?_|refine Z77 ?_|refine Z78 ?_|refine Z79 ?_);exact k.h):a:=h ⟨k⟩
set_option maxHeartbeats 8000000 in
theorem AK(x1 y1 y2:F2)(pu pv:Fq)(hv:¬(y1=y2∧y1≠Kf.K2.zero)):Spec Tryz.prog 141 [GE x1 y1 false,GE x1 y2 false,HE pu pv false] ai []
  (IsV (.tuple [GE Kf.K2.zero Kf.K2.zero true,bM ⟨⟨x1,em (g6 pu),Kf.K2.zero⟩,Kf.T6.zero⟩].toArray)):=by
 refine ad Tryz.func141 rfl rfl rfl fun w _=>?_
 have hl0:=fun x=>ae 6 x
 have hle:=fun x:F2=>ak x
 have h1:=xC x1 y1
 have h2:=xC x1 y2
 have n1:=CQ pu
 have n2:=GI (g6 pu)
 generalize g6 pu=pn at n1 n2 ⊢
 generalize em pn=pe at n2 ⊢
 by_cases hy1:y1=y2
 ·subst hy1
  have hy2:y1=Kf.K2.zero:=Classical.not_not.1 fun h=>hv ⟨rfl,h⟩
  have hz2:(decide (D 6 y1.re.val=D 6 (Kf.K2.zero:F2).re.val)&&decide (D 6 y1.im.val=D 6 (Kf.K2.zero:F2).im.val))=true:=by rw[hy2];exact fP _
  repeat (first|(refine ct ?_;intro _)|(refine cO ?_;intro _)|refine bo ?_|refine Z81 fun _=>?_|refine Z82 fun _=>?_)
  refine R.ag [0,1,2,3,4,5] (by rfl) ?_
  repeat (first|refine py ?_|refine ah h1 ?_|refine ah h2 ?_|refine ge ?_|(refine aV ?_;intro _))
  refine R.Zp0 ?_
  repeat (first|refine KO ?_|refine dF hz2 ?_|refine nR ?_|(refine bG ?_;intro _)|refine KP ?_|refine Z81 fun _=>?_|refine Z82 fun _=>?_)
  refine R.ag [0,1,3,4,5,6,2,9,7,8,10] (by rfl) ?_
  repeat' (first|(refine R.Zpf (by rfl) (by intro _ _ _;(first|refine se ?_|refine cv ?_|refine Ks ?_|(refine eo (m:=6) (by rfl) (by rfl) (by kernel_rfl) (by rfl) (ae 6 _) (by rfl) ?_;rw[n2])|refine P1 ?_);exact Zq) ?_)|refine Pn ?_|(refine R.zT [7,8,9,10] [2,7,8,10] (by rfl) (by rfl) (by intro _ _ _;(refine cQ (by rfl) fd (by rfl) (by rfl) (by first | (refine ab.l ?_;(simp;done)) | (refine ab.r ?_ ?_ <;> (simp;done)) | (refine ab.all ?_;(simp;done))) (by rfl) ?_);exact Zq) (by intro _ _ _;refine eJ (m:=24) (by rfl) (by rfl) fd (by rfl) (by first|with_reducible assumption|simp) (by first|with_reducible assumption|simp) ?_;exact Zqq) ?_ ?_)|refine aL ?_|refine sj ?_|refine sn ?_|refine ah n1 ?_|refine cB ?_|refine aA ?_|refine sf ?_|refine DA ?_|(refine aV ?_;intro _))
  all_goals refine R.Zp0 ?_
  all_goals
   repeat (first|refine bo ?_|refine Z81 fun _=>?_|refine Z82 fun _=>?_)
   refine ib (m:=24) (m':=72) (by rfl) (by rfl) (by rfl) fd fd (by rfl) (by rfl) (by first|with_reducible assumption|simp) (by rfl) (by rfl) (by first | exact be _ | exact be ⟨⟨_,_,_⟩,_⟩) fun _ hw=>aa hw SubW.nil ⟨?_,rfl⟩
   rfl
 ·repeat (first|(refine ct ?_;intro _)|(refine cO ?_;intro _)|refine bo ?_|refine Z81 fun _=>?_|refine Z82 fun _=>?_)
  refine R.ag [0,1,2,3,4,5] (by rfl) ?_
  repeat (first|refine py ?_|refine ah h1 ?_|refine ah h2 ?_|refine ge ?_|(refine aV ?_;intro _))
  refine R.Zp0 ?_
  repeat (first|refine KO ?_|refine Dr (cP hy1) ?_|(refine bG ?_;intro _)|refine KP ?_|refine Z81 fun _=>?_|refine Z82 fun _=>?_)
  refine R.ag [0,1,3,4,5,6,2,9,7,8,10] (by rfl) ?_
  repeat' (first|(refine R.Zpf (by rfl) (by intro _ _ _;(first|refine se ?_|refine cv ?_|refine Ks ?_|(refine eo (m:=6) (by rfl) (by rfl) (by kernel_rfl) (by rfl) (ae 6 _) (by rfl) ?_;rw[n2])|refine P1 ?_);exact Zq) ?_)|refine Pn ?_|(refine R.zT [7,8,9,10] [2,7,8,10] (by rfl) (by rfl) (by intro _ _ _;(refine cQ (by rfl) fd (by rfl) (by rfl) (by first | (refine ab.l ?_;(simp;done)) | (refine ab.r ?_ ?_ <;> (simp;done)) | (refine ab.all ?_;(simp;done))) (by rfl) ?_);exact Zq) (by intro _ _ _;refine eJ (m:=24) (by rfl) (by rfl) fd (by rfl) (by first|with_reducible assumption|simp) (by first|with_reducible assumption|simp) ?_;exact Zqq) ?_ ?_)|refine aL ?_|refine sj ?_|refine sn ?_|refine ah n1 ?_|refine cB ?_|refine aA ?_|refine sf ?_|refine DA ?_|(refine aV ?_;intro _))
  all_goals refine R.Zp0 ?_
  all_goals
   repeat (first|refine bo ?_|refine Z81 fun _=>?_|refine Z82 fun _=>?_)
   refine ib (m:=24) (m':=72) (by rfl) (by rfl) (by rfl) fd fd (by rfl) (by rfl) (by first|with_reducible assumption|simp) (by rfl) (by rfl) (by first | exact be _ | exact be ⟨⟨_,_,_⟩,_⟩) fun _ hw=>aa hw SubW.nil ⟨?_,rfl⟩
   rfl
theorem We{a b:Prop}(k:b)(h:Rm b→a:=by intro k;(first|refine bI ?_|refine eO ?_|refine fM ?_|refine fL ?_|refine kB ?_|refine Z01 ?_|refine Z02 ?_|refine Z49 ?_|refine Z50 ?_|refine Z77 ?_|refine Z78 ?_|refine Z79 ?_);exact k.h):a:=h ⟨k⟩
theorem Wf{a b:Prop}(k:b)(h:Rm b→a:=by intro k;(first|refine zm ?_|refine bI ?_|refine eO ?_|refine fM ?_|refine fL ?_|refine kB ?_|refine Z01 ?_|refine Z02 ?_|refine Z49 ?_|refine Z50 ?_|refine Z77 ?_|refine Z78 ?_|refine Z79 ?_);exact k.h):a:=h ⟨k⟩
theorem KY{a b:Prop}(k:b)(h:Rm b→a:=by intro k;refine R.Zpf (by rfl) (by intro _ _ _;(first|refine We ?_);exact Zq) ?_;exact k.h):a:=h ⟨k⟩
theorem Qe{a b:Prop}(k:b)(h:Rm b→a:=by intro k;(first|(refine R.Zpf (by rfl) (by intro _ _ _;(first|refine Wf ?_);exact Zq) ?_)|refine aL ?_|refine zn ?_|refine Kr ?_|refine lC ?_);exact k.h):a:=h ⟨k⟩
theorem DX{a b:Prop}(k:b)(h:Rm b→a:=by intro k;(first|refine KY ?_|refine aL ?_|refine lC ?_|refine cB ?_);exact k.h):a:=h ⟨k⟩
set_option maxHeartbeats 8000000 in
theorem EH(x1 y1:F2)(pu pv:Fq)(hy2:y1≠Kf.K2.zero):Spec Tryz.prog 141 [GE x1 y1 false,GE x1 y1 false,HE pu pv false] ai []
  (IsV (.tuple [GE (Kf.K2.cx (Kf.K2.gb x1 y1) x1 x1) (Kf.K2.cy (Kf.K2.gb x1 y1) x1 y1 x1) false,bM (Kf.T12.ln (Kf.K2.gb x1 y1) x1 y1 (em pu) (em pv))].toArray)):=by
 refine ad Tryz.func141 rfl rfl rfl fun w _=>?_
 have hl0:=fun x=>ae 6 x
 have hle:=fun x:F2=>ak x
 have h1:=xC x1 y1
 have m1:=aF x1 x1
 have m2:=cX (Kf.K2.mul x1 x1) (Kf.K2.mul x1 x1)
 have m3:=cX (Kf.K2.add (Kf.K2.mul x1 x1) (Kf.K2.mul x1 x1)) (Kf.K2.mul x1 x1)
 have m4:=cX y1 y1
 rw[Kf.K2.gb,Kf.K2.q3]
 generalize Kf.K2.add (Kf.K2.add (Kf.K2.mul x1 x1) (Kf.K2.mul x1 x1)) (Kf.K2.mul x1 x1)=u at m3 ⊢
 generalize Kf.K2.add (Kf.K2.mul x1 x1) (Kf.K2.mul x1 x1)=u1 at m2 m3
 generalize Kf.K2.mul x1 x1=u2 at m1 m2 m3
 generalize Kf.K2.add y1 y1=v at m4 ⊢
 repeat (first|(refine ct ?_;intro _)|(refine cO ?_;intro _)|refine bo ?_|refine Z81 fun _=>?_|refine Z82 fun _=>?_)
 refine R.ag [0,1,2,3,4,5] (by rfl) ?_
 repeat (first|refine py ?_|refine ah h1 ?_|refine ge ?_|(refine aV ?_;intro _))
 refine R.Zp0 ?_
 repeat (first|refine KO ?_|refine dF (cP hy2) ?_|refine nR ?_|(refine bG ?_;intro _)|refine bI ?_|refine eP ?_|refine eO ?_|refine fM ?_|refine fL ?_|refine kB ?_|refine y_4 m1 ?_|refine bo ?_|refine Z81 fun _=>?_|refine Z82 fun _=>?_)
 refine R.ag [0,1,2,3,4,5,6,7,8,9,10,11] (by rfl) ?_
 repeat (first|refine DX ?_|refine ah m2 ?_|refine ah m3 ?_|refine ah m4 ?_|refine aA ?_|(refine aV ?_;intro _))
 refine R.Zp0 ?_
 repeat (first|refine bo ?_|refine Z81 fun _=>?_|refine Z82 fun _=>?_)
 obtain⟨l,hl⟩:∃l:F2,l=Kf.K2.mul u (Kf.K2.inv v):=⟨_,rfl⟩
 have k1:=kw v
 have k2:=aF u (Kf.K2.inv v)
 rw[← hl]at k2 ⊢
 generalize Kf.K2.inv v=vi at k1 k2
 clear hl
 have k3:=aF l l
 have k4:=bE (Kf.K2.mul l l) x1
 have k5:=bE (Kf.K2.sub (Kf.K2.mul l l) x1) x1
 have k6:=bE x1 (Kf.K2.cx l x1 x1)
 have k7:=aF l (Kf.K2.sub x1 (Kf.K2.cx l x1 x1))
 have k8:=bE (Kf.K2.mul l (Kf.K2.sub x1 (Kf.K2.cx l x1 x1))) y1
 have k9:=tl l x1 y1 false pu pv false
 rw[show Kf.K2.sub (Kf.K2.sub (Kf.K2.mul l l) x1) x1=Kf.K2.cx l x1 x1 from rfl]at k5
 rw[show Kf.K2.sub (Kf.K2.mul l (Kf.K2.sub x1 (Kf.K2.cx l x1 x1))) y1=Kf.K2.cy l x1 y1 x1 from rfl]at k8
 generalize Kf.T12.ln l x1 y1 (em pu) (em pv)=ff at k9 ⊢
 generalize Kf.K2.cy l x1 y1 x1=yy at k8 ⊢
 generalize Kf.K2.mul l (Kf.K2.sub x1 (Kf.K2.cx l x1 x1))=g1 at k7 k8
 generalize Kf.K2.sub x1 (Kf.K2.cx l x1 x1)=g2 at k6 k7
 generalize Kf.K2.cx l x1 x1=xx at k5 k6 ⊢
 generalize Kf.K2.sub (Kf.K2.mul l l) x1=g3 at k4 k5
 generalize Kf.K2.mul l l=g4 at k3 k4
 refine R.ag [0,1,2,3,4,5] (by rfl) ?_
 repeat (first|refine KY ?_|refine aL ?_|refine cB ?_|refine ah k1 ?_|refine ah k2 ?_|refine aA ?_|(refine fN ?_;intro _)|(refine aV ?_;intro _))
 refine R.Zp0 ?_
 repeat (first|refine bo ?_|refine Z81 fun _=>?_|refine Z82 fun _=>?_)
 refine R.ag [0,1,2,3,4,5,6,7,8,9,10] (by rfl) ?_
 repeat (first|refine DX ?_|refine ah k3 ?_|refine ah k4 ?_|refine ah k5 ?_|refine aA ?_|(refine fN ?_;intro _)|(refine aV ?_;intro _))
 refine R.Zp0 ?_
 repeat (first|refine bo ?_|refine Z81 fun _=>?_|refine Z82 fun _=>?_)
 refine R.ag [0,1,2,3,4,5,6,7,8,9,10,11,12,13,14,15,16] (by rfl) ?_
 repeat (first|refine Qe ?_|refine ah k6 ?_|refine ah k7 ?_|refine ah k8 ?_|refine ah k9 ?_|refine cB ?_|refine aA ?_|refine sf ?_|refine Dz ?_|(refine aV ?_;intro _))
 refine R.Zp0 ?_
 repeat (first|refine bo ?_|refine Z81 fun _=>?_|refine Z82 fun _=>?_)
 refine ib (m:=24) (m':=72) (by rfl) (by rfl) (by rfl) fd fd (by rfl) (by rfl) (by first|with_reducible assumption|simp) (by rfl) (by rfl) (by first | exact be _ | exact be ⟨⟨_,_,_⟩,_⟩) fun _ hw=>aa hw SubW.nil ⟨?_,rfl⟩
 rfl
set_option maxHeartbeats 8000000 in
theorem EG(x1 y1 x2 y2:F2)(pu pv:Fq)(hx:x1≠x2):Spec Tryz.prog 141 [GE x1 y1 false,GE x2 y2 false,HE pu pv false] ai []
  (IsV (.tuple [GE (Kf.K2.cx (Kf.K2.d8 x1 y1 x2 y2) x1 x2) (Kf.K2.cy (Kf.K2.d8 x1 y1 x2 y2) x1 y1 x2) false,bM (Kf.T12.ln (Kf.K2.d8 x1 y1 x2 y2) x1 y1 (em pu) (em pv))].toArray)):=by
 refine ad Tryz.func141 rfl rfl rfl fun w _=>?_
 have hl0:=fun x=>ae 6 x
 have hle:=fun x:F2=>ak x
 have h1:=xC x1 y1
 have h2:=xC x2 y2
 have m1:=bE y2 y1
 have m2:=bE x2 x1
 rw[Kf.K2.d8]
 generalize Kf.K2.sub y2 y1=u at m1 ⊢
 generalize Kf.K2.sub x2 x1=v at m2 ⊢
 repeat (first|(refine ct ?_;intro _)|(refine cO ?_;intro _)|refine bo ?_|refine Z81 fun _=>?_|refine Z82 fun _=>?_)
 refine R.ag [0,1,2,3,4,5] (by rfl) ?_
 repeat (first|refine py ?_|refine ah h1 ?_|refine ah h2 ?_|refine ge ?_|(refine aV ?_;intro _))
 refine R.Zp0 ?_
 repeat (first|refine fo ?_|refine po ?_|refine cv ?_|refine Dr (cP hx) ?_|(refine bG ?_;intro _)|refine KP ?_|refine Z81 fun _=>?_|refine Z82 fun _=>?_)
 refine R.ag [0,1,2,3,4,5,6,7,8,9,10,11] (by rfl) ?_
 repeat (first|refine DX ?_|refine ah m1 ?_|refine ah m2 ?_|refine aA ?_|(refine aV ?_;intro _))
 refine R.Zp0 ?_
 repeat (first|refine bo ?_|refine Z81 fun _=>?_|refine Z82 fun _=>?_)
 obtain⟨l,hl⟩:∃l:F2,l=Kf.K2.mul u (Kf.K2.inv v):=⟨_,rfl⟩
 have k1:=kw v
 have k2:=aF u (Kf.K2.inv v)
 rw[← hl]at k2 ⊢
 generalize Kf.K2.inv v=vi at k1 k2
 clear hl
 have k3:=aF l l
 have k4:=bE (Kf.K2.mul l l) x1
 have k5:=bE (Kf.K2.sub (Kf.K2.mul l l) x1) x2
 have k6:=bE x1 (Kf.K2.cx l x1 x2)
 have k7:=aF l (Kf.K2.sub x1 (Kf.K2.cx l x1 x2))
 have k8:=bE (Kf.K2.mul l (Kf.K2.sub x1 (Kf.K2.cx l x1 x2))) y1
 have k9:=tl l x1 y1 false pu pv false
 rw[show Kf.K2.sub (Kf.K2.sub (Kf.K2.mul l l) x1) x2=Kf.K2.cx l x1 x2 from rfl]at k5
 rw[show Kf.K2.sub (Kf.K2.mul l (Kf.K2.sub x1 (Kf.K2.cx l x1 x2))) y1=Kf.K2.cy l x1 y1 x2 from rfl]at k8
 generalize Kf.T12.ln l x1 y1 (em pu) (em pv)=ff at k9 ⊢
 generalize Kf.K2.cy l x1 y1 x2=yy at k8 ⊢
 generalize Kf.K2.mul l (Kf.K2.sub x1 (Kf.K2.cx l x1 x2))=g1 at k7 k8
 generalize Kf.K2.sub x1 (Kf.K2.cx l x1 x2)=g2 at k6 k7
 generalize Kf.K2.cx l x1 x2=xx at k5 k6 ⊢
 generalize Kf.K2.sub (Kf.K2.mul l l) x1=g3 at k4 k5
 generalize Kf.K2.mul l l=g4 at k3 k4
 refine R.ag [0,1,2,3,4,5] (by rfl) ?_
 repeat (first|refine KY ?_|refine aL ?_|refine cB ?_|refine ah k1 ?_|refine ah k2 ?_|refine aA ?_|(refine fN ?_;intro _)|(refine aV ?_;intro _))
 refine R.Zp0 ?_
 repeat (first|refine bo ?_|refine Z81 fun _=>?_|refine Z82 fun _=>?_)
 refine R.ag [0,1,2,3,4,5,6,7,8,9,10] (by rfl) ?_
 repeat (first|refine DX ?_|refine ah k3 ?_|refine ah k4 ?_|refine ah k5 ?_|refine aA ?_|(refine fN ?_;intro _)|(refine aV ?_;intro _))
 refine R.Zp0 ?_
 repeat (first|refine bo ?_|refine Z81 fun _=>?_|refine Z82 fun _=>?_)
 refine R.ag [0,1,2,3,4,5,6,7,8,9,10,11,12,13,14,15,16] (by rfl) ?_
 repeat (first|refine Qe ?_|refine ah k6 ?_|refine ah k7 ?_|refine ah k8 ?_|refine ah k9 ?_|refine cB ?_|refine aA ?_|refine sf ?_|refine Dz ?_|(refine aV ?_;intro _))
 refine R.Zp0 ?_
 repeat (first|refine bo ?_|refine Z81 fun _=>?_|refine Z82 fun _=>?_)
 refine ib (m:=24) (m':=72) (by rfl) (by rfl) (by rfl) fd fd (by rfl) (by rfl) (by first|with_reducible assumption|simp) (by rfl) (by rfl) (by first | exact be _ | exact be ⟨⟨_,_,_⟩,_⟩) fun _ hw=>aa hw SubW.nil ⟨?_,rfl⟩
 rfl
end
end Go.Proofs.YtndhfbecpghinaaGreat.L
namespace Go.Proofs.YtndhfbecpghinaaGreat.L.Kf
open Pr
namespace T12
variable {n:Nat} [NeZero n]
open K2 (Pt pa pn Onc No2 Slp LD cx cy gb d8 tim psi Rl)
attribute [local irreducible] K2.add K2.mul K2.sub K2.neg K2.zero K2.one K2.inv K2.xi K2.conj
structure Ps (b c g i:K2 n) (m:Nat):Prop extends Pg b c where
 hm:n=6*m+1
 hg:g=K2.pw K2.xi m
 gi:K2.mul g i=K2.one
 rc:K2.conj c=c
 h3:K2.pw (K2.mul (K2.conj (K2.pw K2.xi m)) (K2.pw K2.xi m)) 3=K2.neg (K2.one:K2 n)
theorem Ob(z a0 a1 a2 a3 a4 a5:K2 n):mul (e2 z) ⟨⟨a0,a2,a4⟩,⟨a1,a3,a5⟩⟩=⟨⟨K2.mul z a0,K2.mul z a2,K2.mul z a4⟩,⟨K2.mul z a1,K2.mul z a3,K2.mul z a5⟩⟩:=by
 rw[iy,vz]
 simp only[K2.aG,K2.aj,K2.add_zero']
section
variable {b c g i:K2 n} {m:Nat} (H:Ps b c g i m) {N:Nat}
include H
theorem Ps.i_ne:i≠K2.zero:=fun e=>K2.jt H.tw.p3 (by rw[← H.gi,e,K2.aj])
theorem Ps.g_ne:g≠K2.zero:=fun e=>K2.jt H.tw.p3 (by rw[← H.gi,e,K2.aG])
theorem Ps.gi':K2.mul g i=CR.ofZ 1:=H.gi.trans K2.of1.symm
theorem Ps.psi_on{A:Pt n}(hA:Onc b A):Onc b (psi i A):=by
 cases A with
 | none=>trivial
 | some A=>
  obtain⟨x,y⟩:=A
  have h:=congrArg K2.conj (K2.bK hA)
  rw[K2.aY,K2.fY,K2.aY,K2.aY]at h
  have hx:K2.conj (K2.xi:K2 n)=K2.mul (K2.mul (K2.mul (K2.mul g g) (K2.mul g g)) (K2.mul g g)) K2.xi:=by
   rw[← K2.UI H.tw.p3]
   have e:∀k,k=6*m+1→K2.pw (K2.xi:K2 n) k=K2.mul (K2.pw (K2.pw K2.xi m) 6) K2.xi:=by
    rintro k rfl
    rw[← K2.bN,Nat.mul_comm];rfl
   rw[e n H.hm,← H.hg]
   show K2.mul (K2.mul (K2.mul (K2.mul (K2.mul (K2.mul (K2.mul K2.one g) g) g) g) g) g) _=_
   rw[K2.aR]
   exact CR.aH (x:=(.m (.m (.m (.m (.m (.m (.v 0) (.v 0)) (.v 0)) (.v 0)) (.v 0)) (.v 0)) (.v 1))) (y:=(.m (.m (.m (.m (.v 0) (.v 0)) (.m (.v 0) (.v 0))) (.m (.v 0) (.v 0))) (.v 1))) (by decide +kernel) [g,K2.xi]
  have hb:K2.conj b=K2.mul (K2.mul (K2.mul (K2.mul g g) (K2.mul g g)) (K2.mul g g)) b:=by
   rw[H.hb,K2.aY,H.rc,hx,K2.mul_assoc']
  rw[hb]at h
  have e:=H.gi'
  show K2.mul (K2.mul _ (K2.conj y)) _=K2.add (K2.mul (K2.mul (K2.mul _ (K2.conj x)) _) _) b
  generalize K2.conj x=a at h ⊢
  generalize K2.conj y=d at h ⊢
  exact CR.lin (x:=(.m (.m (.m (.m (.v 4) (.v 4)) (.v 4)) (.v 1)) (.m (.m (.m (.v 4) (.v 4)) (.v 4)) (.v 1)))) (y:=(.a (.m (.m (.m (.m (.v 4) (.v 4)) (.v 0)) (.m (.m (.v 4) (.v 4)) (.v 0))) (.m (.m (.v 4) (.v 4)) (.v 0))) (.v 2))) [((.m (.m (.m (.v 4) (.v 4)) (.v 4)) (.m (.m (.v 4) (.v 4)) (.v 4))),(.m (.v 1) (.v 1)),(.a (.m (.m (.v 0) (.v 0)) (.v 0)) (.m (.m (.m (.m (.v 3) (.v 3)) (.m (.v 3) (.v 3))) (.m (.v 3) (.v 3))) (.v 2)))),((.a (.m (.a (.m (.a (.m (.a (.m (.a (.m (.m (.m (.m (.m (.m (.m (.c 1) (.v 2)) (.v 3)) (.v 3)) (.v 3)) (.v 3)) (.v 3)) (.v 4)) (.m (.m (.m (.m (.m (.c 1) (.v 2)) (.v 3)) (.v 3)) (.v 3)) (.v 3))) (.v 4)) (.m (.m (.m (.m (.c 1) (.v 2)) (.v 3)) (.v 3)) (.v 3))) (.v 4)) (.m (.m (.m (.c 1) (.v 2)) (.v 3)) (.v 3))) (.v 4)) (.m (.m (.c 1) (.v 2)) (.v 3))) (.v 4)) (.m (.c 1) (.v 2))),(.m (.v 3) (.v 4)),(.c 1))] (by decide +kernel) [a,d,b,g,i] ⟨h,e,trivial⟩
theorem RK{l x y u v:K2 n}(hu:K2.conj u=u)(hv:K2.conj v=v):CR.pw (ln l x y u v) n=mul (e2 (K2.pw g 3)) (ln (K2.mul i (K2.conj l)) (K2.mul (K2.mul i i) (K2.conj x)) (K2.mul (K2.mul (K2.mul i i) i) (K2.conj y)) u v):=by
 rw[rE H.tw H.hm,← H.hg]
 unfold ln frb
 rw[Ob,K2.cm,K2.qt,K2.aY,K2.aY,K2.iT,hu,hv]
 have e:=H.gi'
 have w2:K2.pw g 2=K2.mul g g:=by show K2.mul (K2.mul K2.one g) g=_;rw[K2.aR]
 have w3:K2.pw g 3=K2.mul (K2.mul g g) g:=by show K2.mul (K2.pw g 2) g=_;rw[w2]
 generalize K2.conj x=a
 generalize K2.conj y=d
 generalize K2.conj l=k
 rw[w2,w3]
 refine ext' (T6.ext' ?_ ?_ ?_) (T6.ext' ?_ ?_ ?_)
 ·exact CR.lin (x:=(.s (.m (.v 2) (.v 0)) (.v 1))) (y:=(.m (.m (.m (.v 3) (.v 3)) (.v 3)) (.s (.m (.m (.v 4) (.v 2)) (.m (.m (.v 4) (.v 4)) (.v 0))) (.m (.m (.m (.v 4) (.v 4)) (.v 4)) (.v 1))))) [((.a (.m (.a (.m (.m (.m (.a (.m (.m (.c (-1)) (.v 0)) (.v 2)) (.m (.c 1) (.v 1))) (.v 3)) (.v 3)) (.v 4)) (.m (.a (.m (.m (.c (-1)) (.v 0)) (.v 2)) (.m (.c 1) (.v 1))) (.v 3))) (.v 4)) (.a (.m (.m (.c (-1)) (.v 0)) (.v 2)) (.m (.c 1) (.v 1)))),(.m (.v 3) (.v 4)),(.c 1))] (by decide +kernel) [a,d,k,g,i] ⟨e,trivial⟩
 ·exact CR.lin (x:=(.m (.n (.m (.v 0) (.v 1))) (.m (.v 2) (.v 2)))) (y:=(.m (.m (.m (.v 2) (.v 2)) (.v 2)) (.n (.m (.m (.v 3) (.v 0)) (.v 1))))) [((.m (.m (.m (.m (.c 1) (.v 0)) (.v 1)) (.v 2)) (.v 2)),(.m (.v 2) (.v 3)),(.c 1))] (by decide +kernel) [k,u,g,i] ⟨e,trivial⟩
 ·simp only[K2.aG,K2.aj]
 ·simp only[K2.aG,K2.aj]
 ·exact K2.mul_comm' _ _
 ·simp only[K2.aG,K2.aj]
theorem Ru{l x y u v:K2 n}(hu:K2.conj u=u)(hv:K2.conj v=v):CR.pw (gg l u v x y) n=mul (e2 (K2.pw g 3)) (gg (K2.conj l) u v (K2.mul (K2.mul i i) (K2.conj x)) (K2.mul (K2.mul (K2.mul i i) i) (K2.conj y))):=by
 rw[rE H.tw H.hm,← H.hg]
 unfold gg frb
 rw[Ob,K2.cm,K2.qt,K2.aY,K2.aY,K2.iT,hu,hv]
 have e:=H.gi'
 have w2:K2.pw g 2=K2.mul g g:=by show K2.mul (K2.mul K2.one g) g=_;rw[K2.aR]
 have w3:K2.pw g 3=K2.mul (K2.mul g g) g:=by show K2.mul (K2.pw g 2) g=_;rw[w2]
 generalize K2.conj x=a
 generalize K2.conj y=d
 generalize K2.conj l=k
 rw[w2,w3]
 refine ext' (T6.ext' ?_ ?_ ?_) (T6.ext' ?_ ?_ ?_)
 ·exact CR.lin (x:=(.v 0)) (y:=(.m (.m (.m (.v 1) (.v 1)) (.v 1)) (.m (.m (.m (.v 2) (.v 2)) (.v 2)) (.v 0)))) [((.a (.m (.a (.m (.m (.m (.m (.c (-1)) (.v 0)) (.v 1)) (.v 1)) (.v 2)) (.m (.m (.c (-1)) (.v 0)) (.v 1))) (.v 2)) (.m (.c (-1)) (.v 0))),(.m (.v 1) (.v 2)),(.c 1))] (by decide +kernel) [d,g,i] ⟨e,trivial⟩
 ·simp only[K2.aG,K2.aj]
 ·simp only[K2.aG,K2.aj]
 ·exact CR.lin (x:=(.m (.n (.m (.v 1) (.v 0))) (.v 2))) (y:=(.m (.m (.m (.v 2) (.v 2)) (.v 2)) (.n (.m (.v 1) (.m (.m (.v 3) (.v 3)) (.v 0)))))) [((.a (.m (.m (.m (.m (.m (.c 1) (.v 0)) (.v 1)) (.v 2)) (.v 2)) (.v 3)) (.m (.m (.m (.c 1) (.v 0)) (.v 1)) (.v 2))),(.m (.v 2) (.v 3)),(.c 1))] (by decide +kernel) [a,k,g,i] ⟨e,trivial⟩
 ·exact K2.mul_comm' _ _
 ·simp only[K2.aG,K2.aj]
omit H in
theorem Us{z:K2 n}(h:z≠K2.zero):e2 z≠zero:=fun e=>h (congrArg (fun t:T12 n=>t.a.a) e)
omit H in
theorem ek(k:Nat):CR.pw (one:T12 n) k=one:=CR.rs k
theorem Ps.sc{z w:T12 n}(hw:w≠zero)(h:CR.pw z n=mul (e2 (K2.pw g 3)) w)(hz:z≠zero):fin N w=CR.pw (fin N z) n:=by
 have h3:e2 (K2.pw g 3)≠zero:=Us (by
  show K2.mul (K2.mul (K2.mul K2.one g) g) g≠K2.zero
  rw[K2.aR]
  exact K2.bQ H.tw.p3 (K2.bQ H.tw.p3 H.g_ne H.g_ne) H.g_ne)
 rw[← Rh H.tw hz,h,dt H.tw h3 hw,show e2 (K2.pw g 3)=e6 (T6.em (K2.pw g 3))from rfl,n8 H.tw h3,bh]
theorem L8{P A B:Pt n}(hP:Onc c P)(hR:Rl P)(hA:Onc b A)(hB:Onc b B):lam N P (psi i A) (psi i B)=CR.pw (lam N P A B) n:=by
 have G:=H.toPg
 cases P with
 | none=>rw[ed G,ed G,ek]
 | some P=>cases A with
  | none=>show lam N (some P) none _=_;rw[dq G,dq G,ek]
  | some A=>cases B with
   | none=>show lam N (some P) _ none=_;rw[dz G,dz G,ek]
   | some B=>
    obtain⟨u,v⟩:=P;obtain⟨x1,y1⟩:=A;obtain⟨x2,y2⟩:=B
    have hA':=H.psi_on hA
    show lam N _ (some (_,_)) (some (_,_))=_
    rcases K2.cq (x1:=x1) (y1:=y1) (x2:=x2) (y2:=y2) H.tw.p3 hA hB with⟨h1,h2⟩ | ⟨l,h,hn⟩
    ·rw[cF G hA h1 h2,cF G hA' (by rw[h1]) (by rw[← K2.mul_add',← K2.fY,h2,K2.iT,K2.aj]),ek]
    ·rw[lam,lam,dr H.tw.p3 h hn,dr H.tw.p3 (h.psi i) (K2.IX H.tw.p3 H.i_ne hn)]
     exact H.sc (kc (K2.gH H.n4 hP)) (RK H hR.1 hR.2) (kc (K2.gH H.n4 hP))
theorem RU{P Q A:Pt n}(hP:Onc c P)(hQ:Onc c Q)(h1:Rl P)(h2:Rl Q)(hA:Onc b A):mu N P Q (psi i A)=CR.pw (mu N P Q A) n:=by
 have G:=H.toPg
 cases P with
 | none=>rw[ri G,ri G,ek]
 | some P=>cases Q with
  | none=>rw[rj G,rj G,ek]
  | some Q=>
   obtain⟨x1,y1⟩:=P;obtain⟨x2,y2⟩:=Q
   rcases K2.cq (x1:=x1) (y1:=y1) (x2:=x2) (y2:=y2) H.tw.p3 hP hQ with⟨g1,g2⟩ | ⟨l,h,hn⟩
   ·rw[lP G hA g1 g2,lP G (H.psi_on hA) g1 g2,ek]
   ·cases A with
    | none=>show mu N _ _ none=_;rw[tr G,ek]
    | some A=>
     obtain⟨x,y⟩:=A
     have hA':=H.psi_on hA
     have k:=h.conj
     have a1:K2.conj x1=x1:=h1.1
     have a2:K2.conj y1=y1:=h1.2
     have a3:K2.conj x2=x2:=h2.1
     have a4:K2.conj y2=y2:=h2.2
     rw[a1,a2,a3,a4]at k
     show mu N _ _ (some (_,_))=_
     rw[mu,mu,j5 H.tw.p3 k hn,j5 H.tw.p3 h hn]
     exact H.sc (qR (K2.gH H.n2 hA')) (Ru H a1 a2) (qR (K2.gH H.n2 hA))
end
end T12
end Go.Proofs.YtndhfbecpghinaaGreat.L.Kf
namespace Go.Proofs.YtndhfbecpghinaaGreat.L.Kf
open Pr
namespace T12
variable {n:Nat} [NeZero n]
open K2 (Pt pa pn Onc No2 Slp LD cx cy gb d8 tim psi Rl)
attribute [local irreducible] K2.add K2.mul K2.sub K2.neg K2.zero K2.one K2.inv K2.xi K2.conj
def mst(P Q:Pt n)(s:T12 n×Pt n)(t:Bool):T12 n×Pt n:=
 bif t then(mul (mul (mul s.1 s.1) (lin P s.2 s.2)) (lin P (pa s.2 s.2) Q),pa (pa s.2 s.2) Q)else(mul (mul s.1 s.1) (lin P s.2 s.2),pa s.2 s.2)
def mil(P Q:Pt n)(l:List Bool):T12 n×Pt n:=l.foldl (mst P Q) (one,Q)
def kst(k:Nat)(t:Bool):Nat:=bif t then k+k+1 else k+k
def kbs(l:List Bool):Nat:=l.foldl kst 1
def er(N:Nat)(l:List Bool)(P Q:Pt n):T12 n:=fin N (conj (mil P Q l).1)
section
variable {b c g i:K2 n} {m:Nat} (H:Ps b c g i m) {N r:Nat} (hr:n*n*(n*n)*(n*n)+1∣N*r)
include H
theorem NE{Q:Pt n}(hQ:Onc b Q)(k:Nat)(t:Bool):tim Q (kst k t)=bif t then pa (pa (tim Q k) (tim Q k)) Q else pa (tim Q k) (tim Q k):=by
 have e:=K2.fk H.tw.p3 H.n2 hQ k k
 cases t with
 | false=>exact e
 | true=>show pa (tim Q (k+k)) Q=_;rw[e];rfl
theorem lR{Q:Pt n}(hQ:Onc b Q)(k:Nat):Onc b (tim Q k):=K2.cY H.tw.p3 hQ k
theorem lO{P Q:Pt n}(hP:Onc c P)(hQ:Onc b Q){k:Nat}{s:T12 n×Pt n}(h:s.1≠zero∧s.2=tim Q k)(t:Bool):
  ((mst P Q s t).1≠zero∧(mst P Q s t).2=tim Q (kst k t))∧fin N (mst P Q s t).1=bif t then mul (mul (mul (fin N s.1) (fin N s.1)) (lam N P (tim Q k) (tim Q k))) (lam N P (tim Q (k+k)) Q)else mul (mul (fin N s.1) (fin N s.1)) (lam N P (tim Q k) (tim Q k)):=by
 obtain⟨h1,h2⟩:=h
 have hT:=lR H hQ k
 have e:=K2.fk H.tw.p3 H.n2 hQ k k
 have n1:=bQ H.tw h1 h1
 have n2:=j9 H.toPg hP hT hT
 have n3:=bQ H.tw n1 n2
 rw[NE H hQ,e]
 unfold mst
 rw[h2]
 cases t with
 | false=>
  refine⟨⟨n3,rfl⟩,?_⟩
  show fin N (mul (mul s.1 s.1) _)=_
  rw[dt H.tw n1 n2,dt H.tw h1 h1];rfl
 | true=>
  have n4:=j9 H.toPg hP (H.toPg.oa hT hT) hQ
  refine⟨⟨bQ H.tw n3 n4,rfl⟩,?_⟩
  show fin N (mul (mul (mul s.1 s.1) _) _)=_
  rw[dt H.tw n3 n4,dt H.tw n1 n2,dt H.tw h1 h1];rfl
theorem HX{P A B C D:Pt n}(hP:Onc c P)(hA:Onc b A)(hB:Onc b B)(hC:Onc b C)(hD:Onc b D):
  mul (mul (lam N P A C) (lam N P B D)) (lam N P (pa A C) (pa B D))=mul (mul (lam N P A B) (lam N P C D)) (lam N P (pa A B) (pa C D)):=by
 have G:=H.toPg
 have hBD:=G.oa hB hD
 have hCD:=G.oa hC hD
 have q1:=vh G (N:=N) hP hA hC hBD
 have q2:=vh G (N:=N) hP hB hD hC
 have q3:=vh G (N:=N) hP hA hB hCD
 have e1:pa (pa B D) C=pa B (pa C D):=by rw[K2.f8 G.tw.p3 G.n2 hB hD hC,K2.dJ G.tw.p3 hD hC]
 rw[K2.dJ G.tw.p3 hC hBD,e1,iY G hC hBD]at q1
 rw[K2.dJ G.tw.p3 hD hC,iY G hD hC]at q2
 exact CR.lin (x:=(.m (.m (.v 0) (.v 1)) (.v 2))) (y:=(.m (.m (.v 3) (.v 4)) (.v 5))) [((.v 1),(.m (.v 0) (.v 2)),(.m (.v 6) (.v 7))),((.v 7),(.m (.v 1) (.v 6)),(.m (.v 4) (.v 8))),((.n (.v 4)),(.m (.v 3) (.v 5)),(.m (.v 8) (.v 7)))] (by decide +kernel) [lam N P A C,lam N P B D,lam N P (pa A C) (pa B D),lam N P A B,lam N P C D,lam N P (pa A B) (pa C D),lam N P (pa B D) C,lam N P A (pa B (pa C D)),lam N P B (pa C D)] ⟨q1,q2,q3,trivial⟩
theorem xR{P Q R:Pt n}(hP:Onc c P)(hQ:Onc b Q)(hR:Onc b R):∀(l:List Bool)(k:Nat)(s t u:T12 n×Pt n),(s.1≠zero∧s.2=tim Q k)→(t.1≠zero∧t.2=tim R k)→(u.1≠zero∧u.2=tim (pa Q R) k) →
  mul (mul (fin N s.1) (fin N t.1)) (lam N P (tim Q k) (tim R k))=mul (fin N u.1) (CR.pw (lam N P Q R) k) →
  mul (mul (fin N (l.foldl (mst P Q) s).1) (fin N (l.foldl (mst P R) t).1)) (lam N P (tim Q (l.foldl kst k)) (tim R (l.foldl kst k)))=mul (fin N (l.foldl (mst P (pa Q R)) u).1) (CR.pw (lam N P Q R) (l.foldl kst k))
 | [],_,_,_,_,_,_,_,h=>h
 | x::l,k,s,t,u,hs,ht,hu,h=>by
  have hQR:=H.toPg.oa hQ hR
  obtain⟨a1,b1⟩:=lO H (N:=N) hP hQ hs x
  obtain⟨a2,b2⟩:=lO H (N:=N) hP hR ht x
  obtain⟨a3,b3⟩:=lO H (N:=N) hP hQR hu x
  refine xR hP hQ hR l (kst k x) _ _ _ a1 a2 a3 ?_
  have hTQ:=lR H hQ k
  have hTR:=lR H hR k
  have x1:=HX H (N:=N) hP hTQ hTR hTQ hTR
  have e3:=K2.wr H.tw.p3 H.n2 hQ hR k
  rw[← e3]at x1
  rw[b1,b2,b3]
  have d1:=K2.fk H.tw.p3 H.n2 hQ k k
  have d2:=K2.fk H.tw.p3 H.n2 hR k k
  rw[← d1,← d2]at x1
  have p1:=CR.dO (lam N P Q R) k k
  have y1:mul (mul (mul (mul (fin N s.1) (fin N s.1)) (lam N P (tim Q k) (tim Q k))) (mul (mul (fin N t.1) (fin N t.1)) (lam N P (tim R k) (tim R k)))) (lam N P (tim Q (k+k)) (tim R (k+k)))=mul (mul (mul (fin N u.1) (fin N u.1)) (lam N P (tim (pa Q R) k) (tim (pa Q R) k))) (CR.pw (lam N P Q R) (k+k)):=by
   rw[p1]
   generalize fin N s.1=E1 at *
   generalize fin N t.1=E2 at *
   generalize fin N u.1=E3 at *
   generalize CR.pw (lam N P Q R) k=z at *
   exact CR.lin (x:=(.m (.m (.m (.m (.v 0) (.v 0)) (.v 3)) (.m (.m (.v 1) (.v 1)) (.v 4))) (.v 5))) (y:=(.m (.m (.m (.v 2) (.v 2)) (.v 7)) (.m (.v 8) (.v 8)))) [((.m (.m (.v 0) (.v 0)) (.m (.v 1) (.v 1))),(.m (.m (.v 3) (.v 4)) (.v 5)),(.m (.m (.v 6) (.v 6)) (.v 7))),((.m (.v 7) (.a (.m (.m (.v 0) (.v 1)) (.v 6)) (.m (.v 2) (.v 8)))),(.m (.m (.v 0) (.v 1)) (.v 6)),(.m (.v 2) (.v 8)))] (by decide +kernel) [E1,E2,E3,lam N P (tim Q k) (tim Q k),lam N P (tim R k) (tim R k),lam N P (tim Q (k+k)) (tim R (k+k)),lam N P (tim Q k) (tim R k),lam N P (tim (pa Q R) k) (tim (pa Q R) k),z] ⟨x1,h,trivial⟩
  cases x with
  | false=>exact y1
  | true=>
   have x2:=HX H (N:=N) hP (lR H hQ (k+k)) (lR H hR (k+k)) hQ hR
   rw[← K2.wr H.tw.p3 H.n2 hQ hR (k+k)]at x2
   show mul (mul (mul _ _) (mul _ _)) (lam N P (pa (tim Q (k+k)) Q) (pa (tim R (k+k)) R))=mul (mul _ _) (mul (CR.pw (lam N P Q R) (k+k)) (lam N P Q R))
   generalize mul (mul (fin N s.1) (fin N s.1)) (lam N P (tim Q k) (tim Q k))=E1 at *
   generalize mul (mul (fin N t.1) (fin N t.1)) (lam N P (tim R k) (tim R k))=E2 at *
   generalize mul (mul (fin N u.1) (fin N u.1)) (lam N P (tim (pa Q R) k) (tim (pa Q R) k))=E3 at *
   generalize CR.pw (lam N P Q R) (k+k)=z at *
   exact CR.lin (x:=(.m (.m (.m (.v 0) (.v 3)) (.m (.v 1) (.v 4))) (.v 5))) (y:=(.m (.m (.v 2) (.v 7)) (.m (.v 8) (.v 9)))) [((.m (.v 0) (.v 1)),(.m (.m (.v 3) (.v 4)) (.v 5)),(.m (.m (.v 6) (.v 9)) (.v 7))),((.m (.v 9) (.v 7)),(.m (.m (.v 0) (.v 1)) (.v 6)),(.m (.v 2) (.v 8)))] (by decide +kernel) [E1,E2,E3,lam N P (tim Q (k+k)) Q,lam N P (tim R (k+k)) R,lam N P (pa (tim Q (k+k)) Q) (pa (tim R (k+k)) R),lam N P (tim Q (k+k)) (tim R (k+k)),lam N P (tim (pa Q R) (k+k)) (pa Q R),z,lam N P Q R] ⟨x2,y1,trivial⟩
theorem xQ{P R Q:Pt n}(hP:Onc c P)(hR:Onc c R)(hQ:Onc b Q):∀(l:List Bool)(k:Nat)(s t u:T12 n×Pt n),(s.1≠zero∧s.2=tim Q k)→(t.1≠zero∧t.2=tim Q k)→(u.1≠zero∧u.2=tim Q k) →
  mul (mul (fin N s.1) (fin N t.1)) (mu N P R (tim Q k))=mul (fin N u.1) (CR.pw (mu N P R Q) k) →
  mul (mul (fin N (l.foldl (mst P Q) s).1) (fin N (l.foldl (mst R Q) t).1)) (mu N P R (tim Q (l.foldl kst k)))=mul (fin N (l.foldl (mst (pa P R) Q) u).1) (CR.pw (mu N P R Q) (l.foldl kst k))
 | [],_,_,_,_,_,_,_,h=>h
 | x::l,k,s,t,u,hs,ht,hu,h=>by
  have hPR:=K2.dk H.tw.p3 hP hR
  obtain⟨a1,b1⟩:=lO H (N:=N) hP hQ hs x
  obtain⟨a2,b2⟩:=lO H (N:=N) hR hQ ht x
  obtain⟨a3,b3⟩:=lO H (N:=N) hPR hQ hu x
  refine xQ hP hR hQ l (kst k x) _ _ _ a1 a2 a3 ?_
  have hT:=lR H hQ k
  have x1:=Co H.toPg (N:=N) hP hR hT hT
  rw[b1,b2,b3]
  rw[← K2.fk H.tw.p3 H.n2 hQ k k]at x1
  have p1:=CR.dO (mu N P R Q) k k
  have y1:mul (mul (mul (mul (fin N s.1) (fin N s.1)) (lam N P (tim Q k) (tim Q k))) (mul (mul (fin N t.1) (fin N t.1)) (lam N R (tim Q k) (tim Q k)))) (mu N P R (tim Q (k+k)))=mul (mul (mul (fin N u.1) (fin N u.1)) (lam N (pa P R) (tim Q k) (tim Q k))) (CR.pw (mu N P R Q) (k+k)):=by
   rw[p1]
   generalize fin N s.1=E1 at *
   generalize fin N t.1=E2 at *
   generalize fin N u.1=E3 at *
   generalize CR.pw (mu N P R Q) k=z at *
   exact CR.lin (x:=(.m (.m (.m (.m (.v 0) (.v 0)) (.v 3)) (.m (.m (.v 1) (.v 1)) (.v 4))) (.v 5))) (y:=(.m (.m (.m (.v 2) (.v 2)) (.v 7)) (.m (.v 8) (.v 8)))) [((.m (.m (.v 0) (.v 0)) (.m (.v 1) (.v 1))),(.m (.m (.v 3) (.v 4)) (.v 5)),(.m (.v 7) (.m (.v 6) (.v 6)))),((.m (.v 7) (.a (.m (.m (.v 0) (.v 1)) (.v 6)) (.m (.v 2) (.v 8)))),(.m (.m (.v 0) (.v 1)) (.v 6)),(.m (.v 2) (.v 8)))] (by decide +kernel) [E1,E2,E3,lam N P (tim Q k) (tim Q k),lam N R (tim Q k) (tim Q k),mu N P R (tim Q (k+k)),mu N P R (tim Q k),lam N (pa P R) (tim Q k) (tim Q k),z] ⟨x1,h,trivial⟩
  cases x with
  | false=>exact y1
  | true=>
   have x2:=Co H.toPg (N:=N) hP hR (lR H hQ (k+k)) hQ
   show mul (mul (mul _ _) (mul _ _)) (mu N P R (pa (tim Q (k+k)) Q))=mul (mul _ _) (mul (CR.pw (mu N P R Q) (k+k)) (mu N P R Q))
   generalize mul (mul (fin N s.1) (fin N s.1)) (lam N P (tim Q k) (tim Q k))=E1 at *
   generalize mul (mul (fin N t.1) (fin N t.1)) (lam N R (tim Q k) (tim Q k))=E2 at *
   generalize mul (mul (fin N u.1) (fin N u.1)) (lam N (pa P R) (tim Q k) (tim Q k))=E3 at *
   generalize CR.pw (mu N P R Q) (k+k)=z at *
   exact CR.lin (x:=(.m (.m (.m (.v 0) (.v 3)) (.m (.v 1) (.v 4))) (.v 5))) (y:=(.m (.m (.v 2) (.v 7)) (.m (.v 8) (.v 9)))) [((.m (.v 0) (.v 1)),(.m (.m (.v 3) (.v 4)) (.v 5)),(.m (.v 7) (.m (.v 6) (.v 9)))),((.m (.v 9) (.v 7)),(.m (.m (.v 0) (.v 1)) (.v 6)),(.m (.v 2) (.v 8)))] (by decide +kernel) [E1,E2,E3,lam N P (tim Q (k+k)) Q,lam N R (tim Q (k+k)) Q,mu N P R (pa (tim Q (k+k)) Q),mu N P R (tim Q (k+k)),lam N (pa P R) (tim Q (k+k)) Q,z,mu N P R Q] ⟨x2,y1,trivial⟩
end
end T12
end Go.Proofs.YtndhfbecpghinaaGreat.L.Kf
namespace Go.Proofs.YtndhfbecpghinaaGreat.L.Kf
open Pr
namespace T12
variable {n:Nat} [NeZero n]
open K2 (Pt pa pn Onc No2 tim psi Rl)
attribute [local irreducible] K2.add K2.mul K2.sub K2.neg K2.zero K2.one K2.inv K2.xi K2.conj
section
variable {b c g i:K2 n} {m:Nat} (H:Ps b c g i m) {N r:Nat} (hr:n*n*(n*n)*(n*n)+1∣N*r) {l:List Bool} (hk:r∣kbs l+n)
def Eg(b i:K2 n)(l:List Bool)(Q:Pt n):Prop:=Onc b Q∧tim Q (kbs l)=pn (psi i Q)
def Rp(c:K2 n)(P:Pt n):Prop:=Onc c P∧Rl P
include H
theorem vw{P Q:Pt n}(hP:Onc c P)(hQ:Onc b Q)(l:List Bool):(mil P Q l).1≠zero∧(mil P Q l).2=tim Q (kbs l):=by
 have:∀(l:List Bool)(k:Nat)(s:T12 n×Pt n),(s.1≠zero∧s.2=tim Q k)→((l.foldl (mst P Q) s).1≠zero∧(l.foldl (mst P Q) s).2=tim Q (l.foldl kst k)):=by
  intro l
  induction l with
  | nil=>exact fun _ _ h=>h
  | cons x l ih=>exact fun k s h=>ih _ _ (lO H (N:=0) hP hQ h x).1
 exact this l 1 (one,Q) ⟨cK H.tw,rfl⟩
theorem nX{P Q:Pt n}(hP:Onc c P)(hQ:Onc b Q):mul (fin N (mil P Q l).1) (er N l P Q)=one:=by
 rw[mul_comm']
 exact j3 H.tw (vw H hP hQ l).1
theorem WX{P Q:Pt n}(hr:n*n*(n*n)*(n*n)+1∣N*r)(hP:Onc c P)(hQ:Onc b Q):CR.pw (er N l P Q) r=one:=
 Ha H.tw H.hm H.h3 hr (jk H.tw (vw H hP hQ l).1)
omit H in
theorem Vm(hk:r∣kbs l+n){z:T12 n}(h:CR.pw z r=one):mul (CR.pw z (kbs l)) (CR.pw z n)=one:=by
 have e:=CR.dO z (kbs l) n
 obtain⟨q,hq⟩:=hk
 rw[hq,CR.bN,h,ek]at e
 exact e.symm
include hr hk
theorem BV{P Q R:Pt n}(hP:Rp c P)(hQ:Eg b i l Q)(hR:Eg b i l R):er N l P (pa Q R)=mul (er N l P Q) (er N l P R):=by
 have G:=H.toPg
 have ho:=G.oa hQ.1 hR.1
 have h1:=eX (N:=N) G.tw
 have q:=xR H (N:=N) hP.1 hQ.1 hR.1 l 1 (one,Q) (one,R) (one,pa Q R) ⟨cK G.tw,rfl⟩ ⟨cK G.tw,rfl⟩ ⟨cK G.tw,rfl⟩ (by
  rw[h1,am,bh,bh];exact(CR.AZ _).symm)
 change mul (mul (fin N (mil P Q l).1) (fin N (mil P R l).1)) (lam N P (tim Q (kbs l)) (tim R (kbs l)))=mul (fin N (mil P (pa Q R) l).1) (CR.pw (lam N P Q R) (kbs l))at q
 have z:=Vm hk (Ha H.tw H.hm H.h3 hr (j9 G hP.1 hQ.1 hR.1))
 have nn:=Cn G (N:=N) hP.1 (H.psi_on hQ.1) (H.psi_on hR.1)
 rw[L8 H hP.1 hP.2 hQ.1 hR.1,← hQ.2,← hR.2]at nn
 have e1:=nX H (N:=N) (l:=l) hP.1 hQ.1
 have e2:=nX H (N:=N) (l:=l) hP.1 hR.1
 have e3:=nX H (N:=N) (l:=l) hP.1 ho
 refine qY e3 ?_
 have o:∀x:T12 n,x=one→x=CR.ofZ 1:=fun _ h=>h.trans CR.dL.symm
 refine Eq.trans ?_ (CR.dL (R:=T12 n))
 change mul (CR.pw (lam N P Q R) (kbs l)) (CR.pw (lam N P Q R) n)=_ at z
 exact CR.lin (x:=(.m (.v 2) (.m (.v 3) (.v 4)))) (y:=(.c 1)) [((.n (.m (.m (.v 7) (.v 3)) (.v 4))),(.m (.m (.v 0) (.v 1)) (.v 5)),(.m (.v 2) (.v 6))),((.n (.m (.m (.v 2) (.v 3)) (.v 4))),(.m (.v 6) (.v 7)),(.c 1)),((.m (.m (.m (.v 0) (.v 1)) (.v 3)) (.v 4)),(.m (.v 5) (.v 7)),(.c 1)),((.m (.v 1) (.v 4)),(.m (.v 0) (.v 3)),(.c 1)),((.c 1),(.m (.v 1) (.v 4)),(.c 1))] (by decide +kernel) [fin N (mil P Q l).1,fin N (mil P R l).1,fin N (mil P (pa Q R) l).1,er N l P Q,er N l P R,lam N P (tim Q (kbs l)) (tim R (kbs l)),CR.pw (lam N P Q R) (kbs l),CR.pw (lam N P Q R) n] ⟨q,o _ z,o _ nn,o _ e1,o _ e2,trivial⟩
theorem BU{P R Q:Pt n}(hP:Rp c P)(hR:Rp c R)(hQ:Eg b i l Q):er N l (pa P R) Q=mul (er N l P Q) (er N l R Q):=by
 have G:=H.toPg
 have ho:=K2.dk G.tw.p3 hP.1 hR.1
 have h1:=eX (N:=N) G.tw
 have q:=xQ H (N:=N) hP.1 hR.1 hQ.1 l 1 (one,Q) (one,Q) (one,Q) ⟨cK G.tw,rfl⟩ ⟨cK G.tw,rfl⟩ ⟨cK G.tw,rfl⟩ (by
  rw[h1,am,bh,bh];exact(CR.AZ _).symm)
 change mul (mul (fin N (mil P Q l).1) (fin N (mil R Q l).1)) (mu N P R (tim Q (kbs l)))=mul (fin N (mil (pa P R) Q l).1) (CR.pw (mu N P R Q) (kbs l))at q
 have gn:gin P R Q≠zero:=by
  cases P with
  | none=>exact cK G.tw
  | some P=>cases R with
   | none=>rw[HA];exact cK G.tw
   | some R=>cases Q with
    | none=>exact cK G.tw
    | some Q=>
     obtain⟨x1,y1⟩:=P;obtain⟨x2,y2⟩:=R;obtain⟨x,y⟩:=Q
     rcases K2.cq (x1:=x1) (y1:=y1) (x2:=x2) (y2:=y2) G.tw.p3 hP.1 hR.1 with⟨g1,g2⟩ | ⟨l,h,hn⟩
     ·rw[B8 G.tw.p3 g1 g2];exact zg (G.x_ne hQ.1)
     ·rw[j5 G.tw.p3 h hn];exact qR (K2.gH G.n2 hQ.1)
 have z:=Vm hk (Ha H.tw H.hm H.h3 hr gn)
 have nn:=Ig G (N:=N) hP.1 hR.1 (H.psi_on hQ.1)
 rw[RU H hP.1 hR.1 hP.2 hR.2 hQ.1,← hQ.2]at nn
 have e1:=nX H (N:=N) (l:=l) hP.1 hQ.1
 have e2:=nX H (N:=N) (l:=l) hR.1 hQ.1
 have e3:=nX H (N:=N) (l:=l) ho hQ.1
 refine qY e3 ?_
 have o:∀x:T12 n,x=one→x=CR.ofZ 1:=fun _ h=>h.trans CR.dL.symm
 refine Eq.trans ?_ (CR.dL (R:=T12 n))
 change mul (CR.pw (mu N P R Q) (kbs l)) (CR.pw (mu N P R Q) n)=_ at z
 exact CR.lin (x:=(.m (.v 2) (.m (.v 3) (.v 4)))) (y:=(.c 1)) [((.n (.m (.m (.v 7) (.v 3)) (.v 4))),(.m (.m (.v 0) (.v 1)) (.v 5)),(.m (.v 2) (.v 6))),((.n (.m (.m (.v 2) (.v 3)) (.v 4))),(.m (.v 6) (.v 7)),(.c 1)),((.m (.m (.m (.v 0) (.v 1)) (.v 3)) (.v 4)),(.m (.v 5) (.v 7)),(.c 1)),((.m (.v 1) (.v 4)),(.m (.v 0) (.v 3)),(.c 1)),((.c 1),(.m (.v 1) (.v 4)),(.c 1))] (by decide +kernel) [fin N (mil P Q l).1,fin N (mil R Q l).1,fin N (mil (pa P R) Q l).1,er N l P Q,er N l R Q,mu N P R (tim Q (kbs l)),CR.pw (mu N P R Q) (kbs l),CR.pw (mu N P R Q) n] ⟨q,o _ z,o _ nn,o _ e1,o _ e2,trivial⟩
omit hr hk
omit H in
theorem Lb:Eg b i l none:=⟨trivial,K2.dU _⟩
theorem TQ{Q R:Pt n}(hQ:Eg b i l Q)(hR:Eg b i l R):Eg b i l (pa Q R):=by
 refine⟨H.toPg.oa hQ.1 hR.1,?_⟩
 rw[K2.wr H.tw.p3 H.n2 hQ.1 hR.1,hQ.2,hR.2,K2.CB H.tw.p3 (H.psi_on hQ.1) (H.psi_on hR.1),K2.Sb H.tw.p3 H.i_ne hQ.1 hR.1]
theorem zR{Q:Pt n}(hQ:Eg b i l Q):∀k,Eg b i l (tim Q k)
 | 0=>Lb
 | k+1=>TQ H (zR hQ k) hQ
theorem TY{P R:Pt n}(hP:Rp c P)(hR:Rp c R):Rp c (pa P R):=⟨K2.dk H.tw.p3 hP.1 hR.1,K2.TX H.tw.p3 hP.1 hR.1 hP.2 hR.2⟩
theorem uC{P:Pt n}(hP:Rp c P):∀k,Rp c (tim P k)
 | 0=>⟨trivial,trivial⟩
 | k+1=>TY H (uC hP k) hP
theorem Oo(P:Pt n):er N l P none=one:=by
 have:∀(l:List Bool)(s:T12 n×Pt n),s=(one,none)→l.foldl (mst P none) s=(one,none):=by
  intro l
  induction l with
  | nil=>exact fun _ h=>h
  | cons x l ih=>
   rintro _ rfl
   refine ih _ ?_
   unfold mst
   cases x with
   | false=>show(mul (mul one one) (lin P none none),(none:Pt n))=_;rw[gM,am,am]
   | true=>show(mul (mul (mul one one) (lin P none none)) (lin P none none),(none:Pt n))=_;rw[gM,am,am,am]
 rw[er,mil,this l _ rfl,fZ]
 exact eX H.tw
theorem On(Q:Pt n):er N l none Q=one:=by
 have:∀(l:List Bool)(s:T12 n×Pt n),s.1=one→(l.foldl (mst none Q) s).1=one:=by
  intro l
  induction l with
  | nil=>exact fun _ h=>h
  | cons x l ih=>
   rintro s h
   refine ih _ ?_
   unfold mst
   rw[h]
   cases x with
   | false=>show mul (mul one one) one=one;rw[am,am]
   | true=>show mul (mul (mul one one) one) one=one;rw[am,am,am]
 rw[er,mil,this l _ rfl,fZ]
 exact eX H.tw
include hr hk
theorem BX{P Q:Pt n}(hP:Rp c P)(hQ:Eg b i l Q):∀k,er N l P (tim Q k)=CR.pw (er N l P Q) k
 | 0=>Oo H P
 | k+1=>by
  show er N l P (pa (tim Q k) Q)=_
  rw[BV H hr hk hP (zR H hQ k) hQ,BX hP hQ k];rfl
theorem BW{P Q:Pt n}(hP:Rp c P)(hQ:Eg b i l Q):∀k,er N l (tim P k) Q=CR.pw (er N l P Q) k
 | 0=>On H Q
 | k+1=>by
  show er N l (pa (tim P k) P) Q=_
  rw[BU H hr hk (uC H hP k) hP hQ,BW hP hQ k];rfl
theorem Q9{P Q:Pt n}(hP:Rp c P)(hQ:Eg b i l Q):mul (er N l (pn P) Q) (er N l P Q)=one:=by
 rw[← BU H hr hk ⟨K2.cI hP.1,K2.F7 hP.2⟩ hP hQ,K2.m9 H.tw.p3,On H]
omit H hr hk
theorem I1{z:T12 n}(hp:aU r)(h:CR.pw z r=one)(hz:z≠one){k:Nat}(hk:CR.pw z k=one):r∣k:=by
 apply Classical.byContradiction
 intro hd
 obtain⟨t,ht⟩:=AG.ve hp hd
 apply hz
 have e:k*t=r*(k*t/r)+1:=by have:=Nat.div_add_mod (k*t) r;omega
 have e2:=CR.bN z k t
 rw[hk,ek,e,CR.lc,CR.bN,h,ek]at e2
 exact(bh z).symm.trans e2
end
end T12
end Go.Proofs.YtndhfbecpghinaaGreat.L.Kf
namespace Go.Proofs.YtndhfbecpghinaaGreat.L
open Go Go.Proofs
set_option maxRecDepth 100000
section
attribute [local irreducible] Code.wp wpList Af bodyPost L.Go ab
open Num
attribute [local simp] ae
attribute [local irreducible] al cW cA g6 dC em
theorem KR{a b:Prop}(k:b)(h:Rm b→a:=by intro k;(first|refine fo ?_|refine cv ?_|refine bI ?_|refine eP ?_|refine eO ?_|refine fM ?_|refine fL ?_|refine kB ?_|refine dM ?_);exact k.h):a:=h ⟨k⟩
theorem KS{a b:Prop}(k:b)(h:Rm b→a:=by intro k;(first|refine dG ?_|refine jQ ?_|refine Z01 ?_|refine Z02 ?_|refine Z03 ?_|refine Z04 ?_|refine Z05 ?_|refine Z06 ?_|refine Z07 ?_|refine Z08 ?_|refine Z09 ?_|refine Z10 ?_|refine Z11 ?_|refine Z12 ?_|refine Z13 ?_|refine Z14 ?_|refine Z24 ?_|refine Z26 ?_|refine Z27 ?_|refine Z29 ?_|refine Z30 ?_|refine Z31 ?_|refine Z32 ?_|refine Z49 ?_|refine Z50 ?_|refine Z51 ?_|refine Z52 ?_|refine Z67 ?_|refine Z77 ?_|refine Z78 ?_|refine Z79 ?_);exact k.h):a:=h ⟨k⟩
set_option maxHeartbeats 8000000 in
theorem AJ{P:Kf.K2.Pt p}(hR:Kf.K2.Rl P)(T Q:Kf.K2.Pt p):Spec Tryz.prog 141 [GV T,GV Q,HV P] ai [] (IsV (SV (Kf.K2.pa T Q) (Kf.T12.lin P T Q))):=by
 have h1:=xA T
 have h2:=xA Q
 have h3:=Oq T Q
 have h4:=om
 obtain⟨x1,y1,i1,ex1,ey1,ei1⟩:∃x y i,x=gx T∧y=gy T∧i=gi T:=⟨_,_,_,rfl,rfl,rfl⟩
 obtain⟨x2,y2,i2,ex2,ey2,ei2⟩:∃x y i,x=gx Q∧y=gy Q∧i=gi Q:=⟨_,_,_,rfl,rfl,rfl⟩
 obtain⟨x3,y3,i3,ex3,ey3,ei3⟩:∃x y i,x=gx (Kf.K2.pa T Q)∧y=gy (Kf.K2.pa T Q)∧i=gi (Kf.K2.pa T Q):=⟨_,_,_,rfl,rfl,rfl⟩
 have g1:GV T=GE x1 y1 i1:=by rw[ex1,ey1,ei1]
 have g2:GV Q=GE x2 y2 i2:=by rw[ex2,ey2,ei2]
 have g3:GV (Kf.K2.pa T Q)=GE x3 y3 i3:=by rw[ex3,ey3,ei3]
 obtain⟨pu,pv,pi,eu,ev,ei⟩:∃u v i,u=(gx P).re∧v=(gy P).re∧i=gi P:=⟨_,_,_,rfl,rfl,rfl⟩
 have hP:HV P=HE pu pv pi:=by rw[eu,ev,ei]
 rw[g1]at h1 h3
 rw[g2]at h2 h3
 rw[g3]at h3
 rw[SV,g1,g2,hP]
 by_cases hinf:P=none∨T=none∨Q=none
 ·have hlin:Kf.T12.lin P T Q=Kf.T12.one:=by
   rcases hinf with rfl | rfl | rfl
   ·rfl
   ·exact Kf.T12.gM _ _
   ·exact Kf.T12.tk _ _
  rw[hlin,g3]
  generalize (Kf.T12.one:F12)=f1 at h4 ⊢
  refine ad Tryz.func141 rfl rfl rfl fun w _=>?_
  have hl0:=fun x=>ae 6 x
  have hle:=fun x:F2=>ak x
  have hflag:pi=true∨i1=true∨i2=true:=by
   rcases hinf with rfl | rfl | rfl
   ·left
    exact ei
   ·exact .inr (.inl ei1)
   ·exact .inr (.inr ei2)
  clear ex1 ey1 ei1 ex2 ey2 ei2 ex3 ey3 ei3 g1 g2 g3 hinf hlin hP eu ev ei
  cases pi with
  | true=>
   repeat (first|(refine ct ?_;intro _)|(refine cO ?_;intro _)|refine bo ?_|refine Z81 fun _=>?_|refine Z82 fun _=>?_)
   refine R.ag [0,1,2,3,4,5] (by rfl) ?_
   repeat (first|refine py ?_|refine ah h1 ?_|refine ah h2 ?_|refine ge ?_|(refine aV ?_;intro _))
   refine R.Zp0 ?_
   repeat (first|(refine bG ?_;intro _)|refine KR ?_|refine y_4 h3 ?_|refine y_4 h4 ?_|refine KS ?_|refine Z81 fun _=>?_|refine Z82 fun _=>?_)
   refine ib (m:=24) (m':=72) (by rfl) (by rfl) (by rfl) fd fd (by rfl) (by rfl) (by first|with_reducible assumption|simp) (by rfl) (by rfl) (by first | exact be _ | exact be ⟨⟨_,_,_⟩,_⟩) fun _ hw=>aa hw SubW.nil ⟨?_,rfl⟩
   rfl
  | false=>cases i1 with
   | true=>
    repeat (first|(refine ct ?_;intro _)|(refine cO ?_;intro _)|refine bo ?_|refine Z81 fun _=>?_|refine Z82 fun _=>?_)
    refine R.ag [0,1,2,3,4,5] (by rfl) ?_
    repeat (first|refine py ?_|refine ah h1 ?_|refine ah h2 ?_|refine ge ?_|(refine aV ?_;intro _))
    refine R.Zp0 ?_
    repeat (first|(refine bG ?_;intro _)|refine KR ?_|refine y_4 h3 ?_|refine y_4 h4 ?_|refine KS ?_|refine Z81 fun _=>?_|refine Z82 fun _=>?_)
    refine ib (m:=24) (m':=72) (by rfl) (by rfl) (by rfl) fd fd (by rfl) (by rfl) (by first|with_reducible assumption|simp) (by rfl) (by rfl) (by first | exact be _ | exact be ⟨⟨_,_,_⟩,_⟩) fun _ hw=>aa hw SubW.nil ⟨?_,rfl⟩
    rfl
   | false=>
    have hi2:i2=true:=by simpa using hflag
    subst hi2
    repeat (first|(refine ct ?_;intro _)|(refine cO ?_;intro _)|refine bo ?_|refine Z81 fun _=>?_|refine Z82 fun _=>?_)
    refine R.ag [0,1,2,3,4,5] (by rfl) ?_
    repeat (first|refine py ?_|refine ah h1 ?_|refine ah h2 ?_|refine ge ?_|(refine aV ?_;intro _))
    refine R.Zp0 ?_
    repeat (first|(refine bG ?_;intro _)|refine KR ?_|refine y_4 h3 ?_|refine y_4 h4 ?_|refine KS ?_|refine Z81 fun _=>?_|refine Z82 fun _=>?_)
    refine ib (m:=24) (m':=72) (by rfl) (by rfl) (by rfl) fd fd (by rfl) (by rfl) (by first|with_reducible assumption|simp) (by rfl) (by rfl) (by first | exact be _ | exact be ⟨⟨_,_,_⟩,_⟩) fun _ hw=>aa hw SubW.nil ⟨?_,rfl⟩
    rfl
 ·rcases eR hR with rfl | ⟨qu,qv,rfl⟩
  ·exact absurd (.inl rfl) hinf
  cases T with
  | none=>exact absurd (.inr (.inl rfl)) hinf
  | some q1=>cases Q with
   | none=>exact absurd (.inr (.inr rfl)) hinf
   | some q2=>
    obtain⟨a1,b1⟩:=q1
    obtain⟨a2,b2⟩:=q2
    cases (show pu=qu from eu.trans (Og qu))
    cases (show pv=qv from ev.trans (Og qv))
    cases (show pi=false from ei)
    cases (show x1=a1 from ex1)
    cases (show y1=b1 from ey1)
    cases (show i1=false from ei1)
    cases (show x2=a2 from ex2)
    cases (show y2=b2 from ey2)
    cases (show i2=false from ei2)
    by_cases hx:x1=x2
    ·subst hx
     by_cases hy:y1=y2∧y1≠Kf.K2.zero
     ·obtain⟨rfl,hy2⟩:=hy
      have hpa:Kf.K2.pa (some (x1,y1)) (some (x1,y1))=some (Kf.K2.cx (Kf.K2.gb x1 y1) x1 x1,Kf.K2.cy (Kf.K2.gb x1 y1) x1 y1 x1):=by
       show(if x1=x1 then if y1=y1∧y1≠Kf.K2.zero then _ else _ else _)=_
       rw[if_pos rfl,if_pos ⟨rfl,hy2⟩]
      have hli:Kf.T12.lin (some (em pu,em pv)) (some (x1,y1)) (some (x1,y1))=Kf.T12.ln (Kf.K2.gb x1 y1) x1 y1 (em pu) (em pv):=by
       show(if x1=x1 then if y1=y1∧y1≠Kf.K2.zero then _ else _ else _)=_
       rw[if_pos rfl,if_pos ⟨rfl,hy2⟩]
      rw[hpa,hli]
      exact EH x1 y1 pu pv hy2
     ·have hpa:Kf.K2.pa (some (x1,y1)) (some (x1,y2))=none:=by
       show(if x1=x1 then if y1=y2∧y1≠Kf.K2.zero then _ else _ else _)=_
       rw[if_pos rfl,if_neg hy]
      have hli:Kf.T12.lin (some (em pu,em pv)) (some (x1,y1)) (some (x1,y2))=⟨⟨x1,em (g6 pu),Kf.K2.zero⟩,Kf.T6.zero⟩:=by
       rw[← VI]
       show(if x1=x1 then if y1=y2∧y1≠Kf.K2.zero then _ else _ else _)=_
       rw[if_pos rfl,if_neg hy]
      rw[hpa,hli]
      exact AK x1 y1 y2 pu pv hy
    ·have hpa:Kf.K2.pa (some (x1,y1)) (some (x2,y2))=some (Kf.K2.cx (Kf.K2.d8 x1 y1 x2 y2) x1 x2,Kf.K2.cy (Kf.K2.d8 x1 y1 x2 y2) x1 y1 x2):=by
      show(if x1=x2 then _ else _)=_
      rw[if_neg hx]
     have hli:Kf.T12.lin (some (em pu,em pv)) (some (x1,y1)) (some (x2,y2))=Kf.T12.ln (Kf.K2.d8 x1 y1 x2 y2) x1 y1 (em pu) (em pv):=by
      show(if x1=x2 then _ else _)=_
      rw[if_neg hx]
     rw[hpa,hli]
     exact EG x1 y1 x2 y2 pu pv hx
def xN:Nat:=15132376222941642752
def xB:List Bool:=(List.range 63).reverse.map fun i=>Nat.testBit xN i
def xBk(i:Nat):List Bool:=((List.range 63).reverse.take i).map fun i=>Nat.testBit xN i
theorem To:xBk 63=xB:=rfl
theorem VL{i:Nat}(h:i<63):xBk (i+1)=xBk i++[Nat.testBit xN (62-i)]:=by
 unfold xBk
 rw[List.take_add_one,List.map_append]
 congr 1
 have:(List.range 63).reverse[i]?=some (62-i):=by
  rw[List.getElem?_reverse (by simpa using h),List.getElem?_range (by simp;omega)]
  simp
 rw[this];rfl
theorem U3{P Q:Kf.K2.Pt p}{i:Nat}(h:i<63):Kf.T12.mil P Q (xBk (i+1))=Kf.T12.mst P Q (Kf.T12.mil P Q (xBk i)) (Nat.testBit xN (62-i)):=by
 rw[VL h]
 unfold Kf.T12.mil
 rw[List.foldl_append];rfl
set_option maxHeartbeats 8000000 in
theorem tp{P:Kf.K2.Pt p}(hR:Kf.K2.Rl P)(Q T:Kf.K2.Pt p)(f:F12)(bt bp bf:Nat):
  Spec Tryz.prog 140 [GV Q,pt bt 0,pt bp 0,pt bf 0] ai [.blk bt (GV T) 36,.blk bp (HV P) 58,.blk bf (bM f) 138]
   (fun v Wr=>v = .tuple #[]∧Wr=[.blk bt (GV (Kf.K2.pa T Q)) 36,.blk bp (HV P) 58,.blk bf (bM (Kf.T12.mul f (Kf.T12.lin P T Q))) 138]):=by
 refine ad Tryz.func140 rfl rfl rfl fun w hr=>?_
 have hl0:=fun x=>ae 6 x
 have hle:=fun x:F2=>ak x
 have h1:=AJ hR T Q
 have h2:=jd f (Kf.T12.lin P T Q)
 obtain⟨x1,y1,i1,q1⟩:∃x1 y1 i1,GV T=GE x1 y1 i1:=⟨_,_,_,rfl⟩
 obtain⟨x2,y2,i2,q2⟩:∃x1 y1 i1,GV Q=GE x1 y1 i1:=⟨_,_,_,rfl⟩
 obtain⟨x3,y3,i3,q3⟩:∃x1 y1 i1,GV (Kf.K2.pa T Q)=GE x1 y1 i1:=⟨_,_,_,rfl⟩
 obtain⟨u,v,j,q4⟩:∃x1 y1 i1,HV P=HE x1 y1 i1:=⟨_,_,_,rfl⟩
 rw[SV,q1,q2,q3,q4]at h1
 rw[q1,q2,q3,q4]
 generalize Kf.T12.mul f (Kf.T12.lin P T Q)=g at *
 generalize Kf.T12.lin P T Q=lf at *
 repeat (first|refine dM ?_|refine jf ?_|(refine ct ?_;intro _)|(refine cO ?_;intro _)|refine y_4 h1 ?_|refine dG ?_|refine jQ ?_|refine Z01 ?_|refine Z03 ?_|refine Z04 ?_|refine Z05 ?_|refine Z06 ?_|refine Z07 ?_|refine Z08 ?_|refine Z09 ?_|refine Z10 ?_|refine Z11 ?_|refine Z12 ?_|refine Z13 ?_|refine Z14 ?_|refine Z19 ?_|refine Z24 ?_|refine Z26 ?_|refine Z27 ?_|refine Z29 ?_|refine Z30 ?_|refine Z31 ?_|refine Z32 ?_|refine Z67 ?_|refine Z81 fun _=>?_|refine Z82 fun _=>?_)
 refine R.ag [0,1,2,3,4,5] (by rfl) ?_
 repeat' (first|(refine R.Zpf (by rfl) (by intro _ _ _;(first|refine Z01 ?_|refine Z19 ?_);exact Zq) ?_)|(refine R.D1 (by rfl) (by intro _ _ _;refine db (m:=24) (by rfl) fd (by rfl) (by rfl) (by first|with_reducible assumption|simp) (by rfl) ?_;exact Zq) ?_)|(refine R.zT [4,5] [3,5] (by rfl) (by rfl) (by intro _ _ _;refine db (m:=24) (by rfl) fd (by rfl) (by rfl) (by first|with_reducible assumption|simp) (by rfl) ?_;exact Zq) (by intro _ _ _;(refine aX (m:=72) (by rfl) (by rfl) fd (by rfl) (be _) (be _) ?_);exact Zqq) ?_ ?_)|refine aL ?_|refine Pm ?_|refine ah h2 ?_|refine aA ?_|refine sf ?_|(refine R.Zps (by rfl) (by intro _ _ _;(refine aX (m:=72) (by rfl) (by rfl) fd (by rfl) (be _) (be _) ?_);exact Zqq) ?_)|(refine aV ?_;intro _))
 all_goals refine R.Zp0 ?_
 all_goals
  repeat (first|refine Z01 ?_|refine Z03 ?_|refine Z04 ?_|refine Z05 ?_|refine Z06 ?_|refine Z07 ?_|refine Z08 ?_|refine Z09 ?_|refine Z10 ?_|refine Z11 ?_|refine Z12 ?_|refine Z13 ?_|refine Z14 ?_|refine Z19 ?_|refine Z24 ?_|refine Z26 ?_|refine Z27 ?_|refine Z29 ?_|refine Z30 ?_|refine Z31 ?_|refine Z32 ?_|refine Z67 ?_|refine Z81 fun _=>?_|refine Z82 fun _=>?_)
  refine gE (by rfl) fun _ hw=>aa hw (Wout:=[.blk bt (GE x3 y3 i3) 36,.blk bp (HE u v j) 58,.blk bf (bM g) 138]) (by exact sw) ⟨rfl,rfl⟩
theorem XF:∀k,k<63→15132376222941642752 >>> k%18446744073709551616 &&& 1%18446744073709551616=(Nat.testBit xN k).toNat:=by decide +kernel
theorem ED(Q:Kf.K2.Pt p)(l:List Bool):(Kf.T12.mil none Q l).1=Kf.T12.one:=by
 have:∀(l:List Bool)(s:F12×Kf.K2.Pt p),s.1=Kf.T12.one→(l.foldl (Kf.T12.mst none Q) s).1=Kf.T12.one:=by
  intro l
  induction l with
  | nil=>exact fun _ h=>h
  | cons x l ih=>
   rintro s h
   refine ih _ ?_
   unfold Kf.T12.mst
   rw[h]
   cases x with
   | false=>show Kf.T12.mul (Kf.T12.mul Kf.T12.one Kf.T12.one) Kf.T12.one=Kf.T12.one;rw[Kf.T12.am,Kf.T12.am]
   | true=>show Kf.T12.mul (Kf.T12.mul (Kf.T12.mul Kf.T12.one Kf.T12.one) Kf.T12.one) Kf.T12.one=Kf.T12.one;rw[Kf.T12.am,Kf.T12.am,Kf.T12.am]
 exact this l _ rfl
theorem EE(P:Kf.K2.Pt p)(l:List Bool):(Kf.T12.mil P none l).1=Kf.T12.one:=by
 have:∀(l:List Bool)(s:F12×Kf.K2.Pt p),s=(Kf.T12.one,none)→l.foldl (Kf.T12.mst P none) s=(Kf.T12.one,none):=by
  intro l
  induction l with
  | nil=>exact fun _ h=>h
  | cons x l ih=>
   rintro _ rfl
   refine ih _ ?_
   unfold Kf.T12.mst
   cases x with
   | false=>show(Kf.T12.mul (Kf.T12.mul Kf.T12.one Kf.T12.one) (Kf.T12.lin P none none),(none:Kf.K2.Pt p))=_;rw[Kf.T12.gM,Kf.T12.am,Kf.T12.am]
   | true=>show(Kf.T12.mul (Kf.T12.mul (Kf.T12.mul Kf.T12.one Kf.T12.one) (Kf.T12.lin P none none)) (Kf.T12.lin P none none),(none:Kf.K2.Pt p))=_;rw[Kf.T12.gM,Kf.T12.am,Kf.T12.am,Kf.T12.am]
 exact congrArg Prod.fst (this l _ rfl)
theorem sx{a b:Prop}(k:b)(h:Rm b→a:=by intro k;(first|refine Z01 ?_|refine Z02 ?_|refine Z03 ?_|refine Z04 ?_|refine Z05 ?_|refine Z06 ?_|refine Z07 ?_|refine Z08 ?_|refine Z09 ?_|refine Z10 ?_|refine Z11 ?_|refine Z12 ?_|refine Z13 ?_|refine Z14 ?_|refine Z16 ?_|refine Z17 ?_|refine Z18 ?_|refine Z24 ?_|refine Z26 ?_|refine Z27 ?_|refine Z29 ?_|refine Z30 ?_|refine Z31 ?_|refine Z32 ?_|refine Z40 ?_|refine Z42 ?_|refine Z48 ?_|refine Z49 ?_|refine Z50 ?_|refine Z51 ?_|refine Z52 ?_|refine Z54 ?_|refine Z67 ?_|refine Z71 ?_);exact k.h):a:=h ⟨k⟩
theorem KT{a b:Prop}(k:b)(h:Rm b→a:=by intro k;(first|refine jf ?_|refine dM ?_|refine fo ?_|refine cv ?_|refine bI ?_|refine eP ?_|refine ft ?_);exact k.h):a:=h ⟨k⟩
theorem P2{a b:Prop}(k:b)(h:Rm b→a:=by intro k;(first|refine ja ?_|refine ic ?_|refine jQ ?_|refine Z01 ?_|refine Z02 ?_|refine Z03 ?_|refine Z04 ?_|refine Z05 ?_|refine Z06 ?_|refine Z07 ?_|refine Z08 ?_|refine Z09 ?_|refine Z10 ?_|refine Z11 ?_|refine Z12 ?_|refine Z13 ?_|refine Z14 ?_|refine Z16 ?_|refine Z17 ?_|refine Z18 ?_|refine Z24 ?_|refine Z26 ?_|refine Z27 ?_|refine Z29 ?_|refine Z30 ?_|refine Z31 ?_|refine Z32 ?_|refine Z40 ?_|refine Z42 ?_|refine Z48 ?_|refine Z49 ?_|refine Z50 ?_|refine Z51 ?_|refine Z52 ?_|refine Z54 ?_|refine Z67 ?_|refine Z71 ?_);exact k.h):a:=h ⟨k⟩
set_option maxHeartbeats 8000000 in
theorem rf{P Q:Kf.K2.Pt p}(hP:Kf.K2.Onc c4 P)(hR:Kf.K2.Rl P)(hQ:Kf.K2.Onc b2c Q)(hn:P=none∨Q=none):Spec Tryz.prog 127 [HV P,GV Q] ai [] (IsV (.tuple [bM Kf.T12.one,N .i64 0].toArray)):=by
 refine ad Tryz.func127 rfl rfl rfl fun w hr=>?_
 have hl0:=fun x=>ae 6 x
 have hle:=fun x:F2=>ak x
 have h1:=mM hP hR
 have h2:=LM hQ
 have h3:=om
 have hE:=be Kf.T12.one
 obtain⟨x1,y1,i1,e1⟩:∃x1 y1 i1,GV Q=GE x1 y1 i1∧i1=gi Q:=⟨_,_,_,rfl,rfl⟩
 obtain⟨u,v,j,e2⟩:∃x1 y1 i1,HV P=HE x1 y1 i1∧i1=gi P:=⟨_,_,_,rfl,rfl⟩
 rw[e2.1]at h1
 rw[e1.1]at h2
 rw[e1.1,e2.1]
 generalize (Kf.T12.one:F12)=f at *
 cases j with
 | true=>
  repeat (first|refine KT ?_|(refine cO ?_;intro _)|refine y_4 h1 ?_|refine y_4 h2 ?_|refine y_4 h3 ?_|refine P2 ?_|refine Z81 fun _=>?_|refine Z82 fun _=>?_)
  repeat (first|with_reducible refine di ?_|refine sx ?_|refine Z81 fun _=>?_|refine Z82 fun _=>?_)
  refine aJ (by rfl) (by rfl) (by rfl) fd (by rfl) (by rfl) (by first | with_reducible assumption | (simp[*];done)) fun _ hw=>aa hw SubW.nil ⟨?_,rfl⟩
  rfl
 | false=>
  have hi:i1=true:=by
   rcases hn with rfl | rfl
   ·exact absurd e2.2 (by decide)
   ·exact e1.2
  subst hi
  repeat (first|refine KT ?_|(refine cO ?_;intro _)|refine y_4 h1 ?_|refine y_4 h2 ?_|refine y_4 h3 ?_|refine P2 ?_|refine Z81 fun _=>?_|refine Z82 fun _=>?_)
  repeat (first|with_reducible refine di ?_|refine sx ?_|refine Z81 fun _=>?_|refine Z82 fun _=>?_)
  refine aJ (by rfl) (by rfl) (by rfl) fd (by rfl) (by rfl) (by first | with_reducible assumption | (simp[*];done)) fun _ hw=>aa hw SubW.nil ⟨?_,rfl⟩
  rfl
theorem Pp{a b:Prop}(k:b)(h:Rm b→a:=by intro k;(first|refine ja ?_|refine ic ?_|refine Z01 ?_|refine Z02 ?_|refine Z03 ?_|refine Z04 ?_|refine Z05 ?_|refine Z06 ?_|refine Z07 ?_|refine Z08 ?_|refine Z09 ?_|refine Z10 ?_|refine Z11 ?_|refine Z12 ?_|refine Z13 ?_|refine Z14 ?_|refine Z16 ?_|refine Z17 ?_|refine Z18 ?_|refine Z24 ?_|refine Z26 ?_|refine Z27 ?_|refine Z29 ?_|refine Z30 ?_|refine Z31 ?_|refine Z32 ?_|refine Z40 ?_|refine Z42 ?_|refine Z48 ?_|refine Z49 ?_|refine Z50 ?_|refine Z51 ?_|refine Z52 ?_|refine Z54 ?_|refine Z67 ?_|refine Z71 ?_);exact k.h):a:=h ⟨k⟩
set_option maxHeartbeats 8000000 in
theorem AF{P Q:Kf.K2.Pt p}(hP:Kf.K2.Onc c4 P)(hR:Kf.K2.Rl P)(hQ:Kf.K2.Onc b2c Q)(n1:P≠none)(n2:Q≠none):Spec Tryz.prog 127 [HV P,GV Q] ai [] (IsV (.tuple [bM (Kf.T12.conj (Kf.T12.mil P Q xB).1),N .i64 0].toArray)):=by
 refine ad Tryz.func127 rfl rfl rfl fun w hr=>?_
 have hl0:=fun x=>ae 6 x
 have hle:=fun x:F2=>ak x
 have h1:=mM hP hR
 have h2:=LM hQ
 have h3:=om
 have h4:=xA Q
 have cl:=fun T f=>tp hR Q T f
 have cs:=fun T f=>tp hR T T f
 have hi:gi Q=false:=by cases Q with
  | none=>exact absurd rfl n2
  | some q=>rfl
 have hj:gi P=false:=by cases P with
  | none=>exact absurd rfl n1
  | some q=>rfl
 obtain⟨x1,y1,e1⟩:∃x1 y1,GV Q=GE x1 y1 false:=⟨gx Q,gy Q,by rw[← hi]⟩
 obtain⟨u,v,e2⟩:∃x1 y1,HV P=HE x1 y1 false:=⟨(gx P).re,(gy P).re,by rw[← hj]⟩
 rw[e2]at h1 cl cs
 rw[e1]at h2 h4
 rw[e1,e2]
 have e0:bM Kf.T12.one=bM (Kf.T12.mil P Q (xBk 0)).1:=rfl
 have e0':GE x1 y1 false=GV (Kf.T12.mil P Q (xBk 0)).2:=e1.symm
 have cl:∀(T:Kf.K2.Pt p)(f:F12)(bt bp bf:Nat),Spec Tryz.prog 140 [GE x1 y1 false,pt bt 0,pt bp 0,pt bf 0] ai [.blk bt (GV T) 36,.blk bp (HE u v false) 58,.blk bf (bM f) 138]
   (fun v' Wr=>v' = .tuple #[]∧Wr=[.blk bt (GV (Kf.K2.pa T Q)) 36,.blk bp (HE u v false) 58,.blk bf (bM (Kf.T12.mul f (Kf.T12.lin P T Q))) 138]):=by
  intro T f bt bp bf
  rw[← e1];exact cl T f bt bp bf
 repeat (first|refine KT ?_|(refine cO ?_;intro _)|refine y_4 h1 ?_|refine y_4 h2 ?_|refine Pp ?_|refine Z81 fun _=>?_|refine Z82 fun _=>?_)
 rename_i p2 p3 p4
 refine C4 (fun a b=>[(2,pt p2 0),(3,pt p3 0),(4,pt p4 0),(6,pt a 0),(7,pt b 0)]) (fun a b=>[.blk a (bM (Kf.T12.mil P Q (xBk 0)).1) 138,.blk b (GV (Kf.T12.mil P Q (xBk 0)).2) 36,.blk p4 (LV .u64 (List.replicate 72 0)) 138,.blk p3 (GE x1 y1 false) 36,.blk p2 (HE u v false) 58]) (fun p6 p7=>?_) (fun hK=>?_)
 case refine_2=>
  refine R.ag [0,1,2,3,4,5,6] (by rfl) ?_
  repeat' (first|(refine R.Zpf (by rfl) (by intro _ _ _;(first|refine Z01 ?_|refine Z02 ?_|refine Z16 ?_|refine Z17 ?_|refine Z18 ?_|refine Z40 ?_|refine Z42 ?_|refine Z48 ?_|refine Z49 ?_|refine Z50 ?_|refine Z54 ?_|refine Z71 ?_);exact Zq) ?_)|refine aL ?_|refine zn ?_|refine ah h3 ?_|refine ah h4 ?_|refine aA ?_|refine sf ?_|refine Dz ?_|(refine R.Ga (R.Mks.mk (R.Mk.mk' (by rfl) (by intro _ _ _;refine ar (v:=LV .u64 (List.replicate 72 0)) (by rfl) (by rfl) fun _=>?_;first|exact R.iH|exact R.dN|exact R.iI)) (fun _=>?_)) (R.Mks.mk (R.Mk.mk' (by rfl) (by intro _ _ _;refine ar (E:=36) (v:=GL (List.replicate 24 0) false) (by kernel_rfl) (by rfl) fun _=>?_;first|exact R.iH|exact R.dN|exact R.iI)) (fun _=>?_)))|(refine ur ?_;intro _)|(refine Ko ?_;intro _)|(refine aV ?_;intro _))
  all_goals refine R.Zp0 ?_
  all_goals exact dZ sbq (by rw[← e0',← e0];exact sw) (hK _ _)
 case refine_1=>
  repeat (first|refine Pp ?_|refine Z81 fun _=>?_|refine Z82 fun _=>?_)
  refine az (ι:=Nat) (fun i=>i≤63) (fun i=>[(2,pt p2 0),(3,pt p3 0),(4,pt p4 0),(6,pt p6 0),(7,pt p7 0),(8,.func (.func 140) #[] #[pt p7 0,pt p2 0,pt p6 0]),(9,.int .i64 (62-(i:Int)))])
   (fun i=>[.blk p6 (bM (Kf.T12.mil P Q (xBk i)).1) 138,.blk p7 (GV (Kf.T12.mil P Q (xBk i)).2) 36,.blk p4 (LV .u64 (List.replicate 72 0)) 138,.blk p3 (GE x1 y1 false) 36,.blk p2 (HE u v false) 58]) (fun i=>63-i) 0 (by omega) sbq sw ?_
  intro i hi
  repeat (first|refine sx ?_|refine Z81 fun _=>?_|refine Z82 fun _=>?_)
  refine an (by rfl) (fun hc=>?_) (fun hc=>?_)
  ·have hc':(0:Int)≤62-(i:Int):=hc
   obtain⟨k,hk⟩:∃k,i+k=62:=⟨62-i,by omega⟩
   rw[show(62-(i:Int))=Int.ofNat k by show _=(k:Int);omega]
   have hs:=U3 (P:=P) (Q:=Q) (i:=i) (by omega)
   rw[show 62-i=k by omega]at hs
   have hbt:=XF k (by omega)
   generalize Kf.T12.mil P Q (xBk i)=s at hs ⊢
   obtain⟨f,T⟩:=s
   have m1:=jd f f
   have c1:=cs T (Kf.T12.mul f f)
   have c2:=cl (Kf.K2.pa T T) (Kf.T12.mul (Kf.T12.mul f f) (Kf.T12.lin P T T))
   simp only[Kf.T12.mst]at hs ⊢
   repeat (first|refine gd ?_|refine y_4 m1 ?_|refine su ?_|refine dM ?_|(refine ax (by rfl) (by rfl) (by rfl) (c1 _ _ _) (.cons fd (.cons fd (.cons fd .nil))) (fun _ _=>trivial) (by rfl) ?_;rintro _ _ ⟨rfl,rfl⟩)|refine ii (by rfl) (by rfl) (show k≤64 by omega) (by rfl) ?_|rw[hbt]|refine sx ?_|refine Z81 fun _=>?_|refine Z82 fun _=>?_)
   refine an (by rfl) (fun hb=>?_) (fun hb=>?_)
   ·have hb2:Nat.testBit xN k=false:=by
     cases hq:Nat.testBit xN k
     ·rfl
     ·rw[hq]at hb;exact absurd hb (by decide)
    rw[hb2]at hs
    repeat (first|refine sx ?_|refine Z81 fun _=>?_|refine Z82 fun _=>?_)
    refine ao (i+1) (by omega) (by omega) ?_ (by rw[hs];exact sw)
    rw[show(62-((i+1:Nat):Int))=Int.ofNat k-Int.ofNat 1 by show _=(k:Int)-1;omega]
    exact sbq
   ·have hb2:Nat.testBit xN k=true:=by
     cases hq:Nat.testBit xN k
     ·rw[hq]at hb;exact absurd rfl hb
     ·rfl
    rw[hb2]at hs
    repeat (first|refine dM ?_|(refine ax (by rfl) (by rfl) (by rfl) (c2 _ _ _) (.cons fd (.cons fd (.cons fd .nil))) (fun _ _=>trivial) (by rfl) ?_;rintro _ _ ⟨rfl,rfl⟩)|refine sx ?_|refine Z81 fun _=>?_|refine Z82 fun _=>?_)
    refine ao (i+1) (by omega) (by omega) ?_ (by rw[hs];exact sw)
    rw[show(62-((i+1:Nat):Int))=Int.ofNat k-Int.ofNat 1 by show _=(k:Int)-1;omega]
    exact sbq
  ·have hc':¬(0:Int)≤62-(i:Int):=hc
   have hi':i=63:=by omega
   subst hi'
   rw[To]
   have m1:=jG (Kf.T12.mil P Q xB).1
   have hE:=be (Kf.T12.conj (Kf.T12.mil P Q xB).1)
   repeat (first|refine gd ?_|refine y_4 m1 ?_|refine jQ ?_|refine Z01 ?_|refine Z02 ?_|refine Z03 ?_|refine Z04 ?_|refine Z05 ?_|refine Z06 ?_|refine Z07 ?_|refine Z08 ?_|refine Z09 ?_|refine Z10 ?_|refine Z11 ?_|refine Z12 ?_|refine Z13 ?_|refine Z14 ?_|refine Z16 ?_|refine Z17 ?_|refine Z18 ?_|refine Z24 ?_|refine Z26 ?_|refine Z27 ?_|refine Z29 ?_|refine Z30 ?_|refine Z31 ?_|refine Z32 ?_|refine Z40 ?_|refine Z42 ?_|refine Z48 ?_|refine Z49 ?_|refine Z50 ?_|refine Z51 ?_|refine Z52 ?_|refine Z54 ?_|refine Z67 ?_|refine Z71 ?_|refine Z81 fun _=>?_|refine Z82 fun _=>?_)
   repeat (first|with_reducible refine di ?_|refine sx ?_|refine Z81 fun _=>?_|refine Z82 fun _=>?_)
   refine aJ (by rfl) (by rfl) (by rfl) fd (by rfl) (by rfl) (by first | with_reducible assumption | (simp[*];done)) fun _ hw=>aa hw SubW.nil ⟨?_,rfl⟩
   rfl
theorem AH{P Q:Kf.K2.Pt p}(hP:Kf.K2.Onc c4 P)(hR:Kf.K2.Rl P)(hQ:Kf.K2.Onc b2c Q):Spec Tryz.prog 127 [HV P,GV Q] ai [] (IsV (.tuple [bM (Kf.T12.conj (Kf.T12.mil P Q xB).1),N .i64 0].toArray)):=by
 by_cases n1:P=none
 ·have h:=rf hP hR hQ (.inl n1)
  subst n1
  rw[ED,Kf.T12.fZ];exact h
 by_cases n2:Q=none
 ·have h:=rf hP hR hQ (.inr n2)
  subst n2
  rw[EE,Kf.T12.fZ];exact h
 exact AF hP hR hQ n1 n2
end
section
attribute [local irreducible] Code.wp wpList Af bodyPost L.Go ab
open Num
attribute [local simp] ae
attribute [local irreducible] Kf.T12.mul Kf.T12.one Kf.T12.conj Kf.T12.inv CR.pw frI
attribute [local irreducible] bi gm
def hW(P:Kf.K2.Pt p):List Value:=(Q6 (gx P).re++Q6 (gy P).re).map (N .u64)++[Value.bool (gi P)]
def gW(P:Kf.K2.Pt p):List Value:=(E2 (gx P)++E2 (gy P)).map (N .u64)++[Value.bool (gi P)]
theorem TU(P:Kf.K2.Pt p):HV P=AV (hW P):=F5 _ _
theorem TS(P:Kf.K2.Pt p):GV P=AV (gW P):=F5 _ _
theorem Ry(P:Kf.K2.Pt p):(hW P).length=13:=by simp[hW]
theorem Rt(P:Kf.K2.Pt p):(gW P).length=25:=by simp[gW]
def hWs(l:List (Kf.K2.Pt p)):List (List Value):=l.map hW
def gWs(l:List (Kf.K2.Pt p)):List (List Value):=l.map gW
theorem pN(l:List (Kf.K2.Pt p)):∀v∈hWs l,v.length=13:=by
 intro v hv
 obtain⟨x,_,rfl⟩:=List.mem_map.1 hv
 exact Ry x
theorem pM(l:List (Kf.K2.Pt p)):∀v∈gWs l,v.length=25:=by
 intro v hv
 obtain⟨x,_,rfl⟩:=List.mem_map.1 hv
 exact Rt x
theorem iW{m:Nat}{xss:List (List Value)}(h:∀v∈xss,v.length=m):xss.flatten.length=xss.length*m:=by
 induction xss with
 | nil=>simp
 | cons x r ih=>
  rw[List.flatten_cons,List.length_append,h x (by simp),ih fun v hv=>h v (by simp[hv]),List.length_cons,Nat.succ_mul,Nat.add_comm]
theorem xD(l:List (Kf.K2.Pt p)):(hWs l).flatten.length=l.length*13:=by rw[iW (pN l)];unfold hWs;rw[List.length_map]
theorem Hv(l:List (Kf.K2.Pt p)):(gWs l).flatten.length=l.length*25:=by rw[iW (pM l)];unfold gWs;rw[List.length_map]
theorem LN{l:List (Kf.K2.Pt p)}{i:Nat}{P:Kf.K2.Pt p}(h:l[i]?=some P):(hWs l)[i]?=some (hW P):=by unfold hWs;rw[List.getElem?_map,h];rfl
theorem LH{l:List (Kf.K2.Pt p)}{i:Nat}{P:Kf.K2.Pt p}(h:l[i]?=some P):(gWs l)[i]?=some (gW P):=by unfold gWs;rw[List.getElem?_map,h];rfl
def Ok1(P:Kf.K2.Pt p):Prop:=Kf.K2.Onc c4 P∧Kf.K2.Rl P∧Kf.K2.tim P 52435875175126190479447740508185965837690552500527637822603658699938581184513=none
def Ok2(Q:Kf.K2.Pt p):Prop:=Kf.K2.Onc b2c Q∧Kf.K2.tim Q 52435875175126190479447740508185965837690552500527637822603658699938581184513=none
def ee:List (Kf.K2.Pt p)→List (Kf.K2.Pt p)→F12→F12
 | P::ps,Q::qs,f=>ee ps qs (bi [f,Kf.T12.conj (Kf.T12.mil P Q xB).1])
 | _,_,f=>f
theorem H7:∀{ps qs:List (Kf.K2.Pt p)}{i:Nat}{P Q:Kf.K2.Pt p}(f:F12),ps[i]?=some P→qs[i]?=some Q→ee (ps.take (i+1)) (qs.take (i+1)) f=bi [ee (ps.take i) (qs.take i) f,Kf.T12.conj (Kf.T12.mil P Q xB).1]
 | [],_,_,_,_,_,h,_=>by simp at h
 | _::_,[],_,_,_,_,_,h=>by simp at h
 | p0::ps,q0::qs,0,P,Q,f,h1,h2=>by
  simp at h1 h2
  subst h1;subst h2
  simp[ee]
 | p0::ps,q0::qs,i+1,P,Q,f,h1,h2=>by
  simp at h1 h2
  simp only[List.take_succ_cons,ee]
  exact H7 _ h1 h2
end
end Go.Proofs.YtndhfbecpghinaaGreat.L
namespace Go.Proofs.YtndhfbecpghinaaGreat.L.Kf
open Pr
namespace K2
def qM{α:Type}(T:PN)(a:α):α:=cond (Nat.beq (T.1+T.2) 0) a a
theorem tf{α:Type}(T:PN)(a:α):qM T a=a:=by
 unfold qM
 cases Nat.beq (T.1+T.2) 0 <;> rfl
def pgo(N:Nat)(a:PN)(k:Nat):Nat→PN→PN
 | 0,S=>S
 | f+1,S=>(fun T=>qM T (pgo N a k f T)) (cond (Nat.beq (k/2^f%2) 1) (aO N (aO N S S) a) (aO N S S))
theorem N3(k f m:Nat):m*2^(f+1)+k%2^(f+1)=(m+m+k/2^f%2)*2^f+k%2^f:=by
 have hk:k%2^(f+1)=2^f*(k/2^f%2)+k%2^f:=by rw[Nat.pow_succ,Nat.mod_mul,Nat.add_comm]
 rw[hk,Nat.pow_succ,Nat.add_mul,Nat.add_mul,Nat.mul_comm (2^f) 2,← Nat.mul_assoc,Nat.mul_two,Nat.add_mul,Nat.mul_comm (2^f)]
 simp only[Nat.add_assoc]
section
variable {n:Nat} [NeZero n]
attribute [local irreducible] add mul sub neg zero one inv aO ca du
theorem IH(h0:0<n)(a:PN)(k:Nat):∀(f:Nat)(S:PN)(m:Nat),red n S=pw (red n a) m→red n (pgo n a k f S)=pw (red n a) (m*2^f+k%2^f)
 | 0,S,m,h=>by rw[Nat.pow_zero,Nat.mod_one,Nat.mul_one,Nat.add_zero];exact h
 | f+1,S,m,h=>by
  have hn:=Nat.dvd_refl n
  rw[N3]
  show red n (qM _ _)=_
  rw[tf]
  refine IH h0 a k f _ _ ?_
  rcases Nat.mod_two_eq_zero_or_one (k/2^f)with h1 | h1
  ·rw[h1]
   show red n (aO n S S)=_
   rw[da hn h0,h,← dO,Nat.add_zero]
  ·rw[h1]
   show red n (aO n (aO n S S) a)=_
   rw[da hn h0,da hn h0,h,← dO,pw]
theorem Sp(h0:0<n)(a:PN){k f:Nat}(hk:k<2^f):pw (red n a) k=red n (pgo n a k f vG):=by
 have:=IH h0 a k f vG 0 (by rw[vU];rfl)
 rw[this,Nat.zero_mul,Nat.zero_add,Nat.mod_eq_of_lt hk]
end
end K2
namespace T12
open K2 (PN ca du aO red vG dQ isz ltP Pt pa gb d8 cx cy)
structure S12 where
 a:PN
 b:PN
 c:PN
 d:PN
 e:PN
 f:PN
def xiP:PN:=(1,1)
def dS(N:Nat)(x y:S12):S12:=
  ⟨ca N (aO N x.a y.a) (aO N xiP (ca N (ca N (ca N (aO N x.b y.f) (aO N x.f y.b)) (ca N (aO N x.c y.e) (aO N x.e y.c))) (aO N x.d y.d))),
   ca N (ca N (aO N x.a y.b) (aO N x.b y.a)) (aO N xiP (ca N (ca N (aO N x.c y.f) (aO N x.f y.c)) (ca N (aO N x.d y.e) (aO N x.e y.d)))),
   ca N (ca N (aO N x.a y.c) (ca N (aO N x.c y.a) (aO N x.b y.b))) (aO N xiP (ca N (ca N (aO N x.d y.f) (aO N x.f y.d)) (aO N x.e y.e))),
   ca N (ca N (ca N (aO N x.a y.d) (aO N x.d y.a)) (ca N (aO N x.b y.c) (aO N x.c y.b))) (aO N xiP (ca N (aO N x.e y.f) (aO N x.f y.e))),
   ca N (ca N (ca N (aO N x.a y.e) (aO N x.e y.a)) (ca N (ca N (aO N x.b y.d) (aO N x.d y.b)) (aO N x.c y.c))) (aO N xiP (aO N x.f y.f)),
   ca N (ca N (ca N (aO N x.a y.f) (aO N x.f y.a)) (ca N (aO N x.b y.e) (aO N x.e y.b))) (ca N (aO N x.c y.d) (aO N x.d y.c))⟩
def fR{α:Type}(T:S12)(a:α):α:=cond (Nat.beq (T.a.1+T.a.2+T.b.1+T.b.2+T.c.1+T.c.2+T.d.1+T.d.2+T.e.1+T.e.2+T.f.1+T.f.2) 0) a a
theorem fB{α:Type}(T:S12)(a:α):fR T a=a:=by
 unfold fR
 generalize Nat.beq _ 0=b
 cases b <;> rfl
def ng(N:Nat)(a:S12)(k:Nat):Nat→S12→S12
 | 0,S=>S
 | f+1,S=>(fun T=>fR T (ng N a k f T)) (cond (Nat.beq (k/2^f%2) 1) (dS N (dS N S S) a) (dS N S S))
def jK:S12:=⟨vG,dQ,dQ,dQ,dQ,dQ⟩
def qr(N:Nat)(x:PN):PN:=(x.1,N-x.2%N)
def EL(N:Nat)(x:PN):PN:=du N dQ x
def qp(N:Nat)(x:S12):S12:=⟨x.a,EL N x.b,x.c,EL N x.d,x.e,EL N x.f⟩
def Hl(N:Nat)(g g2 g3 g4 g5:PN)(x:S12):S12:=
 ⟨qr N x.a,aO N (qr N x.b) g,aO N (qr N x.c) g2,aO N (qr N x.d) g3,aO N (qr N x.e) g4,aO N (qr N x.f) g5⟩
structure MS where
 g:Bool
 x:PN
 y:PN
 z:S12
def ivP(N:Nat)(x:PN):PN:=(fun d=>(x.1*d%N,(N-x.2%N)*d%N)) (pm N 381 ((x.1*x.1+x.2*x.2)%N) (N-2))
def Mb(N:Nat)(l x y u v:PN):S12:=⟨du N (aO N l x) y,dQ,EL N (aO N l u),v,dQ,dQ⟩
def goM(N:Nat)(u v:PN)(S:MS)(f:S12)(num den qx:PN):MS:=
 (fun l=>K2.qM l ((fun z=>fR z ⟨S.g&&(isz (du N (aO N l den) num) && !isz den),du N (du N (aO N l l) S.x) qx,du N (aO N l (du N S.x (du N (du N (aO N l l) S.x) qx))) S.y,z⟩) (dS N f (Mb N l S.x S.y u v)))) (aO N num (ivP N den))
def D9(N:Nat)(u v:PN)(S:MS):MS:=
 goM N u v S (dS N S.z S.z) (ca N (ca N (aO N S.x S.x) (aO N S.x S.x)) (aO N S.x S.x)) (ca N S.y S.y) S.x
def Qq(N:Nat)(u v qx qy:PN)(S:MS):MS:=
 goM N u v S S.z (du N qy S.y) (du N qx S.x) qx
def stM(N:Nat)(u v qx qy:PN)(S:MS)(t:Bool):MS:=bif t then Qq N u v qx qy (D9 N u v S)else D9 N u v S
def oc{α:Type}(T:MS)(a:α):α:=cond (Nat.beq (T.x.1+T.x.2+T.y.1+T.y.2) 0) (fR T.z (cond T.g a a)) (fR T.z (cond T.g a a))
theorem tb{α:Type}(T:MS)(a:α):oc T a=a:=by
 unfold oc
 rw[fB]
 generalize Nat.beq _ 0=b
 cases b <;> cases T.g <;> rfl
def AE(N:Nat)(u v qx qy:PN):List Bool→MS→MS
 | [],S=>S
 | t::l,S=>(fun T=>oc T (AE N u v qx qy l T)) (stM N u v qx qy S t)
section
variable {n:Nat} [NeZero n]
def bB(n:Nat)[NeZero n](x:S12):T12 n:=⟨⟨red n x.a,red n x.c,red n x.e⟩,⟨red n x.b,red n x.d,red n x.f⟩⟩
theorem SC:red n xiP=K2.xi:=K2.ext' κ_1 κ_1
theorem I8(h0:0<n)(x:PN):red n (qr n x)=K2.conj (red n x):=K2.ext' rfl (K2.qe (Nat.dvd_refl n) h0 x.2)
theorem CU(h0:0<n)(x:PN):red n (EL n x)=K2.neg (red n x):=by
 rw[EL,K2.dY (Nat.dvd_refl n) h0,K2.kq]
 exact K2.ext' (show(0:Fin n)-κ n x.1 = -κ n x.1 by grind) (show(0:Fin n)-κ n x.2 = -κ n x.2 by grind)
attribute [local irreducible] K2.add K2.mul K2.sub K2.neg K2.zero K2.one K2.inv K2.xi K2.conj K2.aO K2.ca K2.du mul one conj
theorem tK:bB n jK=one:=by
 unfold one
 show(⟨⟨red n vG,red n dQ,red n dQ⟩,⟨red n dQ,red n dQ,red n dQ⟩⟩:T12 n)=_
 rw[K2.vU,K2.kq];rfl
theorem dh(h0:0<n)(x y:S12):bB n (dS n x y)=mul (bB n x) (bB n y):=by
 have hn:=Nat.dvd_refl n
 show _=mul ⟨⟨_,_,_⟩,⟨_,_,_⟩⟩ ⟨⟨_,_,_⟩,⟨_,_,_⟩⟩
 rw[vz]
 unfold bB dS
 simp only[K2.kR hn,K2.da hn h0,SC]
theorem rF(h0:0<n)(x:S12):bB n (qp n x)=conj (bB n x):=by
 unfold conj bB qp T6.neg
 simp only[CU h0]
theorem E7(h0:0<n)(g:PN)(g2 g3 g4 g5:PN)(h2:red n g2=K2.pw (red n g) 2)(h3:red n g3=K2.pw (red n g) 3)(h4:red n g4=K2.pw (red n g) 4)(h5:red n g5=K2.pw (red n g) 5)(x:S12):
  bB n (Hl n g g2 g3 g4 g5 x)=frb (red n g) (bB n x):=by
 have hn:=Nat.dvd_refl n
 unfold frb bB Hl
 simp only[K2.da hn h0,I8 h0,h2,h3,h4,h5]
theorem ya(h0:0<n)(a:S12)(k:Nat):∀(f:Nat)(S:S12)(m:Nat),bB n S=CR.pw (bB n a) m→bB n (ng n a k f S)=CR.pw (bB n a) (m*2^f+k%2^f)
 | 0,S,m,h=>by rw[Nat.pow_zero,Nat.mod_one,Nat.mul_one,Nat.add_zero];exact h
 | f+1,S,m,h=>by
  rw[K2.N3]
  show bB n (fR _ _)=_
  rw[fB]
  refine ya h0 a k f _ _ ?_
  rcases Nat.mod_two_eq_zero_or_one (k/2^f)with h1 | h1
  ·rw[h1]
   show bB n (dS n S S)=_
   rw[dh h0,h,Nat.add_zero]
   exact(CR.dO _ m m).symm
  ·rw[h1]
   show bB n (dS n (dS n S S) a)=_
   rw[dh h0,dh h0,h,CR.lc,CR.dO];rfl
theorem nr(h0:0<n)(a:S12){k f:Nat}(hk:k<2^f):CR.pw (bB n a) k=bB n (ng n a k f jK):=by
 have:=ya h0 a k f jK 0 (by rw[tK];rfl)
 rw[this,Nat.zero_mul,Nat.zero_add,Nat.mod_eq_of_lt hk]
theorem Sz(h0:0<n)(l x y u v:PN):bB n (Mb n l x y u v)=ln (red n l) (red n x) (red n y) (red n u) (red n v):=by
 have hn:=Nat.dvd_refl n
 unfold ln bB Mb
 simp only[K2.dY hn h0,K2.da hn h0,CU h0,K2.kq]
theorem QX(hp:P3 n){l x y u v:K2 n}(h:K2.mul l (K2.add y y)=K2.q3 x x)(hd:K2.add y y≠K2.zero):
  lin (some (u,v)) (some (x,y)) (some (x,y))=ln l x y u v∧pa (some (x,y)) (some (x,y))=some (cx l x x,cy l x y x):=by
 have hy:y≠K2.zero:=fun e=>hd (by rw[e,K2.add_zero'])
 have ht:gb x y=l:=K2.dw hp hd h
 constructor
 ·show(if x=x then if y=y∧y≠K2.zero then _ else _ else _)=_
  rw[if_pos rfl,if_pos ⟨rfl,hy⟩,ht]
 ·show(if x=x then if y=y∧y≠K2.zero then _ else _ else _)=_
  rw[if_pos rfl,if_pos ⟨rfl,hy⟩,ht]
theorem Qr(hp:P3 n){l x y a b u v:K2 n}(h:K2.mul l (K2.sub a x)=K2.sub b y)(hd:K2.sub a x≠K2.zero):
  lin (some (u,v)) (some (x,y)) (some (a,b))=ln l x y u v∧pa (some (x,y)) (some (a,b))=some (cx l x a,cy l x y a):=by
 have hx:x≠a:=fun e=>hd (by rw[e,K2.aZ])
 have hc:d8 x y a b=l:=K2.dw hp hd h
 constructor
 ·show(if x=a then _ else _)=_
  rw[if_neg hx,hc]
 ·show(if x=a then _ else _)=_
  rw[if_neg hx,hc]
def Std(S:MS)(s:T12 n×Pt n):Prop:=s=(bB n S.z,some (red n S.x,red n S.y))
theorem HB(N:Nat)(u v:PN)(S:MS)(f:S12)(num den qx:PN):goM N u v S f num den qx=⟨S.g&&(isz (du N (aO N (aO N num (ivP N den)) den) num) && !isz den),du N (du N (aO N (aO N num (ivP N den)) (aO N num (ivP N den))) S.x) qx,du N (aO N (aO N num (ivP N den)) (du N S.x (du N (du N (aO N (aO N num (ivP N den)) (aO N num (ivP N den))) S.x) qx))) S.y,dS N f (Mb N (aO N num (ivP N den)) S.x S.y u v)⟩:=
 (K2.tf _ _).trans (fB _ _)
theorem B9{N:Nat}{u v:PN}{S:MS}{f:S12}{num den qx:PN}(h:(goM N u v S f num den qx).g=true):S.g=true:=by
 rw[HB]at h
 change (S.g&&_)=true at h
 rw[Bool.and_eq_true]at h
 exact h.1
theorem HC(h0:0<n){u v:PN}{S:MS}{f:S12}{num den qx:PN}(hl:ltP n den)(h:(goM n u v S f num den qx).g=true):
  ∃l:K2 n,K2.mul l (red n den)=red n num∧red n den≠K2.zero∧bB n (goM n u v S f num den qx).z=mul (bB n f) (ln l (red n S.x) (red n S.y) (red n u) (red n v)) ∧
   red n (goM n u v S f num den qx).x=cx l (red n S.x) (red n qx)∧red n (goM n u v S f num den qx).y=cy l (red n S.x) (red n S.y) (red n qx):=by
 have hn:=Nat.dvd_refl n
 refine⟨red n (aO n num (ivP n den)),?_⟩
 rw[HB]at h ⊢
 change (S.g&&(isz _ && !isz den))=true at h
 rw[Bool.and_eq_true,Bool.and_eq_true,Bool.not_eq_true']at h
 generalize aO n num (ivP n den)=l at h ⊢
 refine⟨?_,?_,?_,?_,?_⟩
 ·have e:=(K2.dW (K2.jr h0 _ _)).1 h.2.1
  rw[K2.dY hn h0,K2.da hn h0]at e
  exact K2.aE e
 ·intro e
  rw[(K2.dW hl).2 e]at h
  exact absurd h.2.2 (by decide)
 ·show bB n (dS n _ _)=_
  rw[dh h0,Sz h0]
 ·show red n (du n _ _)=_
  simp only[K2.dY hn h0,K2.da hn h0,cx]
 ·show red n (du n _ _)=_
  simp only[K2.dY hn h0,K2.da hn h0,cx,cy]
theorem VG{N:Nat}{u v qx qy:PN}{S:MS}{t:Bool}(h:(stM N u v qx qy S t).g=true):S.g=true:=by
 cases t with
 | false=>exact B9 h
 | true=>exact B9 (B9 (S:=D9 N u v S) h)
theorem BQ(hp:P3 n){u v:PN}{S:MS}{s:T12 n×Pt n}(hs:Std S s)(h:(D9 n u v S).g=true):
  Std (D9 n u v S) (mul (mul s.1 s.1) (lin (some (red n u,red n v)) s.2 s.2),pa s.2 s.2):=by
 have h0:=hp.1.pos
 have hn:=Nat.dvd_refl n
 rw[hs]
 obtain⟨l,e1,e2,e3,e4,e5⟩:=HC h0 (K2.AC h0 _ _) h
 rw[K2.kR hn]at e1 e2
 rw[K2.kR hn,K2.kR hn,K2.da hn h0]at e1
 rw[dh h0]at e3
 obtain⟨d1,d2⟩:=QX (u:=red n u) (v:=red n v) hp (x:=red n S.x) (y:=red n S.y) e1 e2
 show((mul (mul _ _) (lin _ (some (_,_)) (some (_,_))),pa (some (_,_)) (some (_,_))):T12 n×Pt n)=(bB n (goM _ _ _ _ _ _ _ _).z,some (red n (goM _ _ _ _ _ _ _ _).x,red n (goM _ _ _ _ _ _ _ _).y))
 rw[d1,d2,e3,e4,e5]
theorem Li(hp:P3 n){u v qx qy:PN}{S:MS}{s:T12 n×Pt n}(hs:Std S s)(h:(Qq n u v qx qy S).g=true):
  Std (Qq n u v qx qy S) (mul s.1 (lin (some (red n u,red n v)) s.2 (some (red n qx,red n qy))),pa s.2 (some (red n qx,red n qy))):=by
 have h0:=hp.1.pos
 have hn:=Nat.dvd_refl n
 rw[hs]
 obtain⟨l,e1,e2,e3,e4,e5⟩:=HC h0 (K2.jr h0 _ _) h
 rw[K2.dY hn h0]at e1 e2
 rw[K2.dY hn h0]at e1
 obtain⟨d1,d2⟩:=Qr (u:=red n u) (v:=red n v) hp (x:=red n S.x) (y:=red n S.y) e1 e2
 show((mul _ (lin _ (some (_,_)) (some (_,_))),pa (some (_,_)) (some (_,_))):T12 n×Pt n)=(bB n (goM _ _ _ _ _ _ _ _).z,some (red n (goM _ _ _ _ _ _ _ _).x,red n (goM _ _ _ _ _ _ _ _).y))
 rw[d1,d2,e3,e4,e5]
theorem SU(hp:P3 n){u v qx qy:PN}{S:MS}{s:T12 n×Pt n}(hs:Std S s){t:Bool}(h:(stM n u v qx qy S t).g=true):
  Std (stM n u v qx qy S t) (mst (some (red n u,red n v)) (some (red n qx,red n qy)) s t):=by
 cases t with
 | false=>exact BQ hp hs h
 | true=>exact Li hp (BQ hp hs (B9 (S:=D9 n u v S) h)) h
theorem H4{N:Nat}{u v qx qy:PN}:∀(l:List Bool)(S:MS),(AE N u v qx qy l S).g=true→S.g=true
 | [],_,h=>h
 | t::l,S,h=>by
  change MS.g (oc _ _)=true at h
  rw[tb]at h
  exact VG (H4 l _ h)
theorem Ct(hp:P3 n){u v qx qy:PN}:∀(l:List Bool)(S:MS)(s:T12 n×Pt n),Std S s→(AE n u v qx qy l S).g=true →
  Std (AE n u v qx qy l S) (l.foldl (mst (some (red n u,red n v)) (some (red n qx,red n qy))) s)
 | [],_,_,hs,_=>hs
 | t::l,S,s,hs,h=>by
  change MS.g (oc _ _)=true at h
  change Std (oc _ _) _
  rw[tb]at h ⊢
  exact Ct hp l _ _ (SU hp hs (H4 l _ h)) h
theorem H5(hp:P3 n){u v qx qy:PN}{l:List Bool}(h:(AE n u v qx qy l ⟨true,qx,qy,jK⟩).g=true):
  (mil (some (red n u,red n v)) (some (red n qx,red n qy)) l).1=bB n (AE n u v qx qy l ⟨true,qx,qy,jK⟩).z:=
 congrArg Prod.fst (Ct hp l ⟨true,qx,qy,jK⟩ (one,some (red n qx,red n qy)) (by rw[Std,tK]) h)
end
end T12
end Go.Proofs.YtndhfbecpghinaaGreat.L.Kf
namespace Go.Proofs.YtndhfbecpghinaaGreat.L
open Go Go.Proofs
set_option maxRecDepth 100000
section
attribute [local irreducible] Code.wp wpList Af bodyPost L.Go
open Num
theorem pm2:Nat.beq (Pr.pm p 381 2 ((p-1)/3)) 1=false:=by decide +kernel
theorem MD:(Kf.K2.bX (Kf.K2.xi:F2))^((p-1)/3)≠1:=by
 intro h
 have e:Kf.K2.bX (Kf.K2.xi:F2)=kp 2:=by decide +kernel
 have h0:=pm2
 have h1:=Pr.tG p 381 2 _ CF
 rw[e]at h
 generalize (p-1)/3=k at h h0 h1
 rw[mO,h,wu]at h1
 rw[h1]at h0
 exact absurd h0 (by decide)
theorem sM:Kf.T6.Tw p where
 p3:=p_3
 cu _ h:=Kf.K2.pP p_3 (by decide +kernel) (by decide +kernel) MD h
 sq t h:=by
  have h1:Kf.K2.gA (Kf.K2.xi:F2)=true:=(Kf.K2.eY p_3).2 ⟨t,h⟩
  rw[Kf.K2.fD p_3,show Kf.K2.bX (Kf.K2.xi:F2)=kp 2 by decide +kernel,UT]at h1
  exact absurd h1 (by decide)
 m6:=by decide +kernel
def m6:Nat:=(p-1)/6
theorem hm6:p=6*m6+1:=by decide +kernel
def gKp:Kf.K2.PN:=(0x1904d3bf02bb0667c231beb4202c0d1f0fd603fd3cbd5f4f7b2443d784bab9c4f67ea53d63e7813d8d0775ed92235fb8,0x00fc3e2b36c4e03288e9e902231f9fb854a14787b6c7b36fec0c8ec971f63c5f282d5ac14d6c7ec22cf78a126ddc4af3)
theorem Hu:gK=Kf.K2.red p gKp:=by decide +kernel
theorem Rs:Kf.K2.pgo p (1,1) m6 379 Kf.K2.vG=gKp:=by decide +kernel
theorem Ht:gK=Kf.K2.pw Kf.K2.xi m6:=by
 have h:=Kf.K2.Sp (n:=p) bZ (1,1) (k:=m6) (f:=379) (by decide +kernel)
 rw[Rs,← Hu]at h
 rw[← h]
 congr 1
def gI:F2:=k2 877076961050607968509681729531255177986764537961432449499635504522207616027455086505066378536590128544573588734230 877076961050607968509681729531255177986764537961432449499635504522207616027455086505066378536590128544573588734230
theorem gK3:Kf.K2.pw (Kf.K2.mul (Kf.K2.conj gK) gK) 3=Kf.K2.neg (Kf.K2.one:F2):=by decide +kernel
theorem h3p:Kf.K2.pw (Kf.K2.mul (Kf.K2.conj (Kf.K2.pw Kf.K2.xi m6)) (Kf.K2.pw Kf.K2.xi m6)) 3=Kf.K2.neg (Kf.K2.one:F2):=by rw[← Ht];exact gK3
theorem rB:Kf.T12.Ps b2c c4 gK gI m6 where
 tw:=sM
 hb:=by decide +kernel
 n2:=no2
 n4:=n4
 nb:=Gh
 hm:=hm6
 hg:=Ht
 gi:=by decide +kernel
 rc:=by decide +kernel
 h3:=h3p
def p6:Nat:=p*p*(p*p)*(p*p)
def aN:Nat:=V [10088250816726084267,4137836090706223446]
def nN:Nat:=(p*p+1)*(aN*(xN*p6+p)*(xN*xN+p*p+p6)+1)
def rN:Nat:=52435875175126190479447740508185965837690552500527637822603658699938581184513
theorem Im:p*p*(p*p)*(p*p)+1∣nN*rN:=Nat.dvd_of_mod_eq_zero (by decide +kernel)
theorem HU:Kf.T12.kbs xB=xN:=by decide +kernel
theorem NM:rN∣Kf.T12.kbs xB+p:=by rw[HU];exact Nat.dvd_of_mod_eq_zero (by decide +kernel)
attribute [local irreducible] Kf.T12.frb Kf.T12.mul Kf.T12.one Kf.T12.conj Kf.T12.inv
theorem pr2(a b:F12):bi [a,b]=Kf.T12.mul a b:=by
 show Kf.T12.mul (Kf.T12.mul Kf.T12.one a) b=_
 rw[Kf.T12.bh]
theorem pr3(a b c:F12):bi [a,b,c]=Kf.T12.mul (Kf.T12.mul a b) c:=by
 show Kf.T12.mul (Kf.T12.mul (Kf.T12.mul Kf.T12.one a) b) c=_
 rw[Kf.T12.bh]
theorem xo(x:F12):frI 1 x=CR.pw x p:=by
 rw[Kf.T12.rE sM hm6,← Ht];rfl
theorem Hj(x:F12):frI 2 x=CR.pw x (p*p):=by
 rw[CR.bN,← xo,← xo];rfl
theorem BN(x:F12):Kf.T12.conj x=CR.pw x p6:=(Kf.T12.ON sM hm6 h3p x).symm
def qH(g:F12):F12:=Kf.T12.mul (frI 2 g) g
def qB(a:F12):F12:=Kf.T12.mul (Kf.T12.conj (CR.pw a xN)) (frI 1 a)
def qC(b:F12):F12:=Kf.T12.mul (Kf.T12.mul (CR.pw (CR.pw b xN) xN) (frI 2 b)) (Kf.T12.conj b)
def xe(g:F12):F12:=Kf.T12.mul (qC (qB (CR.pw (qH g) aN))) (qH g)
theorem pwm(x:F12)(j k:Nat):Kf.T12.mul (CR.pw x j) (CR.pw x k)=CR.pw x (j+k):=(CR.dO x j k).symm
theorem Vr(g:F12):qH g=CR.pw g (p*p+1):=by rw[qH,Hj];rfl
theorem Vp(a:F12):qB a=CR.pw a (xN*p6+p):=by rw[qB,BN,xo,← CR.bN,pwm]
theorem Vq(b:F12):qC b=CR.pw b (xN*xN+p*p+p6):=by rw[qC,BN,Hj,← CR.bN,pwm,pwm]
theorem B1(g:F12):xe g=CR.pw g nN:=by
 rw[xe,Vq,Vp,Vr,← CR.bN,← CR.bN]
 have e:nN=(p*p+1)*(aN*((xN*p6+p)*(xN*xN+p*p+p6)))+(p*p+1):=by
  unfold nN
  rw[Nat.mul_assoc aN,Nat.mul_add_one]
 rw[← CR.bN,pwm,e]
theorem Rg(f:F12):gm f=xe (Kf.T12.qq f):=by
 unfold gm Ei iV lJ uY qI xe qC qB qH
 rw[pr2,pr2,pr2,pr2,pr3];rfl
theorem G9(f:F12):gm f=Kf.T12.fin nN f:=by rw[Rg,B1];rfl
end
section
attribute [local irreducible] Code.wp wpList Af bodyPost L.Go
open Num
def e4:Kf.K2.Pt p:=some (Kf.K2.red p e4x,Kf.K2.red p e4y)
theorem U7{M r L B:Nat}(h1:M∣L)(h2:r*r∣L)(hL:L≠0)(hB:L≤B)(h3:B<3*M)(a1:M%(r*r)≠0)(a2:M*2%(r*r)≠0):False:=by
 obtain⟨k,rfl⟩:=h1
 have hk:k<3:=by
  apply Classical.byContradiction
  intro hc
  have:=Nat.mul_le_mul_left M (Nat.le_of_not_lt hc)
  omega
 have hk0:k≠0:=by rintro rfl;exact hL (Nat.mul_zero M)
 have h4:=Nat.mod_eq_zero_of_dvd h2
 rcases(show k=1∨k=2 by omega)with rfl | rfl
 ·rw[Nat.mul_one]at h4;exact a1 h4
 ·exact a2 h4
theorem Ai{Q:Kf.K2.Pt p}(h:Ok2 Q):∃i,Q=Kf.K2.tim e4 i:=by
 apply Classical.byContradiction
 intro hn
 obtain⟨L,hL,hlen⟩:=Kf.K2.IY p_3 b2c
 have h2:=Kf.K2.vQ p_3 no2 oT h.1 (by intro h;cases h) Pr.pZ Ly h.2 (fun i _ e=>hn ⟨i,e⟩) L hL
 have h0:0<L.length:=List.length_pos_of_mem (hL.all (⟨none,trivial⟩:Kf.K2.Cu b2c))
 exact U7 (CL L hL) h2 (Nat.pos_iff_ne_zero.1 h0) hlen (by decide +kernel) (by decide +kernel) (by decide +kernel)
theorem Dp:xN<2^64:=by decide +kernel
theorem WW:Kf.K2.tim e4 xN=Kf.K2.pn (Kf.K2.psi gI e4):=
 kz (Kf.K2.kW p_3 no2 Od Oe oT Dp (by decide +kernel)) (by decide +kernel) (by decide +kernel) (by decide +kernel)
theorem Uv:Kf.T12.Eg b2c gI xB e4:=⟨oT,by rw[HU];exact WW⟩
theorem xa{Q:Kf.K2.Pt p}(h:Ok2 Q):Kf.T12.Eg b2c gI xB Q:=by
 obtain⟨i,rfl⟩:=Ai h
 exact Kf.T12.zR rB Uv i
def hbX:Kf.K2.PN:=(hbx.val,0)
def hbY:Kf.K2.PN:=(hby.val,0)
theorem th:bn=some (Kf.K2.red p hbX,Kf.K2.red p hbY):=by
 unfold bn em
 exact Kf.K2.bD (by decide +kernel) (by decide +kernel)
theorem dR:Kf.K2.Onc c4 bn:=show Kf.K2.mul (em hby) (em hby)=Kf.K2.add (Kf.K2.mul (Kf.K2.mul (em hbx) (em hbx)) (em hbx)) c4 by decide +kernel
theorem j6:Kf.K2.Rl bn:=show Kf.K2.conj (em hbx)=em hbx∧Kf.K2.conj (em hby)=em hby by decide +kernel
theorem cE:Kf.T12.Rp c4 bn:=⟨dR,j6⟩
theorem Vv:rN<2^255:=by decide +kernel
theorem Cd:Kf.K2.tim bn rN=none:=by
 have ho:=dR
 rw[th]at ho ⊢
 have:=Kf.K2.kW p_3 n4 (qx:=hbX) (qy:=hbY) (by unfold Kf.K2.ltP;decide +kernel) (by unfold Kf.K2.ltP;decide +kernel) ho Vv (by decide +kernel)
 exact this.none_iff.1 (by decide +kernel)
theorem m8(k:Nat):Ok1 (Kf.K2.tim bn k):=
 ⟨Kf.K2.cY p_3 dR k,(Kf.T12.uC rB cE k).2,by
  show Kf.K2.tim _ rN=none
  rw[← Kf.K2.iE p_3 n4 dR,Nat.mul_comm,Kf.K2.iE p_3 n4 dR,Cd,Kf.K2.dU]⟩
theorem iz{Q:Kf.K2.Pt p}(h:Ok2 Q)(k:Nat):Ok2 (Kf.K2.tim Q k):=
 ⟨Kf.K2.cY p_3 h.1 k,by rw[← Kf.K2.iE p_3 no2 h.1,Nat.mul_comm,Kf.K2.iE p_3 no2 h.1,h.2,Kf.K2.dU]⟩
theorem R7{Q R:Kf.K2.Pt p}(h:Ok2 Q)(k:Ok2 R):Ok2 (Kf.K2.pa Q R):=
 ⟨Kf.K2.dk p_3 h.1 k.1,by rw[Kf.K2.wr p_3 no2 h.1 k.1,h.2,k.2];rfl⟩
def pr(P Q:Kf.K2.Pt p):F12:=Kf.T12.er nN xB P Q
def gP2:Kf.K2.PN:=(0,4002409555221667392624310435006688643935503118305586438271171395842971157480381377015405980053539358417135540939436)
def gP3:Kf.K2.PN:=(1028732146235106349975324479215795277384839936929757896155643118032610843298655225875571310552543014690878354869257,1028732146235106349975324479215795277384839936929757896155643118032610843298655225875571310552543014690878354869257)
def gP4:Kf.K2.PN:=(4002409555221667392624310435006688643935503118305586438271171395842971157480381377015405980053539358417135540939437,0)
def gP5:Kf.K2.PN:=(877076961050607968509681729531255177986764537961432449499635504522207616027455086505066378536590128544573588734230,3125332594171059424908108096204648978570118281977575435832422631601824034463382777937621250592425535493320683825557)
def Ap(x:Kf.T12.S12):Kf.T12.S12:=Kf.T12.Hl p gKp gP2 gP3 gP4 gP5 x
theorem ko(x:Kf.T12.S12):Kf.T12.bB p (Ap x)=frI 1 (Kf.T12.bB p x):=by
 have h:=Kf.T12.E7 (n:=p) bZ gKp gP2 gP3 gP4 gP5 (by decide +kernel) (by decide +kernel) (by decide +kernel) (by decide +kernel) x
 rw[← Hu]at h
 exact h
def I3(f:Kf.T12.S12):Kf.T12.S12:=Kf.T12.dS p (Ap (Ap f)) f
def MQ(a:Kf.T12.S12):Kf.T12.S12:=Kf.T12.dS p (Kf.T12.qp p (Kf.T12.ng p a xN 64 Kf.T12.jK)) (Ap a)
def MR(b:Kf.T12.S12):Kf.T12.S12:=Kf.T12.dS p (Kf.T12.dS p (Kf.T12.ng p (Kf.T12.ng p b xN 64 Kf.T12.jK) xN 64 Kf.T12.jK) (Ap (Ap b))) (Kf.T12.qp p b)
def n7(f:Kf.T12.S12):Kf.T12.S12:=
 (fun h=>Kf.T12.fR h ((fun a=>Kf.T12.fR a ((fun b=>Kf.T12.fR b (Kf.T12.dS p (MR b) h)) (MQ a))) (Kf.T12.ng p h aN 127 Kf.T12.jK))) (I3 f)
theorem s7(f:Kf.T12.S12):n7 f=Kf.T12.dS p (MR (MQ (Kf.T12.ng p (I3 f) aN 127 Kf.T12.jK))) (I3 f):=
 (Kf.T12.fB _ _).trans ((Kf.T12.fB _ _).trans (Kf.T12.fB _ _))
attribute [local irreducible] Kf.T12.frb Kf.T12.mul Kf.T12.one Kf.T12.conj Kf.T12.inv Kf.T12.dS Kf.T12.ng Kf.T12.qp Ap
theorem Hi(x:F12):frI 2 x=frI 1 (frI 1 x):=by rw[Hj,xo,xo,CR.bN]
theorem Ua:aN<2^127:=by decide +kernel
theorem Ja(f:Kf.T12.S12):Kf.T12.bB p (I3 f)=qH (Kf.T12.bB p f):=by
 rw[I3,qH,Kf.T12.dh bZ,ko,ko,Hi]
theorem SA(f:Kf.T12.S12):Kf.T12.bB p (MQ f)=qB (Kf.T12.bB p f):=by
 rw[MQ,qB,Kf.T12.dh bZ,ko,Kf.T12.rF bZ,Kf.T12.nr bZ _ Dp]
theorem SB(f:Kf.T12.S12):Kf.T12.bB p (MR f)=qC (Kf.T12.bB p f):=by
 rw[MR,qC,Kf.T12.dh bZ,Kf.T12.dh bZ,ko,ko,Hi,Kf.T12.rF bZ,Kf.T12.nr bZ _ Dp,Kf.T12.nr bZ _ Dp]
theorem I9(f:Kf.T12.S12):Kf.T12.bB p (n7 f)=xe (Kf.T12.bB p f):=by
 rw[s7,xe,Kf.T12.dh bZ,SB,SA,Ja,← Ja,Kf.T12.nr bZ _ Ua]
def H3:Kf.T12.MS:=Kf.T12.AE p hbX hbY e4x e4y xB ⟨true,e4x,e4y,Kf.T12.jK⟩
theorem RO:H3.g=true:=by decide +kernel
theorem RN:Kf.K2.isz (n7 H3.z).b=false:=by decide +kernel
theorem VM{x:F2}(h:Kf.K2.neg x=x):x=Kf.K2.zero:=by
 apply Classical.byContradiction
 intro hx
 have h2:=Kf.K2.gj p_3 hx
 apply h2
 have h3:=Kf.K2.add_neg' x
 rw[h]at h3
 exact h3
theorem wZ(x:F12):∀k,Kf.T12.conj (CR.pw x k)=CR.pw (Kf.T12.conj x) k
 | 0=>Kf.T12.fZ
 | k+1=>by
  have h:=wZ x k
  show Kf.T12.conj (Kf.T12.mul (CR.pw x k) x)=_
  rw[Kf.T12.aY,h];rfl
theorem Am{m:F12}(hm:m≠Kf.T12.zero)(h:Kf.T12.fin nN (Kf.T12.conj m)=Kf.T12.one):Kf.T12.conj (xe m)=xe m:=by
 have hc:=Kf.T12.jk sM hm
 have e:Kf.T12.mul (Kf.T12.qq (Kf.T12.conj m)) (Kf.T12.conj m)=m:=by
  rw[Kf.T12.qq,Kf.T12.eq,Kf.T12.mul_assoc',Kf.T12.mul_comm' (Kf.T12.inv _),Kf.T12.aI sM hc,Kf.T12.am]
 rw[B1,wZ]
 have e2:=CR.ef (Kf.T12.qq (Kf.T12.conj m)) (Kf.T12.conj m) nN
 change CR.pw (Kf.T12.mul (Kf.T12.qq (Kf.T12.conj m)) (Kf.T12.conj m)) nN=Kf.T12.mul (Kf.T12.fin nN (Kf.T12.conj m)) _ at e2
 rw[e,h,Kf.T12.bh]at e2
 exact e2.symm
theorem Me:(Kf.T12.mil bn e4 xB).1=Kf.T12.bB p H3.z:=by
 rw[th]
 exact Kf.T12.H5 p_3 RO
theorem Ih{N:Nat}(h0:0<N)(x y:Kf.T12.S12):Kf.K2.ltP N (Kf.T12.dS N x y).b:=by unfold Kf.T12.dS;exact Kf.K2.AC h0 _ _
theorem Ej(f:Kf.T12.S12):Kf.K2.ltP p (n7 f).b:=by
 rw[s7]
 exact Ih bZ _ _
theorem OL:pr bn e4≠Kf.T12.one:=by
 intro h
 have hm:(Kf.T12.mil bn e4 xB).1≠Kf.T12.zero:=(Kf.T12.vw rB dR oT xB).1
 have h1:=Am hm h
 rw[Me,← I9]at h1
 have h2:Kf.K2.neg (Kf.K2.red p (n7 H3.z).b)=Kf.K2.red p (n7 H3.z).b:=by
  have:=congrArg (fun z:F12=>z.b.a) h1
  unfold Kf.T12.conj Kf.T12.bB Kf.T6.neg at this
  exact this
 have h3:=(Kf.K2.dW (Ej _)).2 (VM h2)
 rw[RN]at h3
 cases h3
end
section
attribute [local irreducible] Code.wp wpList Af bodyPost L.Go
open Num
attribute [local irreducible] Kf.T12.frb Kf.T12.mul Kf.T12.one Kf.T12.conj Kf.T12.inv CR.pw bi
theorem A0{y:F12}(hy:y≠Kf.T12.one)(hr:CR.pw y rN=Kf.T12.one){i j:Nat}(h:CR.pw y i=CR.pw y j):i%rN=j%rN:=by
 have hs:i*(rN-1)+i=rN*i:=by
  have:rN-1+1=rN:=by decide +kernel
  rw[← Nat.mul_add_one,this,Nat.mul_comm]
 have h1:CR.pw y (j+i*(rN-1))=Kf.T12.one:=by
  rw[← pwm,← h,pwm,Nat.add_comm,hs,CR.bN,hr,Kf.T12.ek]
 obtain⟨t,ht⟩:=Kf.T12.I1 Pr.pZ hr hy h1
 change j+i*(rN-1)=rN*t at ht
 have h2:j+rN*i=i+rN*t:=by
  omega
 have h3:=congrArg (· % rN) h2
 simp only[Nat.add_mul_mod_self_left]at h3
 exact h3.symm
theorem Dd{b:F2}(h2:Kf.K2.No2 b){Q:Kf.K2.Pt p}(ho:Kf.K2.Onc b Q)(hr:Kf.K2.tim Q rN=none)(i:Nat):Kf.K2.tim Q i=Kf.K2.tim Q (i%rN):=by
 have h:rN*(i/rN)+i%rN=i:=Nat.div_add_mod _ _
 have h1:Kf.K2.tim Q (rN*(i/rN)+i%rN)=Kf.K2.tim Q (i%rN):=by
  rw[Kf.K2.fk p_3 h2 ho,Kf.K2.iE p_3 h2 ho,hr,Kf.K2.dU];rfl
 rw[h]at h1
 exact h1
theorem zb{b:F2}(h2:Kf.K2.No2 b){Q:Kf.K2.Pt p}(ho:Kf.K2.Onc b Q)(hr:Kf.K2.tim Q rN=none){i j:Nat}(h:i%rN=j%rN):Kf.K2.tim Q i=Kf.K2.tim Q j:=by
 rw[Dd h2 ho hr i,h,← Dd h2 ho hr j]
theorem Sm{P Q:Kf.K2.Pt p}(hP:Kf.T12.Rp c4 P)(hQ:Ok2 Q):CR.pw (pr P Q) rN=Kf.T12.one:=Kf.T12.WX rB Im hP.1 hQ.1
theorem nk{P Q:Kf.K2.Pt p}(hP:Kf.T12.Rp c4 P)(hQ:Ok2 Q)(k:Nat):pr P (Kf.K2.tim Q k)=CR.pw (pr P Q) k:=Kf.T12.BX rB Im NM hP (xa hQ) k
theorem CJ{P Q:Kf.K2.Pt p}(hP:Kf.T12.Rp c4 P)(hQ:Ok2 Q)(k:Nat):pr (Kf.K2.tim P k) Q=CR.pw (pr P Q) k:=Kf.T12.BW rB Im NM hP (xa hQ) k
theorem MG{P Q R:Kf.K2.Pt p}(hP:Kf.T12.Rp c4 P)(hQ:Ok2 Q)(hR:Ok2 R):pr P (Kf.K2.pa Q R)=Kf.T12.mul (pr P Q) (pr P R):=Kf.T12.BV rB Im NM hP (xa hQ) (xa hR)
theorem rq:Ok2 e4:=⟨oT,Ly⟩
theorem IN{S T:Kf.K2.Pt p}(hS:Ok2 S)(hT:Ok2 T)(h:pr bn S=pr bn T):S=T:=by
 obtain⟨i,rfl⟩:=Ai hS
 obtain⟨j,rfl⟩:=Ai hT
 rw[nk cE rq,nk cE rq]at h
 exact zb no2 oT Ly (A0 OL (Sm cE rq) h)
theorem CI(P:Kf.K2.Pt p):pr P none=Kf.T12.one:=Kf.T12.Oo rB P
theorem xY:Ok2 none:=⟨trivial,Kf.K2.dU _⟩
theorem wT{i j:Nat}(h:Kf.K2.tim bn i=Kf.K2.tim bn j):i%rN=j%rN:=by
 have h2:=congrArg (fun P=>pr P e4) h
 simp only[CJ cE rq]at h2
 exact A0 OL (Sm cE rq) h2
theorem ND{H:Kf.K2.Pt p}(hH:Ok2 H)(hn:H≠none){i j:Nat}(h:Kf.K2.tim H i=Kf.K2.tim H j):i%rN=j%rN:=by
 have h2:=congrArg (pr bn) h
 rw[nk cE hH,nk cE hH]at h2
 exact A0 (fun e=>hn (IN hH xY (e.trans (CI _).symm))) (Sm cE hH) h2
theorem JT{H K:Kf.K2.Pt p}(hH:Ok2 H)(hK:Ok2 K){k:Nat}(hk:¬rN∣k)(h:Kf.K2.tim H k=Kf.K2.tim K k):H=K:=by
 obtain⟨t,ht⟩:=Pr.AG.ve Pr.pZ hk
 have h1:∀{Q:Kf.K2.Pt p},Ok2 Q→Kf.K2.tim (Kf.K2.tim Q k) t=Q:=fun hQ=>by
  rw[← Kf.K2.iE p_3 no2 hQ.1,zb no2 hQ.1 hQ.2 (j:=1) (show k*t%rN=1%rN from ht.trans (by decide +kernel))];rfl
 rw[← h1 hH,← h1 hK,h]
def prs:List (Kf.K2.Pt p)→List (Kf.K2.Pt p)→F12
 | P::ps,Q::qs=>Kf.T12.mul (pr P Q) (prs ps qs)
 | _,_=>Kf.T12.one
theorem xg:∀(ps qs:List (Kf.K2.Pt p))(f:F12),f≠Kf.T12.zero→(∀P∈ps,Kf.T12.Rp c4 P)→(∀Q∈qs,Ok2 Q)→Kf.T12.fin nN (ee ps qs f)=Kf.T12.mul (Kf.T12.fin nN f) (prs ps qs)
 | [],_,_,_,_,_=>(Kf.T12.am _).symm
 | _::_,[],_,_,_,_=>(Kf.T12.am _).symm
 | P::ps,Q::qs,f,hf,hP,hQ=>by
  have hm:=Kf.T12.jk sM (Kf.T12.vw rB (hP P (by simp)).1 (hQ Q (by simp)).1 xB).1
  rw[ee,pr2,xg ps qs _ (Kf.T12.bQ sM hf hm) (fun P h=>hP P (by simp[h])) (fun Q h=>hQ Q (by simp[h])),Kf.T12.dt sM hf hm,Kf.T12.mul_assoc'];rfl
def Bl:List (Nat×Kf.K2.Pt p)→Kf.K2.Pt p
 | []=>none
 | (a,H)::l=>Kf.K2.pa (Kf.K2.tim H a) (Bl l)
theorem wo:∀{l:List (Nat×Kf.K2.Pt p)},(∀x∈l,Ok2 x.2)→Ok2 (Bl l)
 | [],_=>xY
 | (a,H)::_,h=>R7 (iz (h (a,H) (by simp)) a) (wo fun x hx=>h x (by simp[hx]))
theorem CK(S:Kf.K2.Pt p):∀(l:List (Nat×Kf.K2.Pt p)),(∀x∈l,Ok2 x.2) →
  prs (l.map (fun x=>Kf.K2.tim bn x.1)++[Kf.K2.pn bn]) (l.map (fun x=>x.2)++[S])=Kf.T12.mul (pr bn (Bl l)) (pr (Kf.K2.pn bn) S)
 | [],_=>by
  show Kf.T12.mul (pr _ S) Kf.T12.one=_
  rw[Bl,CI,Kf.T12.am,Kf.T12.bh]
 | (a,H)::l,h=>by
  have hH:Ok2 H:=h (a,H) (by simp)
  have hl:=fun x hx=>h x (List.mem_cons_of_mem _ hx)
  show Kf.T12.mul (pr (Kf.K2.tim bn a) H) (prs (l.map _++_) (l.map _++_))=_
  rw[CK S l hl,Bl,MG cE (iz hH a) (wo hl),CJ cE hH,nk cE hH,Kf.T12.mul_assoc']
theorem Vi:Kf.T12.Rp c4 (Kf.K2.pn bn):=⟨Kf.K2.cI dR,Kf.K2.F7 j6⟩
theorem pk0:bi []=(Kf.T12.one:F12):=by unfold bi;rfl
theorem J5{l:List (Nat×Kf.K2.Pt p)}(h:∀x∈l,Ok2 x.2){S:Kf.K2.Pt p}(hS:Ok2 S):
  gm (ee (l.map (fun x=>Kf.K2.tim bn x.1)++[Kf.K2.pn bn]) (l.map (fun x=>x.2)++[S]) (bi []))=Kf.T12.one↔S=Bl l:=by
 rw[G9,xg _ _ _ (by rw[pk0];exact Kf.T12.cK sM),CK S l h,pk0,Kf.T12.eX sM,Kf.T12.bh]
 ·have hi:Kf.T12.mul (pr (Kf.K2.pn bn) S) (pr bn S)=Kf.T12.one:=Kf.T12.Q9 rB Im NM cE (xa hS)
  constructor
  ·intro e
   refine IN hS (wo h) ?_
   rw[← Kf.T12.bh (pr bn S),← e,Kf.T12.mul_assoc',hi,Kf.T12.am]
  ·intro e
   rw[← e,Kf.T12.mul_comm',hi]
 ·intro P hP
  rcases List.mem_append.1 hP with hP | hP
  ·obtain⟨x,_,rfl⟩:=List.mem_map.1 hP
   exact Kf.T12.uC rB cE x.1
  ·rw[List.mem_singleton.1 hP];exact Vi
 ·intro Q hQ
  rcases List.mem_append.1 hQ with hQ | hQ
  ·obtain⟨x,hx,rfl⟩:=List.mem_map.1 hQ
   exact h x hx
  ·rw[List.mem_singleton.1 hQ];exact hS
end
section
attribute [local irreducible] Code.wp wpList Af bodyPost L.Go
open Num
attribute [local simp] ae aD
theorem x8{a:Nat}(ha:a<W^6):Spec Tryz.prog 119 [LV .u64 (D 6 a)] ai [] (IsV (LV .u8 (bq (a%p) 48))):=by
 refine ad Tryz.func119 rfl rfl rfl fun w _=>?_
 have hla:=ae 6 a
 have hl1:=ae 6 (a%p)
 have hol:=aD (a%p) 48
 have hv:=eU (oW a)
 have htk:(bq (a%p) 48).take 48=bq (a%p) 48:=List.take_of_length_le (by omega)
 repeat (first|refine ar (v:=LV .u8 (List.replicate 48 0)) (by rfl) (by rfl) fun _=>?_|refine y_4 (bS ha) ?_|((refine ax (by rfl) (by rfl) (by rfl) (oY _ (D 6 (a%p)) 48 (dv _ _) (by omega) (by decide)) .nil (RdW.arrAll (m:=6) fd hl1) (by rfl) ?_;rintro u _ rfl);rw[hv])|rw[htk]|refine Ww ?_|refine Z81 fun _=>?_|refine Z82 fun _=>?_)
 refine Zec fun _ hw=>aa hw SubW.nil ⟨?_,rfl⟩
 rfl
theorem AU(s:Value)(bs:List Nat)(hb:Lt 256 bs)(h:bs.length=48)(hlt:bA bs<p):
  Spec Tryz.prog 93 [s] (fun w=>Rd w s (bs.map (N .u8))) [] (IsV (.tuple #[LV .u64 (D 6 (bA bs)),N .i64 0])):=by
 refine ad Tryz.func93 rfl rfl rfl fun w hr=>?_
 have hr:=RdC.mk0 hr
 have hdl:=ae 6 (bA bs)
 have hfit:=kX hb
 rw[h,show(48+7)/8=6 from rfl]at hfit
 have hdm:=ae 6 (bA bs%p)
 have htk:(D 6 (bA bs)).take 6=D 6 (bA bs):=List.take_of_length_le (by omega)
 have he:(!decide (D 6 (bA bs%p)=D 6 (bA bs)))=false:=by rw[Nat.mod_eq_of_lt hlt];simp
 repeat (first|(refine cM ?_;intro _)|refine y_5 ?_|((refine ax (by rfl) (by rfl) (by rfl) (ik s bs hb (by omega)) .nil (RdW.old hr) (by rfl) ?_;rintro u _ rfl);rw[h,show(48+7)/8=6 from rfl])|rw[htk]|refine NR ?_|refine Z82 fun _=>?_)
 refine R.ag [0,1,2,3] (by rfl) ?_
 repeat (first|(refine R.Zpf (by rfl) (by intro _ _ _;(first|refine Wy ?_);exact Zq) ?_)|refine Wz ?_|refine ah (bS hfit) ?_|refine aA ?_|(refine Bw ?_;intro _))
 refine R.Zp0 ?_
 repeat (first|rw[he]|refine NR ?_|refine Z82 fun _=>?_)
 refine aJ (by rfl) (by rfl) (by rfl) fd (by rfl) (by rfl) (by first | with_reducible assumption | (simp[*];done)) fun _ hw=>aa hw SubW.nil ⟨?_,rfl⟩
 rfl
end
end Go.Proofs.YtndhfbecpghinaaGreat.L
