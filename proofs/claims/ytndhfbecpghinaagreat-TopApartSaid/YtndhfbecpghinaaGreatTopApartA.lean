/- What the proof of the statement about TopApart stands on, part A. Conditions: as each statement says. -/
import Derived.Below
import Derived.Laws.Externs
import Derived.Laws.StructEq
import Derived.Orders
import Derived.Tactics
import Derived.WalkKit
namespace Go.Proofs.YtndhfbecpghinaaGreat.L
open Go Go.Proofs
set_option maxRecDepth 100000
abbrev Sl:=List (Nat×Value)
theorem iJ{i j:Nat}(h:¬i=j):Nat.beq i j=false:=by
 cases hb:Nat.beq i j
 ·rfl
 ·exact absurd (Nat.eq_of_beq_eq_true hb) h
theorem RW{i j:Nat}(h:Nat.beq i j=false):¬i=j:=by
 intro e;subst e
 have:Nat.beq i i=true:=Nat.beq_refl i
 rw[this]at h;cases h
theorem AD{i j:Nat}(h:Nat.blt i j=true):i<j:=Nat.le_of_ble_eq_true h
def lk:Sl→Nat→Option Value
 | [],_=>none
 | (t,v)::r,u=>cond (Nat.beq t u) (some v) (lk r u)
def ev(l:Sl):Operand→Option Value
 | .tmp t=>lk l t
 | .const v=>some v
 | .global g=>some (.pointer (some ⟨g,0,none⟩))
 | .func f=>some (.func (.func f) #[] #[])
def evs(l:Sl):List Operand→Option (List Value)
 | []=>some []
 | o::r=>match ev l o,evs l r with
  | some v,some vs=>some (v::vs)
  | _,_=>none
theorem evc{l:Sl}{k:IntKind}{n:Nat}:ev l (.const (.int k (@OfNat.ofNat Int n _)))=some (.int k (Int.ofNat (@OfNat.ofNat Nat n _))):=rfl
structure Nn where
 sz:Nat
 df:List Deferred
structure SatA (n:Nn) (l:Sl) (a:Act):Prop where
 dfr:a.defers=n.df
 sz:a.tmps.size=n.sz
 at_:∀t v,lk l t=some v→a.tmps[t]?=some v
theorem SatA.ev{n:Nn}{l:Sl}{a:Act}(h:SatA n l a){x:Operand}{v:Value}(hv:ev l x=some v):a.eval x=v:=by
 cases x with
 | tmp t=>
  have:=h.at_ t v hv
  simp only[Act.eval]
  rw[Array.getD_eq_getD_getElem?,this];rfl
 | const u=>simpa[L.ev,Act.eval]using hv
 | global g=>simpa[L.ev,Act.eval]using hv
 | func f=>simpa[L.ev,Act.eval]using hv
theorem SatA.evs{n:Nn}{l:Sl}{a:Act}(h:SatA n l a):∀{xs:List Operand}{vs:List Value},evs l xs=some vs→xs.map a.eval=vs
 | [],vs,hv=>by simpa[L.evs]using hv
 | x::r,vs,hv=>by
  simp only[L.evs]at hv
  split at hv
  ·rename_i v us hx hr
   simp only[Option.some.injEq]at hv
   subst hv
   simp[h.ev hx,SatA.evs h hr]
  ·simp at hv
theorem SatA.put{n:Nn}{l:Sl}{a:Act}(h:SatA n l a){d:Nat}{v:Value}(hd:Nat.blt d n.sz=true):SatA n ((d,v)::l) (a.put (some d) v):=by
 have hd':d<n.sz:=AD hd
 refine⟨h.dfr,by simp[Act.put,h.sz],fun t u ht=>?_⟩
 simp only[lk]at ht
 simp only[Act.put]
 by_cases hc:d=t
 ·subst hc
  simp at ht
  subst ht
  simp[h.sz,hd']
 ·have:Nat.beq d t=false:=iJ hc
  rw[this]at ht
  rw[Array.getElem?_setIfInBounds_ne hc]
  exact h.at_ t u ht
def me(l' l:Sl):Prop:=∀t v,lk l' t=some v→lk l t=some v
theorem me.nil(l:Sl):me [] l:=fun _ _ h=>by simp[lk]at h
theorem me.cons{l' l:Sl}{t:Nat}{v:Value}(h:lk l t=some v)(hs:me l' l):me ((t,v)::l') l:=by
 intro u x hx
 simp only[lk]at hx
 by_cases hc:t=u
 ·subst hc
  simp at hx
  subst hx;exact h
 ·have:Nat.beq t u=false:=iJ hc
  rw[this]at hx
  exact hs u x hx
theorem SatA.sub{n:Nn}{l l':Sl}{a:Act}(h:SatA n l a)(hs:me l' l):SatA n l' a:=
 ⟨h.dfr,h.sz,fun t v ht=>h.at_ t v (hs t v ht)⟩
structure Ext (S:List Nat) (w w':World):Prop where
 os:w'.os=w.os
 tape:w'.tape=w.tape
 output:w'.output=w.output
 size:w.heap.size≤w'.heap.size
 block:∀k,k<w.heap.size→k∉S→w'.heap[k]?=w.heap[k]?
theorem Ext.refl(S:List Nat)(w:World):Ext S w w:=⟨rfl,rfl,rfl,Nat.le_refl _,fun _ _ _=>rfl⟩
theorem Ext.trans{S T:List Nat}{a b c:World}(h:Ext S a b)(k:Ext T b c)(hT:∀x∈T,a.heap.size≤x∨x∈S):Ext S a c:=
 ⟨k.os.trans h.os,k.tape.trans h.tape,k.output.trans h.output,Nat.le_trans h.size k.size,fun i hi hs=>
  (k.block i (Nat.lt_of_lt_of_le hi h.size) (fun hm=>by rcases hT i hm with h1 | h1;omega;exact hs h1)).trans (h.block i hi hs)⟩
theorem Ext.below{w w':World}(h:Ext [] w w'):RowKit.Below w.heap.size w w':=
 ⟨h.os,h.tape,h.output,h.size,fun k hk=>h.block k hk (by simp)⟩
theorem Ext.drawn{S:List Nat}{w w':World}(h:Ext S w w')(k:Nat):Ext S w { w' with drawn:=k }:=
 ⟨h.os,h.tape,h.output,h.size,h.block⟩
inductive Res where
 | blk (b:Nat) (v:Value) (T:TypeId)
 | sl (s:Value) (xs:List Value) (T:TypeId)
 | ob (b:Nat) (o:Obj)
def Res.fp:Res→List Nat
 | .blk b _ _=>[b]
 | .sl (.slice (some a) _ _) _ _=>[a.block]
 | .sl _ _ _=>[]
 | .ob b _=>[b]
structure SlAt (h:Array Obj) (s:Value) (xs:List Value) (T:TypeId) (b off cap:Nat) (pre post:List Value) (fz:Nat×Nat):Prop where
 val:s = .slice (some ⟨b,off,none⟩) xs.length cap
 len:xs.length≤cap
 room:cap≤xs.length+post.length
 poff:pre.length=off
 blk:h[b]?=some (.cells (pre++xs++post).toArray T fz)
 fzo:fz.1≠fz.2→(pre++xs++post).length≤fz.1
def Res.holds:Res→World→Prop
 | .blk b v T,w=>w.heap[b]?=some (.cells v.cells T (0,0))
 | .sl s xs T,w=>(s = .slice none 0 0∧xs=[])∨∃b off cap pre post fz,SlAt w.heap s xs T b off cap pre post fz
 | .ob b o,w=>w.heap[b]?=some o
theorem Res.fp_lt{r:Res}{w:World}(h:r.holds w):∀b∈r.fp,b<w.heap.size:=by
 intro b hb
 cases r with
 | blk b' v T=>
  simp only[Res.fp,List.mem_singleton]at hb;subst hb
  simp only[Res.holds]at h
  rcases Nat.lt_or_ge b w.heap.size with h1 | h1
  ·exact h1
  ·rw[Array.getElem?_eq_none h1]at h;simp at h
 | sl s xs T=>
  rcases h with⟨rfl,_⟩ | ⟨b',off,cap,pre,post,fz,hs⟩
  ·simp[Res.fp]at hb
  ·obtain⟨rfl,h1,h2,h3,h4,h5⟩:=hs
   simp only[Res.fp,List.mem_singleton]at hb;subst hb
   rcases Nat.lt_or_ge b w.heap.size with h1 | h1
   ·exact h1
   ·rw[Array.getElem?_eq_none h1]at h4;simp at h4
 | ob b' o=>
  simp only[Res.fp,List.mem_singleton]at hb;subst hb
  simp only[Res.holds]at h
  rcases Nat.lt_or_ge b w.heap.size with h1 | h1
  ·exact h1
  ·rw[Array.getElem?_eq_none h1]at h;simp at h
theorem Res.holds_congr{r:Res}{w w':World}(h:r.holds w)(he:∀b∈r.fp,w'.heap[b]?=w.heap[b]?):r.holds w':=by
 cases r with
 | blk b v T=>simp only[Res.holds,Res.fp,List.mem_singleton,forall_eq]at h he ⊢;rw[he];exact h
 | sl s xs T=>
  rcases h with h | ⟨b',off,cap,pre,post,fz,hs⟩
  ·exact .inl h
  ·obtain⟨rfl,h1,h2,h3,h4,h5⟩:=hs
   simp only[Res.fp,List.mem_singleton,forall_eq]at he
   exact .inr ⟨b',off,cap,pre,post,fz,rfl,h1,h2,h3,by rw[he];exact h4,h5⟩
 | ob b o=>simp only[Res.holds,Res.fp,List.mem_singleton,forall_eq]at h he ⊢;rw[he];exact h
def fps(W:List Res):List Nat:=W.flatMap Res.fp
structure Cx where
 w0:World
 S:List Nat
structure SatW (c:Cx) (W:List Res) (w:World):Prop where
 ext:Ext c.S c.w0 w
 holds:∀r∈W,r.holds w
 own:∀b∈fps W,c.w0.heap.size≤b∨b∈c.S
 nd:(fps W).Nodup
theorem SatW.lt{c:Cx}{W:List Res}{w:World}(h:SatW c W w):∀b∈fps W,b<w.heap.size:=by
 intro b hb
 obtain⟨r,hr,hb⟩:=List.mem_flatMap.1 hb
 exact Res.fp_lt (h.holds r hr) b hb
theorem SatW.perm{c:Cx}{W W':List Res}{w:World}(h:SatW c W w)(p:W.Perm W'):SatW c W' w:=by
 have hp:(fps W).Perm (fps W'):=p.flatMap_right _
 exact⟨h.ext,fun r hr=>h.holds r (p.mem_iff.2 hr),fun b hb=>h.own b (hp.mem_iff.2 hb),hp.nodup_iff.1 h.nd⟩
theorem SatW.drop{c:Cx}{r:Res}{W:List Res}{w:World}(h:SatW c (r::W) w):SatW c W w:=
 ⟨h.ext,fun x hx=>h.holds x (List.mem_cons_of_mem _ hx),fun b hb=>h.own b (by simp only[fps,List.flatMap_cons,List.mem_append];exact .inr hb),
  by have:=h.nd;simp only[fps,List.flatMap_cons]at this;exact(List.nodup_append.1 this).2.1⟩
theorem SatW.drawn{c:Cx}{W:List Res}{w:World}(h:SatW c W w)(k:Nat):SatW c W { w with drawn:=k }:=
 ⟨h.ext.drawn k,fun r hr=>Res.holds_congr (h.holds r hr) (fun _ _=>rfl),h.own,h.nd⟩
inductive Find:List Res→Res→List Res→Prop
 | here {r:Res} {W:List Res}:Find (r::W) r W
 | there {r x:Res} {W R:List Res} (h:Find W r R):Find (x::W) r (x::R)
theorem Find.perm{W R:List Res}{r:Res}(h:Find W r R):W.Perm (r::R):=by
 induction h with
 | here=>exact .refl _
 | there h ih=>exact(ih.cons _).trans (.swap _ _ _)
theorem Find.mem{W R:List Res}{r:Res}(h:Find W r R):r∈W:=h.perm.mem_iff.2 (List.mem_cons_self ..)
inductive SubW:List Res→List Res→Prop
 | nil {W:List Res}:SubW [] W
 | cons {r:Res} {W' W R:List Res} (h:Find W r R) (hs:SubW W' R):SubW (r::W') W
theorem fd{W R:List Res}{r:Res}(h:Find W r R:=by repeat first|apply Find.here|apply Find.there):Find W r R:=h
theorem sw{A B:List Res}(h:SubW A B:=by repeat first|apply SubW.nil|refine SubW.cons (by repeat first|apply Find.here|apply Find.there) ?_):SubW A B:=h
theorem sbq{a b:Sl}(h:me a b:=by repeat first|apply me.nil|refine me.cons (by rfl) ?_):me a b:=h
theorem SatW.sub{c:Cx}{W W':List Res}{w:World}(h:SatW c W w)(hs:SubW W' W):SatW c W' w:=by
 induction hs generalizing w with
 | nil=>
  exact⟨h.ext,fun r hr=>by simp at hr,fun b hb=>by simp[fps]at hb,by simp[fps]⟩
 | cons hf hs ih=>
  rename_i r W' W R
  have h1:=h.perm hf.perm
  have h2:=ih h1.drop
  refine⟨h2.ext,?_,?_,?_⟩
  ·intro x hx
   rcases List.mem_cons.1 hx with rfl | hx
   ·exact h1.holds _ (List.mem_cons_self ..)
   ·exact h2.holds x hx
  ·intro b hb
   simp only[fps,List.flatMap_cons,List.mem_append]at hb
   rcases hb with hb | hb
   ·exact h1.own b (by simp only[fps,List.flatMap_cons,List.mem_append];exact .inl hb)
   ·exact h2.own b hb
  ·have hn:=h1.nd
   simp only[fps,List.flatMap_cons]at hn ⊢
   obtain⟨n1,_,n3⟩:=List.nodup_append.1 hn
   refine List.nodup_append.2 ⟨n1,h2.nd,fun x hx y hy=>?_⟩
   refine n3 x hx y ?_
   have:∀{A B:List Res},SubW A B→∀y∈fps A,y∈fps B:=by
    intro A B hab
    induction hab with
    | nil=>intro y hy;simp[fps]at hy
    | cons hf _ ih=>
     intro y hy
     have hp:=(hf.perm.flatMap_right Res.fp).mem_iff (a:=y)
     simp only[fps,List.flatMap_cons,List.mem_append]at hy hp ⊢
     exact hp.2 (hy.imp id (fun q=>ih y q))
   exact this hs y hy
theorem SatW.alloc{c:Cx}{W:List Res}{w:World}(h:SatW c W w){o:Obj}{r:Res}(hfp:r.fp=[w.heap.size])
  (hr:r.holds { w with heap:=w.heap.push o }):SatW c (r::W) { w with heap:=w.heap.push o }:=by
 have hlt:=h.lt
 refine⟨h.ext.trans (T:=[]) ⟨rfl,rfl,rfl,by simp,fun k hk _=>?_⟩ (by simp),?_,?_,?_⟩
 ·show(w.heap.push o)[k]?=_
  rw[Array.getElem?_push,if_neg (by omega)]
 ·intro x hx
  rcases List.mem_cons.1 hx with rfl | hx
  ·exact hr
  ·refine Res.holds_congr (h.holds x hx) fun b hb=>?_
   have:=Res.fp_lt (h.holds x hx) b hb
   show(w.heap.push o)[b]?=_
   rw[Array.getElem?_push,if_neg (by omega)]
 ·intro b hb
  simp only[fps,List.flatMap_cons,List.mem_append,hfp,List.mem_singleton]at hb
  rcases hb with rfl | hb
  ·exact .inl h.ext.size
  ·exact h.own b hb
 ·simp only[fps,List.flatMap_cons,hfp]
  refine List.nodup_append.2 ⟨by simp,h.nd,fun x hx y hy=>?_⟩
  simp only[List.mem_singleton]at hx;subst hx
  have:=hlt y hy;omega
theorem SatW.upd{c:Cx}{r r':Res}{W:List Res}{w w':World}(h:SatW c (r::W) w)(hfp:r'.fp=r.fp)(he:Ext r.fp w w')
  (hr:r'.holds w'):SatW c (r'::W) w':=by
 have hn:=h.nd
 simp only[fps,List.flatMap_cons]at hn
 obtain⟨n1,n2,n3⟩:=List.nodup_append.1 hn
 refine⟨h.ext.trans he (fun x hx=>h.own x (by simp only[fps,List.flatMap_cons,List.mem_append];exact .inl hx)),?_,?_,?_⟩
 ·intro x hx
  rcases List.mem_cons.1 hx with rfl | hx
  ·exact hr
  ·refine Res.holds_congr (h.holds x (List.mem_cons_of_mem _ hx)) fun b hb=>?_
   refine he.block b (Res.fp_lt (h.holds x (List.mem_cons_of_mem _ hx)) b hb) fun hb'=>?_
   exact n3 b hb' b (List.mem_flatMap.2 ⟨x,hx,hb⟩) rfl
 ·intro b hb
  refine h.own b ?_
  simpa only[fps,List.flatMap_cons,hfp]using hb
 ·simpa only[fps,List.flatMap_cons,hfp]using h.nd
theorem SatW.ext_other{c:Cx}{W:List Res}{w w':World}(h:SatW c W w){S:List Nat}(he:Ext S w w')(hS:∀x∈S,c.w0.heap.size≤x∨x∈c.S)
  (hd:∀x∈S,x∉fps W):SatW c W w':=
 ⟨h.ext.trans he hS,fun r hr=>Res.holds_congr (h.holds r hr) fun b hb=>he.block b (Res.fp_lt (h.holds r hr) b hb) (fun hs=>hd b hs (List.mem_flatMap.2 ⟨r,hr,hb⟩)),h.own,h.nd⟩
theorem SatW.ext0{c:Cx}{W:List Res}{w w':World}(h:SatW c W w)(he:Ext [] w w'):SatW c W w':=
 h.ext_other he (by simp) (by simp)
def Go(c:Cx)(n:Nn)(l:Sl)(W:List Res)(φ:Act→World→Prop):Prop:=∀a w,SatA n l a→SatW c W w→φ a w
inductive Fr where
 | seq (y:Code)
 | blk (id:Nat)
 | inv (J:Act→World→Prop)
def Af(P:Program)(B:Exit→Act→World→Prop):List Fr→Exit→Act→World→Prop
 | [],e=>B e
 | .seq y::k,.normal=>y.wp P (Af P B k)
 | .seq _::k,e=>Af P B k e
 | .blk _::k,.normal=>Af P B k .normal
 | .blk id::k,.exit id'=>fun a w=>(id'=id→Af P B k .normal a w)∧(¬id'=id→Af P B k (.exit id') a w)
 | .blk _::k,e=>Af P B k e
 | .inv J::_,.normal=>J
 | .inv _::k,e=>Af P B k e
theorem qf(P:Program)(B:Exit→Act→World→Prop):∀k,Af P B k .ret=B .ret
 | []=>rfl
 | .seq _::k=>qf P B k
 | .blk _::k=>qf P B k
 | .inv _::k=>qf P B k
def qA(id:Nat):List Fr→Option (List Fr)
 | []=>none
 | .blk id'::k=>cond (Nat.beq id' id) (some k) (qA id k)
 | _::k=>qA id k
theorem pE(P:Program)(B:Exit→Act→World→Prop)(id:Nat)(a:Act)(w:World):∀{k k':List Fr},qA id k=some k'→Af P B k' .normal a w→Af P B k (.exit id) a w
 | [],k',h,_=>by simp[qA]at h
 | .seq _::k,k',h,hq=>pE P B id a w (k:=k) h hq
 | .inv _::k,k',h,hq=>pE P B id a w (k:=k) h hq
 | .blk id'::k,k',h,hq=>by
  simp only[qA]at h
  by_cases hc:id'=id
  ·subst hc
   simp at h;subst h
   exact⟨fun _=>hq,fun h=>absurd rfl h⟩
  ·rw[iJ hc]at h
   exact⟨fun e=>absurd e.symm hc,fun _=>pE P B id a w (k:=k) h hq⟩
section rules
variable {P:Program} {c:Cx} {n:Nn} {l:Sl} {W:List Res} {B Q:Exit→Act→World→Prop} {k:List Fr} {K:Act→World→Prop}
theorem Ta{x y:Code}(h:Go c n l W (x.wp P (Af P B (.seq y::k)))):Go c n l W ((Code.seq x y).wp P (Af P B k)):=
 fun a w ha hw=>wp_seq (wp_mono (h a w ha hw) fun e a w hq=>by cases e <;> exact hq)
theorem yF{id:Nat}{x:Code}(h:Go c n l W (x.wp P (Af P B (.blk id::k)))):Go c n l W ((Code.block id x).wp P (Af P B k)):=
 fun a w ha hw=>wp_block (wp_mono (h a w ha hw) fun e a w hq=>by
  cases e with
  | exit id'=>
   simp only[Exit.inBlock]
   split
   ·rename_i h;exact hq.1 h
   ·rename_i h;exact hq.2 h
  | _=>exact hq)
theorem Nt(h:Go c n l W (Q .normal)):Go c n l W (Code.skip.wp P Q):=fun a w ha hw=>wp_skip (h a w ha hw)
theorem ic{i:Nat}(h:Go c n l W (Q .normal)):Go c n l W ((Code.label i).wp P Q):=fun a w ha hw=>wp_label (h a w ha hw)
theorem Nj{id:Nat}{k':List Fr}(h:Go c n l W (Af P B k' .normal))(he:qA id k=some k'):Go c n l W ((Code.exit id).wp P (Af P B k)):=
 fun a w ha hw=>wp_exit (pE P B id a w he (h a w ha hw))
theorem JG(h:Go c n l W (B .ret)):Go c n l W (Code.ret.wp P (Af P B k)):=fun a w ha hw=>wp_ret (by rw[qf];exact h a w ha hw)
theorem Fz{id:Nat}{os:List Oper}(h:Go c n l W (wpList P os.toArray Q os)):Go c n l W ((Code.region id os.toArray false).wp P Q):=
 fun a w ha hw=>wp_region_lit (h a w ha hw)
theorem S8{ops:Array Oper}(h:Go c n l W (Q .normal)):Go c n l W (wpList P ops Q []):=fun a w ha hw=>wpList_nil (h a w ha hw)
theorem Nu{y:Code}(h:Go c n l W (y.wp P (Af P B k))):Go c n l W (Af P B (.seq y::k) .normal):=h
theorem S9{id:Nat}(h:Go c n l W (Af P B k .normal)):Go c n l W (Af P B (.blk id::k) .normal):=h
theorem S5(h:Go c n l W (B .normal)):Go c n l W (Af P B [] .normal):=h
theorem v5{x:Operand}{s t:Code}(hc:ev l x=some (.bool true))(h:Go c n l W (s.wp P Q)):Go c n l W ((Code.cond x s t).wp P Q):=
 fun a w ha hw=>wp_cond_true (ha.ev hc) (h a w ha hw)
theorem sK{x:Operand}{s t:Code}(hc:ev l x=some (.bool false))(h:Go c n l W (t.wp P Q)):Go c n l W ((Code.cond x s t).wp P Q):=
 fun a w ha hw=>wp_cond_false (ha.ev hc) (h a w ha hw)
theorem an{x:Operand}{s t:Code}{p:Prop}{inst:Decidable p}(hc:ev l x=some (.bool (@decide p inst)))(h1:p→Go c n l W (s.wp P Q))
  (h2:¬p→Go c n l W (t.wp P Q)):Go c n l W ((Code.cond x s t).wp P Q):=
 fun a w ha hw=>by
  by_cases hp:p
  ·exact wp_cond_true (by rw[ha.ev hc];simp[hp]) (h1 hp a w ha hw)
  ·exact wp_cond_false (by rw[ha.ev hc];simp[hp]) (h2 hp a w ha hw)
theorem dZ{φ:Act→World→Prop}{l':Sl}{W':List Res}(hl:me l' l)(hW:SubW W' W)(h:Go c n l' W' φ):Go c n l W φ:=
 fun a w ha hw=>h a w (ha.sub hl) (hw.sub hW)
theorem t8{φ:Act→World→Prop}{l':Sl}(hl:me l' l)(h:Go c n l' W φ):Go c n l W φ:=
 fun a w ha hw=>h a w (ha.sub hl) hw
def Inv{ι:Type}(c:Cx)(n:Nn)(I:ι→Prop)(lm:ι→Sl)(Wm:ι→List Res)(μ:ι→Nat)(m:Nat)(a:Act)(w:World):Prop:=
 ∃j,I j∧μ j<m∧SatA n (lm j) a∧SatW c (Wm j) w
theorem az{ι:Type}{x:Code}(I:ι→Prop)(lm:ι→Sl)(Wm:ι→List Res)(μ:ι→Nat)(i0:ι)(h0:I i0)
  (hl:me (lm i0) l) (hW:SubW (Wm i0) W)
  (round:∀i,I i→Go c n (lm i) (Wm i) (x.wp P (Af P B (.inv (Inv c n I lm Wm μ (μ i))::k)))):
  Go c n l W ((Code.loop x).wp P (Af P B k)):=by
 intro a w ha hw
 have key:∀m a w,(∃i,(I i∧SatA n (lm i) a∧SatW c (Wm i) w)∧μ i=m)→∀(b:Frame)(kk:List Item)(cs:List Frame),
   ∃e a' w',Af P B k e a' w'∧Arrives P (lone (b.at a (.code x :: .inLoop x::kk)) cs w) b kk cs e a' w':=by
  intro m
  induction m using Nat.strongRecOn with
  | _ m ih=>
   intro a w ⟨i,⟨hI,hA,hWW⟩,hm⟩ b kk cs
   obtain⟨e,a₁,w₁,hq,harr⟩:=round i hI a w hA hWW b (.inLoop x::kk) cs
   cases e with
   | normal=>
    obtain⟨j,hj,hlt,hA',hW'⟩:=hq
    obtain⟨e₂,a₂,w₂,hq₂,harr₂⟩:=ih (μ j) (hm ▸ hlt) a₁ w₁ ⟨j,⟨hj,hA',hW'⟩,rfl⟩ b kk cs
    exact⟨e₂,a₂,w₂,hq₂,.of_steps (Steps.trans harr (.one step_inLoop)) harr₂⟩
   | exit id=>exact⟨_,a₁,w₁,hq,.pass (x:=.inLoop x) rfl (fun _ _=>.inl (by simp)) harr⟩
   | goto i=>exact⟨_,a₁,w₁,hq,.pass (x:=.inLoop x) rfl (fun _ _=>.inl (by simp)) harr⟩
   | ret=>exact⟨_,a₁,w₁,hq,.pass (x:=.inLoop x) rfl (fun _ _=>.inl (by simp)) harr⟩
   | panic ch=>exact⟨_,a₁,w₁,hq,.pass (x:=.inLoop x) rfl (fun _ _=>.inl (by simp)) harr⟩
   | outgrown=>exact⟨_,a₁,w₁,hq,.pass (x:=.inLoop x) rfl (fun _ _=>.inl (by simp)) harr⟩
 intro b kk cs
 obtain⟨e,a',w',hq,harr⟩:=key (μ i0) a w ⟨i0,⟨h0,ha.sub hl,hw.sub hW⟩,rfl⟩ b kk cs
 exact⟨e,a',w',hq,.of_steps (.one step_loop) harr⟩
theorem ao{ι:Type}{I:ι→Prop}{lm:ι→Sl}{Wm:ι→List Res}{μ:ι→Nat}{m:Nat}(j:ι)(hI:I j)(hm:μ j<m)
  (hl:me (lm j) l) (hW:SubW (Wm j) W):Go c n l W (Af P B (.inv (Inv c n I lm Wm μ m)::k) .normal):=
 fun _ _ ha hw=>⟨j,hI,hm,ha.sub hl,hw.sub hW⟩
def Met{ι:Type}(c:Cx)(n:Nn)(I:ι→Prop)(lm:ι→Sl)(Wm:ι→List Res)(a:Act)(w:World):Prop:=
 ∃j,I j∧SatA n (lm j) a∧SatW c (Wm j) w
theorem ig{ι:Type}{I:ι→Prop}{lm:ι→Sl}{Wm:ι→List Res}(j:ι)(hI:I j)
  (hl:me (lm j) l) (hW:SubW (Wm j) W):Go c n l W (Af P B (.inv (Met c n I lm Wm)::k) .normal):=
 fun _ _ ha hw=>⟨j,hI,ha.sub hl,hw.sub hW⟩
end rules
def oR:Nat→List Value→Sl
 | _,[]=>[]
 | i,v::r=>(i,v)::oR (i+1) r
theorem mx:∀(vs:List Value)(i t:Nat)(v:Value),lk (oR i vs) t=some v→i≤t∧vs[t-i]?=some v
 | [],i,t,v,h=>by simp[oR,lk]at h
 | x::r,i,t,v,h=>by
  simp only[oR,lk]at h
  by_cases hc:i=t
  ·subst hc;simp at h;subst h;simp
  ·have:Nat.beq i t=false:=iJ hc
   rw[this]at h
   obtain⟨h1,h2⟩:=mx r (i+1) t v h
   refine⟨by omega,?_⟩
   rw[show t-i=(t-(i+1))+1 by omega]
   simpa using h2
def OwnsIn(W:List Res)(w:World):Prop:=(∀r∈W,r.holds w)∧(fps W).Nodup
theorem OwnsIn.nil(w:World):OwnsIn [] w:=⟨by simp,by simp[fps]⟩
theorem jz{W:List Res}{w:World}(h:OwnsIn W w):SatW ⟨w,fps W⟩ W w:=⟨Ext.refl _ _,h.1,fun _ hb=>.inr hb,h.2⟩
theorem wW{P:Program}{f:FuncId}{fn:Func}{x:Code}{vs:List Value}{w:World}{R:Ending→World→Prop}(W:List Res)
  (hf:P.funcs[f]?=some fn) (hb:fn.body=some x) (hn:Nat.ble vs.length fn.ntmps=true) (hW:OwnsIn W w)
  (h:Go ⟨w,fps W⟩ ⟨fn.ntmps,[]⟩ (oR 0 vs) W (x.wp P (Af P (bodyPost P fn R) []))):Calls P f vs.toArray w R:=by
 refine calls_of_wp hf hb (h _ _ ⟨rfl,?_,?_⟩ (jz hW))
 ·have:vs.length≤fn.ntmps:=by simpa using Nat.le_of_ble_eq_true hn
  simp;omega
 ·intro t v ht
  obtain⟨_,h2⟩:=mx vs 0 t v ht
  simp only[Nat.sub_zero]at h2
  have hlt:t<vs.length:=by
   rcases Nat.lt_or_ge t vs.length with h | h
   ·exact h
   ·rw[List.getElem?_eq_none h]at h2;simp at h2
  show(vs.toArray++_)[t]?=some v
  rw[Array.getElem?_append_left (by simpa using hlt)]
  simpa using h2
theorem Nf{P:Program}{c:Cx}{n:Nn}{l:Sl}{W:List Res}{fn:Func}{R:Ending→World→Prop}{t:Tmp}{v:Value}
  (hres:fn.results = #[.tmp t]) (hv:lk l t=some v) (hR:∀w,SatW c W w→R (.returned v) w) (hD:n.df=[]:=by rfl):Go c n l W (bodyPost P fn R .ret):=
 fun a w ha hw=>bodyPost_ret (results_tmp hres _ _ _) (ha.dfr.trans hD) (by
  have:=ha.at_ t v hv
  rw[Array.getD_eq_getD_getElem?,this];exact hR w hw)
theorem Ng{P:Program}{c:Cx}{n:Nn}{l:Sl}{W:List Res}{fn:Func}{R:Ending→World→Prop}{t u:Tmp}{v v':Value}
  (hres:fn.results = #[.tmp t,.tmp u]) (hv:lk l t=some v) (hv':lk l u=some v') (hR:∀w,SatW c W w→R (.returned (.tuple #[v,v'])) w) (hD:n.df=[]:=by rfl):
  Go c n l W (bodyPost P fn R .ret):=
 fun a w ha hw=>bodyPost_ret (results_tmp2 hres _ _ _) (ha.dfr.trans hD) (by
  have h1:=ha.at_ t v hv
  have h2:=ha.at_ u v' hv'
  rw[Array.getD_eq_getD_getElem?,Array.getD_eq_getD_getElem?,h1,h2];exact hR w hw)
theorem gE{P:Program}{c:Cx}{n:Nn}{l:Sl}{W:List Res}{fn:Func}{R:Ending→World→Prop}
  (hres:fn.results = #[]) (hR:∀w,SatW c W w→R (.returned (.tuple #[])) w) (hD:n.df=[]:=by rfl):Go c n l W (bodyPost P fn R .normal):=
 fun _ w ha hw=>bodyPost_end (results_none hres _ _ _) (ha.dfr.trans hD) (hR w hw)
theorem Jy{P:Program}{c:Cx}{n:Nn}{l:Sl}{W:List Res}{fn:Func}{R:Ending→World→Prop}
  (hres:fn.results = #[]) (hR:∀w,SatW c W w→R (.returned (.tuple #[])) w) (hD:n.df=[]:=by rfl):Go c n l W (bodyPost P fn R .ret):=
 fun _ w ha hw=>bodyPost_ret (results_none hres _ _ _) (ha.dfr.trans hD) (hR w hw)
@[reducible] def N(k:IntKind)(n:Nat):Value:=.int k (Int.ofNat n)
section ops
variable {P:Program} {c:Cx} {n:Nn} {l:Sl} {W:List Res} {ops:Array Oper} {Q:Exit→Act→World→Prop} {rest:List Oper}
theorem fi{o:Oper}{d:Nat}(hd:o.dst=some d)(hg:o.guard=none)(hn:Nat.blt d n.sz=true){Φ:Value→List Res→Prop}
  (h:∀a w,SatA n l a→SatW c W w→∃v w' W',(execOp a.eval o).run P w = .ok (.value v) w'∧SatW c W' w'∧Φ v W')
  (hk:∀v W',Φ v W'→Go c n ((d,v)::l) W' (wpList P ops Q rest)):Go c n l W (wpList P ops Q (o::rest)):=by
 intro a w ha hw
 obtain⟨v,w',W',hr,hw',hp⟩:=h a w ha hw
 refine wpList_plain hg fun K hK=>?_
 show o.upon P a K Q ((execOp a.eval o).run P w)
 rw[hr]
 show K (a.put o.dst v) w'
 rw[hd]
 exact hK _ _ (hk v W' hp _ _ (ha.put hn) hw')
theorem aw{o:Oper}{d:Nat}{v:Value}(hd:o.dst=some d)(hg:o.guard=none)(hn:Nat.blt d n.sz=true)
  (h:∀a w,SatA n l a→SatW c W w→(execOp a.eval o).run P w = .ok (.value v) w)
  (hk:Go c n ((d,v)::l) W (wpList P ops Q rest)):Go c n l W (wpList P ops Q (o::rest)):=
 fi hd hg hn (Φ:=fun u V=>u=v∧V=W) (fun a w ha hw=>⟨v,w,W,h a w ha hw,hw,rfl,rfl⟩)
  (fun u V ⟨hu,hV⟩=>by subst hu;subst hV;exact hk)
theorem tW{o:Oper}{W':List Res}(hd:o.dst=none)(hg:o.guard=none)
  (h:∀a w,SatA n l a→SatW c W w→∃w',(execOp a.eval o).run P w = .ok .skip w'∧SatW c W' w')
  (hk:Go c n l W' (wpList P ops Q rest)):Go c n l W (wpList P ops Q (o::rest)):=by
 intro a w ha hw
 obtain⟨w',hr,hw'⟩:=h a w ha hw
 refine wpList_plain hg fun K hK=>?_
 show o.upon P a K Q ((execOp a.eval o).run P w)
 rw[hr]
 show K (a.put o.dst undef) w'
 rw[hd]
 exact hK _ _ (hk _ _ ha hw')
section shapes
variable {d:Nat} {T:TypeId} {pos:String} {after:Array Edge}
theorem v8{op:Op}{j t:Nat}{want:Bool}(hj:(ops[j]?).bind (·.dst)=some t)
  (ht:lk l t=some (.bool want)) (hy:Go c n l W (wpList P ops Q (⟨some d,op,T,pos,after,none⟩::rest))):
  Go c n l W (wpList P ops Q (⟨some d,op,T,pos,after,some (j,want)⟩::rest)):=by
 intro a w ha hw
 have htm:=ha.at_ _ _ ht
 have hyl:yielded ops a.tmps j=some want:=by unfold yielded;rw[hj];simp[htm]
 have:=hy a w ha hw
 simp only[wpList]at this ⊢
 rw[if_pos (by simp[Region.wanted])]at this
 rw[if_pos (by simp[Region.wanted,hyl])]
 exact this
theorem yN{op:Op}{j t:Nat}{want:Bool}(hj:(ops[j]?).bind (·.dst)=some t)
  (ht:lk l t=some (.bool !want)) (hn:Nat.blt d n.sz=true) (hno:Go c n ((d,undef)::l) W (wpList P ops Q rest)):
  Go c n l W (wpList P ops Q (⟨some d,op,T,pos,after,some (j,want)⟩::rest)):=by
 intro a w ha hw
 have htm:=ha.at_ _ _ ht
 have hyl:yielded ops a.tmps j=some (!want):=by unfold yielded;rw[hj];simp[htm]
 have:=hno _ w (ha.put (v:=undef) hn) hw
 simp only[wpList]
 rw[if_neg (by simp[Region.wanted,hyl])]
 exact this
theorem nE{x:Operand}{v:Value}(hx:ev l x=some v)(hn:Nat.blt d n.sz=true)(hk:Go c n ((d,v)::l) W (wpList P ops Q rest)):
  Go c n l W (wpList P ops Q (⟨some d,.move x,T,pos,after,none⟩::rest)):=
 aw rfl rfl hn (fun a w ha _=>by show Result.ok (Next.value (a.eval x)) w=_;rw[ha.ev hx]) hk
theorem Fp{x:Operand}{v:Value}(hx:ev l x=some v)(hn:Nat.blt d n.sz=true)(hk:Go c n ((d,v)::l) W (wpList P ops Q rest)):
  Go c n l W (wpList P ops Q (⟨some d,.assign x,T,pos,after,none⟩::rest)):=
 aw rfl rfl hn (fun a w ha _=>by show Result.ok (Next.value (a.eval x)) w=_;rw[ha.ev hx]) hk
theorem Fy{x y z:Operand}{v:Value}(hc:ev l x=some (.bool true))(hy:ev l y=some v)(hn:Nat.blt d n.sz=true)
  (hk:Go c n ((d,v)::l) W (wpList P ops Q rest)):Go c n l W (wpList P ops Q (⟨some d,.pick x y z,T,pos,after,none⟩::rest)):=
 aw rfl rfl hn (fun a w ha _=>by simp[execOp,ha.ev hc,ha.ev hy,asBool]) hk
theorem Fx{x y z:Operand}{v:Value}(hc:ev l x=some (.bool false))(hz:ev l z=some v)(hn:Nat.blt d n.sz=true)
  (hk:Go c n ((d,v)::l) W (wpList P ops Q rest)):Go c n l W (wpList P ops Q (⟨some d,.pick x y z,T,pos,after,none⟩::rest)):=
 aw rfl rfl hn (fun a w ha _=>by simp[execOp,ha.ev hc,ha.ev hz,asBool]) hk
theorem Bf{x:Operand}{i:Nat}{vs:List Value}{v:Value}(hx:ev l x=some (.tuple vs.toArray))(hv:vs[i]?=some v)(hn:Nat.blt d n.sz=true)
  (hk:Go c n ((d,v)::l) W (wpList P ops Q rest)):Go c n l W (wpList P ops Q (⟨some d,.extract x i,T,pos,after,none⟩::rest)):=
 aw rfl rfl hn (fun a w ha _=>by simp[execOp,ha.ev hx,Instr.extract,hv]) hk
theorem yT{x:Operand}{a0:Addr}(hx:ev l x=some (.pointer (some a0)))(hn:Nat.blt d n.sz=true)
  (hk:Go c n ((d,.pointer (some a0))::l) W (wpList P ops Q rest)):Go c n l W (wpList P ops Q (⟨some d,.nilCheck x,T,pos,after,none⟩::rest)):=
 aw rfl rfl hn (fun a w ha _=>by simp[execOp,ha.ev hx]) hk
theorem yQ{f:Fn}{xs ys:List Operand}{us vs:List Value}(hx:evs l xs=some us)(hy:evs l ys=some vs)(hn:Nat.blt d n.sz=true)
  (hk:Go c n ((d,.func f us.toArray vs.toArray)::l) W (wpList P ops Q rest)):
  Go c n l W (wpList P ops Q (⟨some d,.makeFunc f xs.toArray ys.toArray,T,pos,after,none⟩::rest)):=
 aw rfl rfl hn (fun a w ha _=>by simp[execOp,Instr.makeFunc,ha.evs hx,ha.evs hy]) hk
def ub:IntKind→Option Nat
 | .u8=>some 256
 | .u16=>some 65536
 | .u32=>some 4294967296
 | .u64=>some 18446744073709551616
 | _=>none
theorem iN{k:IntKind}{m:Nat}(h:ub k=some m):m=2^k.bits:=by cases k <;> simp[ub]at h <;> subst h <;> rfl
theorem wt{k:IntKind}{m:Nat}(h:ub k=some m)(x:Int):k.wrap x=x%(m:Int):=by
 cases k <;> simp[ub]at h <;> subst h <;> simp[IntKind.wrap,IntKind.bits,IntKind.signed]
theorem eL{k:IntKind}{m:Nat}(h:ub k=some m)(x:Nat):k.wrap (x:Int)=Int.ofNat (x%m):=by
 rw[wt h];rfl
theorem SW{k:IntKind}{m:Nat}{x y:Operand}{a0 b0:Nat}{xt yt:TypeId}(hx:ev l x=some (N k a0))(hy:ev l y=some (N k b0))(hm:ub k=some m)
  (hn:Nat.blt d n.sz=true) (hk:Go c n ((d,N k ((a0+b0)%m))::l) W (wpList P ops Q rest)):
  Go c n l W (wpList P ops Q (⟨some d,.binOp .add xt x y yt,T,pos,after,none⟩::rest)):=
 aw rfl rfl hn (fun a w ha _=>by
  have h:=eL hm (a0+b0)
  simp only[Int.natCast_add]at h
  simp[execOp,ha.ev hx,ha.ev hy,eqGuard,binOp,Op.intArith,h]) hk
theorem S7{k:IntKind}{m:Nat}{x y:Operand}{a0 b0:Nat}{xt yt:TypeId}(hx:ev l x=some (N k a0))(hy:ev l y=some (N k b0))(hm:ub k=some m)
  (hn:Nat.blt d n.sz=true) (hk:Go c n ((d,N k ((a0*b0)%m))::l) W (wpList P ops Q rest)):
  Go c n l W (wpList P ops Q (⟨some d,.binOp .mul xt x y yt,T,pos,after,none⟩::rest)):=
 aw rfl rfl hn (fun a w ha _=>by
  have h:=eL hm (a0*b0)
  simp only[Int.natCast_mul]at h
  simp[execOp,ha.ev hx,ha.ev hy,eqGuard,binOp,Op.intArith,h]) hk
theorem Td{k:IntKind}{m:Nat}{x y:Operand}{a0 b0:Nat}{xt yt:TypeId}(hx:ev l x=some (N k a0))(hy:ev l y=some (N k b0))(hm:ub k=some m)
  (hn:Nat.blt d n.sz=true) (hk:Go c n ((d,N k ((a0+(m-b0%m))%m))::l) W (wpList P ops Q rest)):
  Go c n l W (wpList P ops Q (⟨some d,.binOp .sub xt x y yt,T,pos,after,none⟩::rest)):=
 aw rfl rfl hn (fun a w ha _=>by
  have hpos:0<m:=by rw[iN hm];exact Nat.two_pow_pos _
  have h:k.wrap ((a0:Int)-(b0:Int))=Int.ofNat ((a0+(m-b0%m))%m):=by
   rw[wt hm]
   have hlt:=Nat.mod_lt b0 hpos
   have:((a0+(m-b0%m):Nat):Int)=(a0:Int)-b0+(m:Int)*(b0/m+1:Nat):=by
    have e:=Nat.div_add_mod b0 m
    have e':((m*(b0/m)+b0%m:Nat):Int)=(b0:Int):=by rw[e]
    rw[Int.natCast_add,Int.natCast_sub (Nat.le_of_lt hlt)]
    rw[Int.natCast_add,Int.natCast_mul]at e'
    rw[Int.natCast_add,Int.mul_add]
    omega
   show _=((((a0+(m-b0%m))%m:Nat)):Int)
   rw[Int.natCast_emod,this,Int.add_mul_emod_self_left]
  simp[execOp,ha.ev hx,ha.ev hy,eqGuard,binOp,Op.intArith,h]) hk
theorem qo{k:IntKind}{m:Nat}(hm:ub k=some m)(w:World){op:BinOp}{a0 b0 r:Nat}(hr:r<m)
  (h:(Op.intBits op k (Int.ofNat a0) (Int.ofNat b0))=pure (.int k (k.wrap (r:Int)))):
  (Op.intBits op k (Int.ofNat a0) (Int.ofNat b0)).run P w = .ok (N k r) w:=by
 rw[h,eL hm,Nat.mod_eq_of_lt hr];rfl
theorem SX{k:IntKind}{m:Nat}{x y:Operand}{a0 b0:Nat}{xt yt:TypeId}(hx:ev l x=some (N k a0))(hy:ev l y=some (N k b0))(hm:ub k=some m)
  (hn:Nat.blt d n.sz=true) (hk:Go c n ((d,N k ((a0%m) &&& (b0%m)))::l) W (wpList P ops Q rest)):
  Go c n l W (wpList P ops Q (⟨some d,.binOp .and xt x y yt,T,pos,after,none⟩::rest)):=
 aw rfl rfl hn (fun a w ha _=>by
  have hpos:0<m:=by rw[iN hm];exact Nat.two_pow_pos _
  have:=qo (P:=P) hm w (op:=.and) (a0:=a0) (b0:=b0) (r:=(a0%m) &&& (b0%m)) (Nat.lt_of_le_of_lt Nat.and_le_left (Nat.mod_lt _ hpos))
   (by simp[Op.intBits,iN hm])
  simp only[Int.ofNat_eq_natCast]at this
  simp[execOp,ha.ev hx,ha.ev hy,eqGuard,binOp,this]) hk
theorem VH{k:IntKind}{m:Nat}{x y:Operand}{a0 b0:Nat}{xt yt:TypeId}(hx:ev l x=some (N k a0))(hy:ev l y=some (N k b0))(hm:ub k=some m)
  (hn:Nat.blt d n.sz=true) (hk:Go c n ((d,N k ((a0%m) ||| (b0%m)))::l) W (wpList P ops Q rest)):
  Go c n l W (wpList P ops Q (⟨some d,.binOp .or xt x y yt,T,pos,after,none⟩::rest)):=
 aw rfl rfl hn (fun a w ha _=>by
  have hpos:0<m:=by rw[iN hm];exact Nat.two_pow_pos _
  have:=qo (P:=P) hm w (op:=.or) (a0:=a0) (b0:=b0) (r:=(a0%m) ||| (b0%m))
   (by rw[iN hm];exact Nat.or_lt_two_pow (Nat.mod_lt _ (Nat.two_pow_pos _)) (Nat.mod_lt _ (Nat.two_pow_pos _)))
   (by simp[Op.intBits,iN hm])
  simp only[Int.ofNat_eq_natCast]at this
  simp[execOp,ha.ev hx,ha.ev hy,eqGuard,binOp,this]) hk
theorem Te{k:IntKind}{m:Nat}{x y:Operand}{a0 b0:Nat}{xt yt:TypeId}(hx:ev l x=some (N k a0))(hy:ev l y=some (N k b0))(hm:ub k=some m)
  (hn:Nat.blt d n.sz=true) (hk:Go c n ((d,N k ((a0%m) ^^^ (b0%m)))::l) W (wpList P ops Q rest)):
  Go c n l W (wpList P ops Q (⟨some d,.binOp .xor xt x y yt,T,pos,after,none⟩::rest)):=
 aw rfl rfl hn (fun a w ha _=>by
  have:=qo (P:=P) hm w (op:=.xor) (a0:=a0) (b0:=b0) (r:=(a0%m) ^^^ (b0%m))
   (by rw[iN hm];exact Nat.xor_lt_two_pow (Nat.mod_lt _ (Nat.two_pow_pos _)) (Nat.mod_lt _ (Nat.two_pow_pos _)))
   (by simp[Op.intBits,iN hm])
  simp only[Int.ofNat_eq_natCast]at this
  simp[execOp,ha.ev hx,ha.ev hy,eqGuard,binOp,this]) hk
theorem Tb{k yk:IntKind}{m:Nat}{x y:Operand}{a0 b0:Nat}{xt yt:TypeId}(hx:ev l x=some (N k a0))(hy:ev l y=some (N yk b0))(hm:ub k=some m)
  (hn:Nat.blt d n.sz=true) (hk:Go c n ((d,N k ((a0 <<< b0)%m))::l) W (wpList P ops Q rest)):
  Go c n l W (wpList P ops Q (⟨some d,.binOp .shl xt x y yt,T,pos,after,none⟩::rest)):=
 aw rfl rfl hn (fun a w ha _=>by
  have h:k.wrap ((a0:Int)*2^(min b0 k.bits))=((a0 <<< b0%m:Nat):Int):=by
   have e:((a0:Int)*2^(min b0 k.bits))=((a0*2^min b0 k.bits:Nat):Int):=by simp
   rw[e,eL hm]
   show(((a0*2^min b0 k.bits)%m:Nat):Int)=_
   congr 1
   rw[Nat.shiftLeft_eq]
   rcases Nat.le_total b0 k.bits with hle | hle
   ·rw[Nat.min_eq_left hle]
   ·rw[Nat.min_eq_right hle,iN hm,Nat.mul_mod_left]
    obtain⟨q,rfl⟩:=Nat.exists_eq_add_of_le hle
    rw[Nat.pow_add,← Nat.mul_assoc,Nat.mul_right_comm,Nat.mul_mod_left]
  have hnn:¬((b0:Int)<0):=by omega
  simp[execOp,ha.ev hx,ha.ev hy,eqGuard,binOp,Op.shift,h,hnn]) hk
theorem ii{k yk:IntKind}{x y:Operand}{a0 b0:Nat}{xt yt:TypeId}(hx:ev l x=some (N k a0))(hy:ev l y=some (N yk b0))(hb:b0≤k.bits)
  (hn:Nat.blt d n.sz=true) (hk:Go c n ((d,N k (a0 >>> b0))::l) W (wpList P ops Q rest)):
  Go c n l W (wpList P ops Q (⟨some d,.binOp .shr xt x y yt,T,pos,after,none⟩::rest)):=
 aw rfl rfl hn (fun a w ha _=>by
  have h:((a0:Int).fdiv (2^b0))=((a0 >>> b0:Nat):Int):=by
   rw[Nat.shiftRight_eq_div_pow,Int.fdiv_eq_ediv_of_nonneg _ (by exact Int.pow_nonneg (by decide))]
   simp
  have hnn:¬((b0:Int)<0):=by omega
  simp[execOp,ha.ev hx,ha.ev hy,eqGuard,binOp,Op.shift,h,hnn,Nat.min_eq_left hb]) hk
theorem f7{x:Int}(h:-9223372036854775808≤x∧x<9223372036854775808):IntKind.i64.wrap x=x:=by
 rw[IntKind.wrap_i64];omega
theorem Nl{x y:Operand}{a0 b0:Nat}{xt yt:TypeId}(hx:ev l x=some (N .i64 a0))(hy:ev l y=some (N .i64 b0))(hb:a0+b0<9223372036854775808)
  (hn:Nat.blt d n.sz=true) (hk:Go c n ((d,N .i64 (a0+b0))::l) W (wpList P ops Q rest)):
  Go c n l W (wpList P ops Q (⟨some d,.binOp .add xt x y yt,T,pos,after,none⟩::rest)):=
 aw rfl rfl hn (fun a w ha _=>by
  have h:IntKind.i64.wrap ((a0:Int)+(b0:Int))=(a0:Int)+b0:=f7 (by omega)
  simp[execOp,ha.ev hx,ha.ev hy,eqGuard,binOp,Op.intArith,h]) hk
theorem Nr{x y:Operand}{a0 b0:Nat}{xt yt:TypeId}(hx:ev l x=some (N .i64 a0))(hy:ev l y=some (N .i64 b0))(hle:b0≤a0)(hb:a0<9223372036854775808)
  (hn:Nat.blt d n.sz=true) (hk:Go c n ((d,N .i64 (a0-b0))::l) W (wpList P ops Q rest)):
  Go c n l W (wpList P ops Q (⟨some d,.binOp .sub xt x y yt,T,pos,after,none⟩::rest)):=
 aw rfl rfl hn (fun a w ha _=>by
  have h:IntKind.i64.wrap ((a0:Int)-(b0:Int))=((a0-b0:Nat):Int):=by rw[f7 (by omega)];omega
  simp[execOp,ha.ev hx,ha.ev hy,eqGuard,binOp,Op.intArith,h]) hk
theorem Np{x y:Operand}{a0 b0:Nat}{xt yt:TypeId}(hx:ev l x=some (N .i64 a0))(hy:ev l y=some (N .i64 b0))(hb:a0*b0<9223372036854775808)
  (hn:Nat.blt d n.sz=true) (hk:Go c n ((d,N .i64 (a0*b0))::l) W (wpList P ops Q rest)):
  Go c n l W (wpList P ops Q (⟨some d,.binOp .mul xt x y yt,T,pos,after,none⟩::rest)):=
 aw rfl rfl hn (fun a w ha _=>by
  have e:((a0:Int)*(b0:Int))=((a0*b0:Nat):Int):=by simp
  have h:IntKind.i64.wrap ((a0:Int)*(b0:Int))=(a0:Int)*b0:=by rw[e];exact f7 (by omega)
  simp[execOp,ha.ev hx,ha.ev hy,eqGuard,binOp,Op.intArith,h]) hk
theorem Nm{x y:Operand}{a0 b0:Nat}{xt yt:TypeId}(hx:ev l x=some (N .i64 a0))(hy:ev l y=some (N .i64 b0))(h0:0<b0)(hb:a0<9223372036854775808)
  (hn:Nat.blt d n.sz=true) (hk:Go c n ((d,N .i64 (a0/b0))::l) W (wpList P ops Q rest)):
  Go c n l W (wpList P ops Q (⟨some d,.binOp .quo xt x y yt,T,pos,after,none⟩::rest)):=
 aw rfl rfl hn (fun a w ha _=>by
  have e:(a0:Int).tdiv b0=((a0/b0:Nat):Int):=by rw[Int.tdiv_eq_ediv_of_nonneg (by omega)];simp
  have hq:a0/b0≤a0:=Nat.div_le_self _ _
  have h:IntKind.i64.wrap ((a0:Int)/(b0:Int))=(a0:Int)/b0:=by
   rw[show(a0:Int)/(b0:Int)=((a0/b0:Nat):Int) by simp];generalize a0/b0=q at hq ⊢;exact f7 ⟨by omega,by omega⟩
  have hz':¬(b0=0):=by omega
  simp[execOp,ha.ev hx,ha.ev hy,eqGuard,binOp,Op.intDiv,e,h,hz']) hk
theorem No{x y:Operand}{a0 b0:Nat}{xt yt:TypeId}(hx:ev l x=some (N .i64 a0))(hy:ev l y=some (N .i64 b0))(h0:0<b0)
  (hn:Nat.blt d n.sz=true) (hk:Go c n ((d,N .i64 (a0%b0))::l) W (wpList P ops Q rest)):
  Go c n l W (wpList P ops Q (⟨some d,.binOp .rem xt x y yt,T,pos,after,none⟩::rest)):=
 aw rfl rfl hn (fun a w ha _=>by
  have e:(a0:Int).tmod b0=((a0%b0:Nat):Int):=by rw[Int.tmod_eq_emod_of_nonneg (by omega)];simp
  have hz':¬(b0=0):=by omega
  simp[execOp,ha.ev hx,ha.ev hy,eqGuard,binOp,Op.intDiv,e,hz']) hk
theorem Nx{x y:Operand}{a0 b0:Int}{xt yt:TypeId}(hx:ev l x=some (.int .i64 a0))(hy:ev l y=some (.int .i64 b0))(hb:-9223372036854775808≤a0-b0∧a0-b0<9223372036854775808)
  (hn:Nat.blt d n.sz=true) (hk:Go c n ((d,.int .i64 (a0-b0))::l) W (wpList P ops Q rest)):
  Go c n l W (wpList P ops Q (⟨some d,.binOp .sub xt x y yt,T,pos,after,none⟩::rest)):=
 aw rfl rfl hn (fun a w ha _=>by
  have h:IntKind.i64.wrap (a0-b0)=a0-b0:=f7 hb
  simp[execOp,ha.ev hx,ha.ev hy,eqGuard,binOp,Op.intArith,h]) hk
theorem Nw{x:Operand}{a0:Int}{xt:TypeId}(hx:ev l x=some (.int .i64 a0))(hb:-9223372036854775808<a0∧a0<9223372036854775808)
  (hn:Nat.blt d n.sz=true) (hk:Go c n ((d,.int .i64 (-a0))::l) W (wpList P ops Q rest)):
  Go c n l W (wpList P ops Q (⟨some d,.unOp .neg xt x,T,pos,after,none⟩::rest)):=
 aw rfl rfl hn (fun a w ha _=>by
  have h:IntKind.i64.wrap (-a0) = -a0:=by rw[f7 (by omega)]
  simp[execOp,ha.ev hx,Op.unary,Op.intArith,h]) hk
theorem Nq{x:Operand}{a0:Nat}{xt:TypeId}(hx:ev l x=some (N .i64 a0))(hb:a0<9223372036854775808)
  (hn:Nat.blt d n.sz=true) (hk:Go c n ((d,.int .i64 (-(a0:Int)))::l) W (wpList P ops Q rest)):
  Go c n l W (wpList P ops Q (⟨some d,.unOp .neg xt x,T,pos,after,none⟩::rest)):=
 Nw hx ⟨by show _<(a0:Int);omega,by show(a0:Int)<_;omega⟩ hn hk
theorem BI(a b:Int):(a==b)=decide (a=b):=by
 rw[Bool.eq_iff_iff];simp
theorem xX(a b:Nat):decide ((a:Int)=(b:Int))=decide (a=b):=by
 rw[Bool.eq_iff_iff];simp only[decide_eq_true_eq];omega
theorem wU(a b:Bool):(a==b)=decide (a=b):=by cases a <;> cases b <;> rfl
def Ab:BinOp→Nat→Nat→Option Bool
 | .lss,x,y=>some (decide (x<y))
 | .leq,x,y=>some (decide (x≤y))
 | .gtr,x,y=>some (decide (y<x))
 | .geq,x,y=>some (decide (y≤x))
 | .eql,x,y=>some (decide (x=y))
 | .neq,x,y=>some (decide (¬x=y))
 | _,_,_=>none
theorem rY{k:IntKind}{op:BinOp}{r:Bool}{x y:Operand}{a0 b0:Nat}{xt yt:TypeId}(hx:ev l x=some (N k a0))(hy:ev l y=some (N k b0))
  (hr:Ab op a0 b0=some r) (hn:Nat.blt d n.sz=true) (hk:Go c n ((d,.bool r)::l) W (wpList P ops Q rest)):
  Go c n l W (wpList P ops Q (⟨some d,.binOp op xt x y yt,T,pos,after,none⟩::rest)):=
 aw rfl rfl hn (fun a w ha _=>by
  cases op <;> simp only[Ab,Option.some.injEq,reduceCtorEq]at hr <;> subst hr <;>
   simp[execOp,ha.ev hx,ha.ev hy,eqGuard,binOp,Op.intCmp,bne,BI,xX]) hk
def QR:BinOp→Int→Int→Option Bool
 | .lss,x,y=>some (decide (x<y))
 | .leq,x,y=>some (decide (x≤y))
 | .gtr,x,y=>some (decide (y<x))
 | .geq,x,y=>some (decide (y≤x))
 | .eql,x,y=>some (decide (x=y))
 | .neq,x,y=>some (decide (¬x=y))
 | _,_,_=>none
theorem Nb{k:IntKind}{op:BinOp}{r:Bool}{x y:Operand}{a0 b0:Int}{xt yt:TypeId}(hx:ev l x=some (.int k a0))(hy:ev l y=some (.int k b0))
  (hr:QR op a0 b0=some r) (hn:Nat.blt d n.sz=true) (hk:Go c n ((d,.bool r)::l) W (wpList P ops Q rest)):
  Go c n l W (wpList P ops Q (⟨some d,.binOp op xt x y yt,T,pos,after,none⟩::rest)):=
 aw rfl rfl hn (fun a w ha _=>by
  cases op <;> simp only[QR,Option.some.injEq,reduceCtorEq]at hr <;> subst hr <;>
   simp[execOp,ha.ev hx,ha.ev hy,eqGuard,binOp,Op.intCmp,bne,BI]) hk
theorem v4{x:Operand}{b0:Bool}{xt:TypeId}(hx:ev l x=some (.bool b0))
  (hn:Nat.blt d n.sz=true) (hk:Go c n ((d,.bool (!b0))::l) W (wpList P ops Q rest)):
  Go c n l W (wpList P ops Q (⟨some d,.unOp .not xt x,T,pos,after,none⟩::rest)):=
 aw rfl rfl hn (fun a w ha _=>by simp[execOp,ha.ev hx,Op.unary]) hk
theorem ma{x y:Operand}{a0 b0:Bool}{xt yt:TypeId}(hx:ev l x=some (.bool a0))(hy:ev l y=some (.bool b0))(ht:P.underlying xt=some .bool)
  (hn:Nat.blt d n.sz=true) (hk:Go c n ((d,.bool (decide (a0=b0)))::l) W (wpList P ops Q rest)):
  Go c n l W (wpList P ops Q (⟨some d,.binOp .eql xt x y yt,T,pos,after,none⟩::rest)):=
 aw rfl rfl hn (fun a w ha _=>by
  simp[execOp,ha.ev hx,ha.ev hy,eqGuard,run_eql_bool w xt a0 b0 ht,wU]) hk
theorem SY{x y:Operand}{a0 b0:Bool}{xt yt:TypeId}(hx:ev l x=some (.bool a0))(hy:ev l y=some (.bool b0))(ht:P.underlying xt=some .bool)
  (hn:Nat.blt d n.sz=true) (hk:Go c n ((d,.bool (decide (¬a0=b0)))::l) W (wpList P ops Q rest)):
  Go c n l W (wpList P ops Q (⟨some d,.binOp .neq xt x y yt,T,pos,after,none⟩::rest)):=
 aw rfl rfl hn (fun a w ha _=>by
  simp[execOp,ha.ev hx,ha.ev hy,eqGuard,run_neq_bool w xt a0 b0 ht,wU]) hk
theorem Nc{k k':IntKind}{m:Nat}{x:Operand}{a0:Nat}{sd:TypeDesc}{s t:TypeId}(hx:ev l x=some (N k a0))(hs:P.underlying s=some sd)(ht:P.underlying t=some (.int k'))(hm:ub k'=some m)
  (hn:Nat.blt d n.sz=true) (hk:Go c n ((d,N k' (a0%m))::l) W (wpList P ops Q rest)):
  Go c n l W (wpList P ops Q (⟨some d,.convert s t x,T,pos,after,none⟩::rest)):=
 aw rfl rfl hn (fun a w ha _=>by
  have h:=eL hm a0
  simp[execOp,ha.ev hx,convert,run_underlying hs,run_underlying ht,Conv.intToInt,h]) hk
theorem Jw{k:IntKind}{x:Operand}{a0:Nat}{sd:TypeDesc}{s t:TypeId}(hx:ev l x=some (N k a0))(hs:P.underlying s=some sd)(ht:P.underlying t=some (.int .i64))(hb:a0<9223372036854775808)
  (hn:Nat.blt d n.sz=true) (hk:Go c n ((d,N .i64 a0)::l) W (wpList P ops Q rest)):
  Go c n l W (wpList P ops Q (⟨some d,.convert s t x,T,pos,after,none⟩::rest)):=
 aw rfl rfl hn (fun a w ha _=>by
  have h:IntKind.i64.wrap (a0:Int)=(a0:Int):=f7 (by omega)
  simp[execOp,ha.ev hx,convert,run_underlying hs,run_underlying ht,Conv.intToInt,h]) hk
theorem Jx{m:Nat}{k k':IntKind}{x:Operand}{a0:Int}{sd:TypeDesc}{s t:TypeId}(hx:ev l x=some (.int k a0))(hs:P.underlying s=some sd)(ht:P.underlying t=some (.int k'))(hm:ub k'=some m)
  (hn:Nat.blt d n.sz=true) (hk:Go c n ((d,N k' (a0%(m:Int)).toNat)::l) W (wpList P ops Q rest)):
  Go c n l W (wpList P ops Q (⟨some d,.convert s t x,T,pos,after,none⟩::rest)):=
 aw rfl rfl hn (fun a w ha _=>by
  have hpos:0<m:=by rw[iN hm];exact Nat.two_pow_pos _
  have h:k'.wrap a0=Int.ofNat (a0%(m:Int)).toNat:=by
   rw[wt hm]
   have:=Int.emod_nonneg a0 (b:=(m:Int)) (by omega)
   show _=(((a0%(m:Int)).toNat:Nat):Int)
   omega
  simp[execOp,ha.ev hx,convert,run_underlying hs,run_underlying ht,Conv.intToInt,h]) hk
theorem S6{x y:Operand}{k k':IntKind}{a0 b0:Nat}{ts:List TypeId}(hx:ev l x=some (N k a0))(hy:ev l y=some (N k' b0))
  (hn:Nat.blt d n.sz=true) (hk:Go c n ((d,N k (max a0 b0))::l) W (wpList P ops Q rest)):
  Go c n l W (wpList P ops Q (⟨some d,.call { callee:=.builtin .max,args:=#[x,y],argTypes:=ts.toArray },T,pos,after,none⟩::rest)):=
 aw rfl rfl hn (fun a w ha _=>by
  have h:=run_max_int2 (P:=P) w ts.toArray T k k' (a0:Int) (b0:Int)
  have e:(if(b0:Int)>(a0:Int)then(b0:Int)else(a0:Int))=((max a0 b0:Nat):Int):=by split <;> omega
  rw[e]at h
  simp[execOp,ha.ev hx,ha.ev hy,resolve,invoke,builtin];rw[show N k a0=Value.int k (a0:Int)from rfl,show N k' b0=Value.int k' (b0:Int)from rfl,h];rfl) hk
end shapes
end ops
@[reducible] def pt(b off:Nat):Value:=.pointer (some ⟨b,off,none⟩)
def LV(k:IntKind)(ys:List Nat):Value:=.agg (ys.map (N k)).toArray
theorem cz(b off i:Nat):(⟨b,off,none⟩:Addr).add i=⟨b,off+i,none⟩:=by
 unfold Addr.add;split <;> simp_all
def kv(P:Program)(T:TypeId):Bool:=
 match P.underlying T with
 | some (.struct _) | some (.array _ _)=>false
 | some _=>true
 | none=>false
def cD(P:Program)(T:TypeId):Bool:=
 match P.underlying T with
 | some (.struct _) | some (.array _ _)=>true
 | _=>false
def ay(P:Program)(T:TypeId):Option Nat:=match P.info? T with
 | some ⟨_,_,s,_,_,_,_,_,_,_⟩=>some s
 | none=>none
def lI(P:Program)(T:TypeId):Option Nat:=match P.info? T with
 | some ⟨_,_,_,b,_,_,_,_,_,_⟩=>some b
 | none=>none
def cH(P:Program)(T:TypeId):Option Value:=match P.info? T with
 | some ⟨_,_,_,_,_,_,_,z,_,_⟩=>z
 | none=>none
theorem ku{P:Program}{T:TypeId}(h:kv P T=true)(w:World):(isAgg T).run P w = .ok false w:=by
 unfold kv at h
 cases hu:P.underlying T with
 | none=>simp[hu]at h
 | some d=>
  simp only[isAgg,Sem.run_bind,run_underlying hu]
  cases d <;> simp[hu]at h <;> rfl
theorem bV{P:Program}{T:TypeId}(h:cD P T=true)(w:World):(isAgg T).run P w = .ok true w:=by
 unfold cD at h
 cases hu:P.underlying T with
 | none=>simp[hu]at h
 | some d=>
  simp only[isAgg,Sem.run_bind,run_underlying hu]
  cases d <;> simp[hu]at h <;> rfl
theorem aq{P:Program}{T:TypeId}{s:Nat}(h:ay P T=some s)(w:World):(sizeOf T).run P w = .ok s w:=by
 unfold ay at h
 cases hi:P.info? T with
 | none=>simp[hi]at h
 | some i=>simp[hi]at h;subst h;simp[sizeOf,typeInfo,hi]
theorem cn{P:Program}{T:TypeId}{z:Value}(h:cH P T=some z)(w:World):(zeroValue T).run P w = .ok z w:=by
 unfold cH at h
 cases hi:P.info? T with
 | none=>simp[hi]at h
 | some i=>simp[hi]at h;simp[zeroValue,typeInfo,hi,h]
def ea:Value→Nat→Addr
 | .slice (some a) _ _,i=>a.add i
 | _,_=>default
structure Rd (w:World) (s:Value) (xs:List Value):Prop where
 shape:∃a cap,s = .slice a xs.length cap∧xs.length≤cap∧(a=none→xs=[]∧cap=0)∧∀a0,a=some a0→a0.spot=none
 cells:∀i v,xs[i]?=some v→w.cell? (ea s i)=some v
def RdW(c:Cx)(W:List Res)(s:Value)(xs:List Value):Prop:=∀w,SatW c W w→Rd w s xs
theorem Rd.nil(w:World):Rd w (.slice none 0 0) []:=⟨⟨none,0,rfl,Nat.le_refl _,fun _=>⟨rfl,rfl⟩,by simp⟩,by simp⟩
theorem RdW.nil{c:Cx}{W:List Res}:RdW c W (.slice none 0 0) []:=fun w _=>Rd.nil w
theorem BK{w:World}{a:Addr}{v:Value}(h:w.cell? a=some v):a.block<w.heap.size:=block_lt_of_cell h
theorem Rd.ext{w w':World}{s:Value}{xs:List Value}(h:Rd w s xs)(he:∀b,b<w.heap.size→(∃i,i<xs.length∧(ea s i).block=b)→w'.heap[b]?=w.heap[b]?):Rd w' s xs:=
 ⟨h.shape,fun i v hv=>by
  have hc:=h.cells i v hv
  have hi:i<xs.length:=by
   rcases Nat.lt_or_ge i xs.length with h | h
   ·exact h
   ·rw[List.getElem?_eq_none h]at hv;simp at hv
  rw[World.cell?_of_block (w:=w) (he _ (BK hc) ⟨i,hi,rfl⟩)]
  exact hc⟩
structure RdC (c:Cx) (s:Value) (xs:List Value):Prop where
 rd:Rd c.w0 s xs
 out:∀i,i<xs.length→(ea s i).block∉c.S
theorem RdW.old{c:Cx}{W:List Res}{s:Value}{xs:List Value}(h:RdC c s xs):RdW c W s xs:=
 fun _ hw=>h.rd.ext fun b hb ⟨i,hi,he⟩=>hw.ext.block b hb (he ▸ h.out i hi)
theorem RdC.mk0{w:World}{s:Value}{xs:List Value}(h:Rd w s xs):RdC ⟨w,fps []⟩ s xs:=⟨h,by simp[fps]⟩
theorem RdW.own{c:Cx}{W R:List Res}{s:Value}{xs:List Value}{T:TypeId}(h:Find W (.sl s xs T) R):RdW c W s xs:=by
 intro w hw
 rcases hw.holds _ h.mem with⟨rfl,rfl⟩ | ⟨b,off,cap,pre,post,fz,hs⟩
 ·exact Rd.nil w
 ·obtain⟨rfl,h1,h2,h3,h4,h5⟩:=hs
  refine⟨⟨_,cap,rfl,h1,by simp,by simp⟩,fun i v hv=>?_⟩
  have hi:i<xs.length:=by
   rcases Nat.lt_or_ge i xs.length with h | h
   ·exact h
   ·rw[List.getElem?_eq_none h]at hv;simp at hv
  simp only[ea,cz]
  rw[cell_of_row w b (off+i) _ T fz h4]
  subst h3
  simp only[List.getElem?_toArray]
  rw[List.append_assoc,List.getElem?_append_right (by omega),List.getElem?_append_left (by omega)]
  rw[show pre.length+i-pre.length=i by omega]
  exact hv
def sub:Value→Nat→Nat→Value
 | .slice a _ cap,lo,hi=>.slice (if cap=lo then a else a.map (·.add lo)) (hi-lo) (cap-lo)
 | v,_,_=>v
theorem Rd.sub{w:World}{s:Value}{xs:List Value}(h:Rd w s xs){lo hi:Nat}(h1:lo≤hi)(h2:hi≤xs.length):
  Rd w (sub s lo hi) ((xs.take hi).drop lo):=by
 obtain⟨a,cap,rfl,hc,hn,hsp⟩:=h.shape
 have hlen:((xs.take hi).drop lo).length=hi-lo:=by simp;omega
 refine⟨⟨if cap=lo then a else a.map (·.add lo),cap-lo,by rw[hlen];rfl,by rw[hlen];omega,fun he=>?_,fun a0 ha0=>?_⟩,fun i v hv=>?_⟩
 ·have:a=none:=by
   split at he
   ·exact he
   ·simpa using he
  obtain⟨hx,hcap⟩:=hn this
  subst hx;simp at h2
  subst h2;simp;omega
 ·split at ha0
  ·exact hsp a0 ha0
  ·cases a with
   | none=>simp at ha0
   | some b=>
    simp at ha0
    have:=hsp b rfl
    subst ha0
    unfold Addr.add;split
    ·exact this
    ·rfl
 ·have hi':i<((xs.take hi).drop lo).length:=by
   rcases Nat.lt_or_ge i ((xs.take hi).drop lo).length with h | h
   ·exact h
   ·rw[List.getElem?_eq_none h]at hv;simp at hv
  rw[hlen]at hi'
  have hne:¬cap=lo:=by omega
  cases a with
  | none=>obtain⟨hx,_⟩:=hn rfl;subst hx;simp at hv
  | some a0=>
   have hv':xs[lo+i]?=some v:=by
    rw[List.getElem?_drop,List.getElem?_take]at hv
    rw[if_pos (by omega)]at hv;exact hv
   have hcell:=h.cells (lo+i) v hv'
   have e:ea (L.sub (.slice (some a0) xs.length cap) lo hi) i=ea (.slice (some a0) xs.length cap) (lo+i):=by
    have hs0:=hsp a0 rfl
    obtain⟨b,o,sp⟩:=a0
    simp only at hs0;subst hs0
    simp only[L.sub,if_neg hne,Option.map_some,ea,cz]
    congr 1;omega
   rw[e];exact hcell
theorem RdW.sub{c:Cx}{W:List Res}{s:Value}{xs:List Value}(h:RdW c W s xs){lo hi:Nat}(h1:lo≤hi)(h2:hi≤xs.length):
  RdW c W (L.sub s lo hi) ((xs.take hi).drop lo):=fun w hw=>(h w hw).sub h1 h2
def fj(b n lo hi:Nat):Value:=.slice (some ⟨b,if n=lo then 0 else lo,none⟩) (hi-lo) (n-lo)
theorem RdW.arr{c:Cx}{W R:List Res}{b:Nat}{cs:List Value}{T:TypeId}(h:Find W (.blk b (.agg cs.toArray) T) R){n lo hi:Nat}(h1:lo≤hi)(h2:hi≤n)(hn:cs.length=n):
  RdW c W (fj b n lo hi) ((cs.take hi).drop lo):=by
 intro w hw
 have hh:w.heap[b]?=some (.cells cs.toArray T (0,0)):=hw.holds _ h.mem
 have hlen:((cs.take hi).drop lo).length=hi-lo:=by simp;omega
 refine⟨⟨_,n-lo,by rw[hlen];rfl,by rw[hlen];omega,by simp,by simp⟩,fun i v hv=>?_⟩
 have hi':i<((cs.take hi).drop lo).length:=by
  rcases Nat.lt_or_ge i ((cs.take hi).drop lo).length with h | h
  ·exact h
  ·rw[List.getElem?_eq_none h]at hv;simp at hv
 rw[hlen]at hi'
 have hne:¬n=lo:=by omega
 simp only[fj,ea,cz,if_neg hne]
 rw[cell_of_row w b (lo+i) _ T _ hh]
 rw[List.getElem?_drop,List.getElem?_take,if_pos (by omega)]at hv
 simpa using hv
theorem RdW.arrN{c:Cx}{W R:List Res}{b:Nat}{k:IntKind}{ys:List Nat}{T:TypeId}(h:Find W (.blk b (LV k ys) T) R){n lo hi:Nat}(h1:lo≤hi)(h2:hi≤n)(hn:ys.length=n):
  RdW c W (fj b n lo hi) (((ys.take hi).drop lo).map (N k)):=by
 have:=RdW.arr (c:=c) (cs:=ys.map (N k)) h h1 h2 (by simpa using hn)
 simpa[List.map_take,List.map_drop]using this
theorem RdW.subN{c:Cx}{W:List Res}{s:Value}{k:IntKind}{ys:List Nat}(h:RdW c W s (ys.map (N k))){lo hi:Nat}(h1:lo≤hi)(h2:hi≤ys.length):
  RdW c W (L.sub s lo hi) (((ys.take hi).drop lo).map (N k)):=by
 have:=RdW.sub h h1 (by simpa using h2)
 simpa[List.map_take,List.map_drop]using this
section mem
variable {P:Program} {c:Cx} {n:Nn} {l:Sl} {W:List Res} {ops:Array Oper} {Q:Exit→Act→World→Prop} {rest:List Oper}
variable {d:Nat} {T:TypeId} {pos:String} {after:Array Edge}
theorem nD{φ:Act→World→Prop}{W':List Res}(h:∀w,SatW c W w→SatW c W' w)(hk:Go c n l W' φ):Go c n l W φ:=
 fun a w ha hw=>hk a w ha (h w hw)
theorem jF{φ:Act→World→Prop}(T:TypeId)(hk:Go c n l (.sl (.slice none 0 0) [] T::W) φ):Go c n l W φ:=
 nD (fun _ hw=>⟨hw.ext,fun r hr=>by
  rcases List.mem_cons.1 hr with rfl | hr
  ·exact .inl ⟨rfl,rfl⟩
  ·exact hw.holds r hr,fun b hb=>hw.own b (by simpa[fps,Res.fp]using hb),by simpa[fps,Res.fp]using hw.nd⟩) hk
theorem SN{w:World}{s:Value}{xs:List Value}{T:TypeId}(h:(Res.sl s xs T).holds w){lo hi:Nat}(h1:lo≤hi)(h2:hi≤xs.length):
  (Res.sl (sub s lo hi) ((xs.take hi).drop lo) T).holds w∧(Res.sl (sub s lo hi) ((xs.take hi).drop lo) T).fp=(Res.sl s xs T).fp:=by
 rcases h with⟨rfl,rfl⟩ | ⟨b,off,cap,pre,post,fz,hs⟩
 ·simp at h2;subst h2
  have:lo=0:=by omega
  subst this
  exact⟨.inl ⟨by simp[sub],by simp⟩,by simp[sub,Res.fp]⟩
 ·obtain⟨rfl,h3,h4,h5,h6,h7⟩:=hs
  have hlen:((xs.take hi).drop lo).length=hi-lo:=by simp;omega
  by_cases hc:cap=lo
  ·have e1:lo=xs.length:=by omega
   have e2:hi=xs.length:=by omega
   have e3:(xs.take hi).drop lo=[]:=by subst e2;rw[e1];simp
   refine⟨.inr ⟨b,off,0,pre,xs++post,fz,?_⟩,by simp[sub,Res.fp,hc]⟩
   rw[e3]
   refine⟨?_,by simp,by simp,h5,by simpa using h6,by simpa using h7⟩
   simp[sub,hc];omega
  ·refine⟨.inr ⟨b,off+lo,cap-lo,pre++xs.take lo,xs.drop hi++post,fz,?_⟩,?_⟩
   ·refine⟨?_,by rw[hlen];omega,?_,?_,?_,?_⟩
    ·rw[hlen];simp[sub,hc,cz]
    ·rw[hlen];simp;omega
    ·simp;omega
    ·rw[h6]
     congr 2
     have:xs=xs.take lo++((xs.take hi).drop lo++xs.drop hi):=by
      rw[← List.append_assoc]
      have e:xs.take lo++(xs.take hi).drop lo=xs.take hi:=by
       rw[show xs.take lo=(xs.take hi).take lo by rw[List.take_take,Nat.min_eq_left h1]]
       exact List.take_append_drop lo (xs.take hi)
      rw[e,List.take_append_drop]
     conv=>lhs;rw[this]
     simp
    ·intro hf
     have:=h7 hf
     simp at this ⊢;omega
   ·simp[sub,Res.fp,hc,cz]
theorem nH{φ:Act→World→Prop}{s:Value}{xs:List Value}{R:List Res}(lo hi:Nat)(hf:Find W (.sl s xs T) R)(h1:lo≤hi)(h2:hi≤xs.length)
  (hk:Go c n l (.sl (sub s lo hi) ((xs.take hi).drop lo) T::R) φ):Go c n l W φ:=
 nD (fun w hw=>by
  have hw:=hw.perm hf.perm
  obtain⟨g1,g2⟩:=SN (hw.holds _ (List.mem_cons_self ..)) h1 h2
  exact hw.upd g2 (Ext.refl _ _) g1) hk
theorem SZ{x:Operand}{v:Value}{E:TypeId}(hx:ev l x=some v)(hn:Nat.blt d n.sz=true)
  (hk:∀b,Go c n ((d,pt b 0)::l) (.blk b v E::W) (wpList P ops Q rest)):
  Go c n l W (wpList P ops Q (⟨some d,.box E x,T,pos,after,none⟩::rest)):=
 fi rfl rfl hn (Φ:=fun u V=>∃b,u=pt b 0∧V = .blk b v E::W)
  (fun a w ha hw=>⟨pt w.heap.size 0,{ w with heap:=w.heap.push (.cells v.cells E) },_,by
    simp[execOp,ha.ev hx,Instr.box,newVar,newRow],hw.alloc (r:=.blk w.heap.size v E) rfl (by simp[Res.holds]),_,rfl,rfl⟩)
  (fun u V ⟨b,hu,hV⟩=>by subst hu;subst hV;exact hk b)
theorem ar{v:Value}{E:TypeId}(hz:cH P E=some v)(hn:Nat.blt d n.sz=true)
  (hk:∀b,Go c n ((d,pt b 0)::l) (.blk b v E::W) (wpList P ops Q rest)):
  Go c n l W (wpList P ops Q (⟨some d,.alloc E,T,pos,after,none⟩::rest)):=
 fi rfl rfl hn (Φ:=fun u V=>∃b,u=pt b 0∧V = .blk b v E::W)
  (fun a w ha hw=>⟨pt w.heap.size 0,{ w with heap:=w.heap.push (.cells v.cells E) },_,by
    simp[execOp,Instr.alloc,cn hz,newVar,newRow],hw.alloc (r:=.blk w.heap.size v E) rfl (by simp[Res.holds]),_,rfl,rfl⟩)
  (fun u V ⟨b,hu,hV⟩=>by subst hu;subst hV;exact hk b)
theorem cL{w:World}{a0:Addr}{v:Value}{E:TypeId}(hs:kv P E=true)(hc:w.cell? a0=some v):(loadVar E a0).run P w = .ok v w:=by
 simp[loadVar,ku hs,hc]
theorem cc{w:World}{b off:Nat}{cs:List Value}{E U:TypeId}{o:Array Value}{fz:Nat×Nat}(hs:cD P E=true)(hz:ay P E=some cs.length)
  (hh:w.heap[b]?=some (.cells o U fz)) (hcs:∀j v,cs[j]?=some v→o[off+j]?=some v):(loadVar E ⟨b,off,none⟩).run P w = .ok (.agg cs.toArray) w:=by
 have hl:(loadCells ⟨b,off,none⟩ cs.length).run P w = .ok cs.toArray w:=
  run_loadCells_list (P:=P) w ⟨b,off,none⟩ cs (fun j v hv=>by rw[cz,cell_of_row w b _ o U fz hh];exact hcs j v hv)
 simp[loadVar,bV hs,aq hz,hl]
theorem fI{x:Operand}{b:Nat}{v:Value}{E U:TypeId}{R:List Res}(hx:ev l x=some (pt b 0))(hf:Find W (.blk b v U) R)(hv:v.oneCell'=true)(hs:kv P E=true)
  (hn:Nat.blt d n.sz=true) (hk:Go c n ((d,v)::l) W (wpList P ops Q rest)):Go c n l W (wpList P ops Q (⟨some d,.load E x,T,pos,after,none⟩::rest)):=
 aw rfl rfl hn (fun a w ha hw=>by
  have hh:w.heap[b]?=some (.cells v.cells U (0,0)):=hw.holds _ hf.mem
  have hc:w.cell? ⟨b,0,none⟩=some v:=by
   rw[cell_of_row w b 0 _ U _ hh]
   cases v <;> simp_all[Value.cells,Value.oneCell']
  simp[execOp,ha.ev hx,Instr.loadAt,Instr.sureAddr,cL hs hc]) hk
theorem t7{x:Operand}{b m:Nat}{cs:Array Value}{E U:TypeId}{R:List Res}(hx:ev l x=some (pt b 0))(hf:Find W (.blk b (.agg cs) U) R)(hs:cD P E=true)(hz:ay P E=some m)(hl:cs.size=m)
  (hn:Nat.blt d n.sz=true) (hk:Go c n ((d,.agg cs)::l) W (wpList P ops Q rest)):Go c n l W (wpList P ops Q (⟨some d,.load E x,T,pos,after,none⟩::rest)):=
 aw rfl rfl hn (fun a w ha hw=>by
  have hh:w.heap[b]?=some (.cells cs U (0,0)):=hw.holds _ hf.mem
  have:=cc (P:=P) (w:=w) (b:=b) (off:=0) (cs:=cs.toList) hs (by subst hl;simpa using hz) hh (fun j v hv=>by simpa using hv)
  simp[execOp,ha.ev hx,Instr.loadAt,Instr.sureAddr,this]) hk
theorem mc{x:Operand}{b m:Nat}{k:IntKind}{ys:List Nat}{E U:TypeId}{R:List Res}(hx:ev l x=some (pt b 0))(hf:Find W (.blk b (LV k ys) U) R)(hs:cD P E=true)(hz:ay P E=some m)(hl:ys.length=m)
  (hn:Nat.blt d n.sz=true) (hk:Go c n ((d,LV k ys)::l) W (wpList P ops Q rest)):Go c n l W (wpList P ops Q (⟨some d,.load E x,T,pos,after,none⟩::rest)):=
 t7 hx hf hs hz (by simpa using hl) hn hk
theorem t6{x:Operand}{b off:Nat}{k:IntKind}{ys:List Nat}{E U:TypeId}{R:List Res}(hx:ev l x=some (pt b off))(hf:Find W (.blk b (LV k ys) U) R)(hi:off<ys.length)(hs:kv P E=true)
  (hn:Nat.blt d n.sz=true) (hk:Go c n ((d,N k (ys.getD off 0))::l) W (wpList P ops Q rest)):Go c n l W (wpList P ops Q (⟨some d,.load E x,T,pos,after,none⟩::rest)):=
 aw rfl rfl hn (fun a w ha hw=>by
  have hh:w.heap[b]?=some (.cells (ys.map (N k)).toArray U (0,0)):=hw.holds _ hf.mem
  have hc:w.cell? ⟨b,off,none⟩=some (N k (ys.getD off 0)):=by
   rw[cell_of_row w b off _ U _ hh];simp[hi]
  simp[execOp,ha.ev hx,Instr.loadAt,Instr.sureAddr,cL hs hc]) hk
theorem fH{x:Operand}{s v:Value}{i:Nat}{xs:List Value}{E:TypeId}(hx:ev l x=some (.pointer (some (ea s i))))(hr:RdW c W s xs)(hi:xs[i]?=some v)(hs:kv P E=true)
  (hn:Nat.blt d n.sz=true) (hk:Go c n ((d,v)::l) W (wpList P ops Q rest)):Go c n l W (wpList P ops Q (⟨some d,.load E x,T,pos,after,none⟩::rest)):=
 aw rfl rfl hn (fun a w ha hw=>by
  have hc:=(hr w hw).cells i v hi
  simp[execOp,ha.ev hx,Instr.loadAt,Instr.sureAddr,cL hs hc]) hk
theorem pb{x:Operand}{s:Value}{i:Nat}{k:IntKind}{ys:List Nat}{E:TypeId}(hx:ev l x=some (.pointer (some (ea s i))))(hr:RdW c W s (ys.map (N k)))(hi:i<ys.length)(hs:kv P E=true)
  (hn:Nat.blt d n.sz=true) (hk:Go c n ((d,N k (ys.getD i 0))::l) W (wpList P ops Q rest)):Go c n l W (wpList P ops Q (⟨some d,.load E x,T,pos,after,none⟩::rest)):=
 fH hx hr (by simp[hi]) hs hn hk
theorem ce{c:Cx}{R:List Res}{w:World}{r r':Res}{b:Nat}{U:TypeId}{o o':Array Value}{fz:Nat×Nat}(hw:SatW c (r::R) w)(hfp:r.fp=[b])(hfp':r'.fp=[b])
  (hh:w.heap[b]?=some (.cells o U fz)) (hr:∀w':World,w'.heap[b]?=some (.cells o' U fz)→r'.holds w'):SatW c (r'::R) (w.setRow b o'):=by
 refine hw.upd (by rw[hfp,hfp']) ⟨rfl,rfl,rfl,by simp,fun k _ hs=>setRow_other w b k o' (by rw[hfp]at hs;simpa using hs)⟩ (hr _ (setRow_heap w b o o' U fz hh))
theorem g7{w:World}{b off:Nat}{v:Value}{E U:TypeId}{o:Array Value}{fz:Nat×Nat}(hz:ay P E=some 1)(hv:v.oneCell'=true)
  (hh:w.heap[b]?=some (.cells o U fz)) (hi:off<o.size) (hfz:¬(fz.1≤off∧off<fz.2)):(storeVar E ⟨b,off,none⟩ v).run P w = .ok () (w.setRow b (o.setIfInBounds off v)):=by
 have hcs:v.cells = #[v]:=by cases v <;> simp_all[Value.cells,Value.oneCell']
 have hcell:w.cell? ⟨b,off,none⟩=some o[off]:=by simp[World.cell?,hh,hi]
 have hfro:w.frozen? ⟨b,off,none⟩=false:=by
  simp only[World.frozen?,hh]
  simpa using hfz
 have hst:(store (⟨b,off,none⟩:Addr) v).run P w = .ok () (w.setRow b (o.setIfInBounds off v)):=by
  rw[run_store P w _ v _ hv,hcell]
  simp[hfro,setCell_eq_setRow w b off o U fz v hh]
 simp[storeVar,aq hz,hcs,storeCells,cz,hst]
theorem ij{x y:Operand}{b:Nat}{v u:Value}{E U:TypeId}{R:List Res}(hx:ev l x=some (pt b 0))(hy:ev l y=some u)(hf:Find W (.blk b v U) R)(hv:v.oneCell'=true)(hu:u.oneCell'=true)(hz:ay P E=some 1)
  (hk:Go c n l (.blk b u U::R) (wpList P ops Q rest)):Go c n l W (wpList P ops Q (⟨none,.store E x y,T,pos,after,none⟩::rest)):=
 tW rfl rfl (fun a w ha hw=>by
  have hw:=hw.perm hf.perm
  have hh:w.heap[b]?=some (.cells v.cells U (0,0)):=hw.holds _ (List.mem_cons_self ..)
  have hcs:v.cells = #[v]:=by cases v <;> simp_all[Value.cells,Value.oneCell']
  have hcu:u.cells = #[u]:=by cases u <;> simp_all[Value.cells,Value.oneCell']
  rw[hcs]at hh
  refine⟨w.setRow b #[u],?_,ce hw rfl rfl hh (fun w' h=>by simp only[Res.holds,hcu];exact h)⟩
  have:=g7 (P:=P) (off:=0) hz hu hh (by simp) (by simp)
  simp[execOp,ha.ev hx,ha.ev hy,Instr.storeAt,Instr.sureAddr,this]) hk
theorem Bk{x y:Operand}{b off u:Nat}{k:IntKind}{ys:List Nat}{E U:TypeId}{R:List Res}(hx:ev l x=some (pt b off))(hy:ev l y=some (N k u))(hf:Find W (.blk b (LV k ys) U) R)(hi:off<ys.length)(hz:ay P E=some 1)
  (hk:Go c n l (.blk b (LV k (ys.set off u)) U::R) (wpList P ops Q rest)):Go c n l W (wpList P ops Q (⟨none,.store E x y,T,pos,after,none⟩::rest)):=
 tW rfl rfl (fun a w ha hw=>by
  have hw:=hw.perm hf.perm
  have hh:w.heap[b]?=some (.cells (ys.map (N k)).toArray U (0,0)):=hw.holds _ (List.mem_cons_self ..)
  refine⟨w.setRow b ((ys.map (N k)).toArray.setIfInBounds off (N k u)),?_,ce hw rfl rfl hh (fun w' h=>by
   simp only[Res.holds,LV,Value.cells];rw[h];simp[List.map_set])⟩
  have:=g7 (P:=P) (v:=N k u) (off:=off) hz rfl hh (by simpa using hi) (by simp)
  simp[execOp,ha.ev hx,ha.ev hy,Instr.storeAt,Instr.sureAddr,this]) hk
theorem r5{x y:Operand}{b m:Nat}{o cs:Array Value}{E U:TypeId}{R:List Res}(hx:ev l x=some (pt b 0))(hy:ev l y=some (.agg cs))(hf:Find W (.blk b (.agg o) U) R)(hz:ay P E=some m)(hl:o.size=m)(hl':cs.size=m)
  (h1:∀v∈cs.toList,v.oneCell'=true)
  (hk:Go c n l (.blk b (.agg cs) U::R) (wpList P ops Q rest)):Go c n l W (wpList P ops Q (⟨none,.store E x y,T,pos,after,none⟩::rest)):=
 tW rfl rfl (fun a w ha hw=>by
  have hw:=hw.perm hf.perm
  have hh:w.heap[b]?=some (.cells o U (0,0)):=hw.holds _ (List.mem_cons_self ..)
  have hsz:o.size=cs.size:=by rw[hl,hl']
  subst hl'
  refine⟨w.setRow b cs,?_,ce hw rfl rfl hh (fun w' h=>h)⟩
  have hst:=run_storeCells_at P b 0 U cs.toList 0 o w hh (by simp[hsz]) h1
  have e:(o.toList.take (0+0)++cs.toList++o.toList.drop (0+0+cs.toList.length)).toArray=cs:=by
   have:o.toList.drop cs.size=[]:=List.drop_eq_nil_of_le (by simp[hsz])
   simp[this]
  rw[e]at hst
  simp[execOp,ha.ev hx,ha.ev hy,Instr.storeAt,Instr.sureAddr,storeVar,aq hz,Value.cells,hst]) hk
theorem aX{x y:Operand}{b m:Nat}{k:IntKind}{ys zs:List Nat}{E U:TypeId}{R:List Res}(hx:ev l x=some (pt b 0))(hy:ev l y=some (LV k zs))(hf:Find W (.blk b (LV k ys) U) R)(hz:ay P E=some m)(hl:ys.length=m)(hl':zs.length=m)
  (hk:Go c n l (.blk b (LV k zs) U::R) (wpList P ops Q rest)):Go c n l W (wpList P ops Q (⟨none,.store E x y,T,pos,after,none⟩::rest)):=
 r5 hx hy hf hz (by simpa using hl) (by simpa using hl') (by simp[Value.oneCell']) hk
theorem yV{x y:Operand}{s u:Value}{i:Nat}{xs:List Value}{E U:TypeId}{R:List Res}(hx:ev l x=some (.pointer (some (ea s i))))(hy:ev l y=some u)(hf:Find W (.sl s xs U) R)(hi:i<xs.length)(hu:u.oneCell'=true)(hz:ay P E=some 1)
  (hk:Go c n l (.sl s (xs.set i u) U::R) (wpList P ops Q rest)):Go c n l W (wpList P ops Q (⟨none,.store E x y,T,pos,after,none⟩::rest)):=
 tW rfl rfl (fun a w ha hw=>by
  have hw:=hw.perm hf.perm
  rcases hw.holds _ (List.mem_cons_self ..)with⟨rfl,rfl⟩ | ⟨b,off,cap,pre,post,fz,hs⟩
  ·simp at hi
  ·obtain⟨rfl,h1,h2,h3,h4,h5⟩:=hs
   have hlt:off+i<(pre++xs++post).toArray.size:=by simp;omega
   have hfz:¬(fz.1≤off+i∧off+i<fz.2):=by
    intro ⟨q1,q2⟩
    have:=h5 (by omega)
    simp at this;omega
   have:=g7 (P:=P) (v:=u) (off:=off+i) hz hu h4 hlt hfz
   have hset:(pre++xs++post).toArray.setIfInBounds (off+i) u=(pre++xs.set i u++post).toArray:=by
    simp only[List.setIfInBounds_toArray]
    congr 1
    subst h3
    rw[List.append_assoc,List.append_assoc,List.set_append_right _ _ (by omega),Nat.add_sub_cancel_left,List.set_append_left _ _ hi]
   rw[hset]at this
   refine⟨_,?_,ce hw (r':=.sl (.slice (some ⟨b,off,none⟩) xs.length cap) (xs.set i u) U) rfl rfl h4 (fun w' h=>.inr ⟨b,off,cap,pre,post,fz,by simp,by simpa using h1,by simpa using h2,h3,h,by simpa using h5⟩)⟩
   simp[execOp,ha.ev hx,ha.ev hy,Instr.storeAt,Instr.sureAddr,ea,cz,this]) hk
theorem wj{x y:Operand}{s:Value}{i u:Nat}{k:IntKind}{ys:List Nat}{E U:TypeId}{R:List Res}(hx:ev l x=some (.pointer (some (ea s i))))(hy:ev l y=some (N k u))(hf:Find W (.sl s (ys.map (N k)) U) R)(hi:i<ys.length)(hz:ay P E=some 1)
  (hk:Go c n l (.sl s ((ys.set i u).map (N k)) U::R) (wpList P ops Q rest)):Go c n l W (wpList P ops Q (⟨none,.store E x y,T,pos,after,none⟩::rest)):=
 yV hx hy hf (by simpa using hi) rfl hz (by rw[← List.map_set];exact hk)
theorem t5{x y:Operand}{b off i m:Nat}{k:IntKind}{t E:TypeId}{sz:Nat}(hx:ev l x=some (pt b off))(hy:ev l y=some (N k i))(ht:P.underlying t=some (.array m E))(hz:ay P E=some sz)(hi:i<m)
  (hn:Nat.blt d n.sz=true) (hk:Go c n ((d,pt b (off+i*sz))::l) W (wpList P ops Q rest)):Go c n l W (wpList P ops Q (⟨some d,.indexAddr t x y,T,pos,after,none⟩::rest)):=
 aw rfl rfl hn (fun a w ha hw=>by
  have h1:(0:Int)≤(i:Int)∧(i:Int)<(m:Int):=by omega
  simp[execOp,ha.ev hx,ha.ev hy,Instr.indexAt,asIntOf,run_underlying ht,Instr.sureAddr,hi,aq hz,cz]) hk
theorem Bg{x y:Operand}{b i m:Nat}{k:IntKind}{t E:TypeId}(hx:ev l x=some (pt b 0))(hy:ev l y=some (N k i))(ht:P.underlying t=some (.array m E))(hz:ay P E=some 1)(hi:i<m)
  (hn:Nat.blt d n.sz=true) (hk:Go c n ((d,pt b i)::l) W (wpList P ops Q rest)):Go c n l W (wpList P ops Q (⟨some d,.indexAddr t x y,T,pos,after,none⟩::rest)):=
 t5 hx hy ht hz hi hn (by simpa using hk)
theorem yO{x y:Operand}{s:Value}{i:Nat}{k:IntKind}{xs:List Value}{t E:TypeId}(hx:ev l x=some s)(hy:ev l y=some (N k i))(ht:P.underlying t=some (.slice E))(hz:ay P E=some 1)(hr:RdW c W s xs)(hi:i<xs.length)
  (hn:Nat.blt d n.sz=true) (hk:Go c n ((d,.pointer (some (ea s i)))::l) W (wpList P ops Q rest)):Go c n l W (wpList P ops Q (⟨some d,.indexAddr t x y,T,pos,after,none⟩::rest)):=
 aw rfl rfl hn (fun a w ha hw=>by
  obtain⟨a0,cap,rfl,h1,h2,h3⟩:=(hr w hw).shape
  cases a0 with
  | none=>obtain⟨h,_⟩:=h2 rfl;subst h;simp at hi
  | some a1=>simp[execOp,ha.ev hx,ha.ev hy,Instr.indexAt,asIntOf,run_underlying ht,hi,aq hz,ea]) hk
theorem JC{x:Operand}{s:Value}{xs:List Value}{t E:TypeId}{ts:List TypeId}(hx:ev l x=some s)(ht:P.underlying t=some (.slice E))(hr:RdW c W s xs)
  (hn:Nat.blt d n.sz=true) (hk:Go c n ((d,N .i64 xs.length)::l) W (wpList P ops Q rest)):
  Go c n l W (wpList P ops Q (⟨some d,.call { callee:=.builtin .len,args:=#[x],argTypes:=(t::ts).toArray },T,pos,after,none⟩::rest)):=
 aw rfl rfl hn (fun a w ha hw=>by
  obtain⟨a0,cap,rfl,h1,h2,h3⟩:=(hr w hw).shape
  simp[execOp,ha.ev hx,resolve,invoke,builtin,Builtin.len_,run_underlying ht,goInt]) hk
theorem iC{x:Operand}{s:Value}{kk:IntKind}{ys:List Nat}{t E:TypeId}{ts:List TypeId}(hx:ev l x=some s)(ht:P.underlying t=some (.slice E))(hr:RdW c W s (ys.map (N kk)))
  (hn:Nat.blt d n.sz=true) (hk:Go c n ((d,N .i64 ys.length)::l) W (wpList P ops Q rest)):
  Go c n l W (wpList P ops Q (⟨some d,.call { callee:=.builtin .len,args:=#[x],argTypes:=(t::ts).toArray },T,pos,after,none⟩::rest)):=
 JC hx ht hr hn (by simpa using hk)
def vo(l:Sl):Option Operand→Option Nat
 | none=>some 0
 | some x=>match ev l x with
  | some (.int _ (.ofNat i))=>some i
  | _=>none
def mL(l:Sl)(len:Nat):Option Operand→Option Nat
 | none=>some len
 | some x=>match ev l x with
  | some (.int _ (.ofNat i))=>some i
  | _=>none
theorem loc{l:Sl}{k:IntKind}{n:Nat}:vo l (some (.const (.int k (@OfNat.ofNat Int n _))))=some (@OfNat.ofNat Nat n _):=rfl
theorem hic{l:Sl}{len:Nat}{k:IntKind}{n:Nat}:mL l len (some (.const (.int k (@OfNat.ofNat Int n _))))=some (@OfNat.ofNat Nat n _):=rfl
theorem EA{l:Sl}{x:Operand}{i:Nat}(h:vo l (some x)=some i):∃k,ev l x=some (N k i):=by
 simp only[vo]at h
 split at h
 ·rename_i k j hx;simp at h;subst h;exact⟨k,hx⟩
 ·simp at h
theorem kK{l:Sl}{x:Operand}{i len:Nat}(h:mL l len (some x)=some i):∃k,ev l x=some (N k i):=by
 simp only[mL]at h
 split at h
 ·rename_i k j hx;simp at h;subst h;exact⟨k,hx⟩
 ·simp at h
theorem jL{w:World}{a:Act}(ha:SatA n l a){isS:Bool}{len cap lo hi:Nat}{xl xh:Option Operand}(hl:vo l xl=some lo)(hh:mL l len xh=some hi)(h1:lo≤hi)(h2:hi≤cap)(_h3:len≤cap):
  (Instr.sliceBounds isS len cap (xl.map a.eval) (xh.map a.eval) none).run P w = .ok (lo,hi,cap) w:=by
 have bnd:∀(k:IntKind)(i y:Nat)(code:BoundsCode),i≤y→(Instr.sliceBound (N k i) y code).run P w = .ok i w:=fun k i y code h=>by
  have:=run_sliceBound (P:=P) (w:=w) k (i:Int) y code (by omega) (by omega)
  rw[Int.toNat_natCast]at this
  exact this
 cases xl with
 | none=>
  simp[vo]at hl;subst hl
  cases xh with
  | none=>simp[mL]at hh;subst hh;simp[Instr.sliceBounds]
  | some y=>
   obtain⟨k,hy⟩:=kK hh
   simp[Instr.sliceBounds,ha.ev hy,bnd k hi cap _ h2]
 | some x=>
  obtain⟨k',hx⟩:=EA hl
  cases xh with
  | none=>simp[mL]at hh;subst hh;simp[Instr.sliceBounds,ha.ev hx,bnd k' lo len _ h1]
  | some y=>
   obtain⟨k,hy⟩:=kK hh
   simp[Instr.sliceBounds,ha.ev hx,ha.ev hy,bnd k hi cap _ h2,bnd k' lo hi _ h1]
theorem ky{x:Operand}{s:Value}{xs:List Value}{t E:TypeId}{xl xh:Option Operand}{lo hi:Nat}(hx:ev l x=some s)(ht:P.underlying t=some (.slice E))(hz:ay P E=some 1)(hr:RdW c W s xs)
  (hl:vo l xl=some lo) (hh:mL l xs.length xh=some hi) (h1:lo≤hi) (h2:hi≤xs.length)
  (hn:Nat.blt d n.sz=true) (hk:Go c n ((d,sub s lo hi)::l) W (wpList P ops Q rest)):
  Go c n l W (wpList P ops Q (⟨some d,.slice t x xl xh none,T,pos,after,none⟩::rest)):=
 aw rfl rfl hn (fun a w ha hw=>by
  obtain⟨a0,cap,rfl,h3,h4,h5⟩:=(hr w hw).shape
  have hb:=jL (P:=P) (w:=w) (isS:=true) ha hl hh h1 (by omega) h3
  simp[execOp,ha.ev hx,Instr.sliceAt,run_underlying ht,Instr.slice,hb,aq hz,sub]) hk
theorem wi{x:Operand}{b m:Nat}{t E:TypeId}{xl xh:Option Operand}{lo hi:Nat}(hx:ev l x=some (pt b 0))(ht:P.underlying t=some (.array m E))(hz:ay P E=some 1)
  (hl:vo l xl=some lo) (hh:mL l m xh=some hi) (h1:lo≤hi) (h2:hi≤m)
  (hn:Nat.blt d n.sz=true) (hk:Go c n ((d,fj b m lo hi)::l) W (wpList P ops Q rest)):
  Go c n l W (wpList P ops Q (⟨some d,.slice t x xl xh none,T,pos,after,none⟩::rest)):=
 aw rfl rfl hn (fun a w ha hw=>by
  have hb:=jL (P:=P) (w:=w) (isS:=false) ha hl hh h1 h2 (Nat.le_refl _)
  simp only[execOp,ha.ev hx,Instr.sliceAt,run_underlying ht,Sem.run_bind,Result.andThen_ok,Instr.sureAddr,Sem.run_pure,Option.map_none,hb,aq hz,Nat.mul_one,fj]
  congr 3
  by_cases hc:m=lo
  ·simp[hc]
  ·simp[hc,cz]) hk
def A8:Value→Value
 | .slice a _ _=>.pointer a
 | _=>.pointer none
theorem Fo{x:Operand}{s:Value}{xs:List Value}{A E:TypeId}{m:Nat}(hx:ev l x=some s)(hA:P.underlying A=some (.array m E))(hr:RdW c W s xs)(hm:m≤xs.length)
  (hn:Nat.blt d n.sz=true) (hk:Go c n ((d,A8 s)::l) W (wpList P ops Q rest)):
  Go c n l W (wpList P ops Q (⟨some d,.sliceToArrayPointer A x,T,pos,after,none⟩::rest)):=
 aw rfl rfl hn (fun a w ha hw=>by
  obtain⟨a0,cap,rfl,h1,h2,h3⟩:=(hr w hw).shape
  have:¬xs.length<m:=by omega
  simp[execOp,ha.ev hx,Instr.arrayAt,run_underlying hA,this,A8]) hk
theorem wc{x:Operand}{s:Value}{xs:List Value}{A:TypeId}{m:Nat}(hx:ev l x=some (A8 s))(hs:cD P A=true)(hz:ay P A=some m)(hr:RdW c W s xs)(hm:m≤xs.length)(hm0:0<m)
  (hn:Nat.blt d n.sz=true) (hk:Go c n ((d,.agg (xs.take m).toArray)::l) W (wpList P ops Q rest)):
  Go c n l W (wpList P ops Q (⟨some d,.load A x,T,pos,after,none⟩::rest)):=
 aw rfl rfl hn (fun a w ha hw=>by
  obtain⟨a0,cap,he,h1,h2,h3⟩:=(hr w hw).shape
  cases a0 with
  | none=>obtain⟨h,_⟩:=h2 rfl;subst h;simp at hm;omega
  | some a1=>
   subst he
   have hl:(loadCells a1 (xs.take m).length).run P w = .ok (xs.take m).toArray w:=
    run_loadCells_list (P:=P) w a1 (xs.take m) (fun j v hv=>by
     have:xs[j]?=some v:=by
      rw[List.getElem?_take]at hv
      split at hv
      ·exact hv
      ·simp at hv
     exact(hr w hw).cells j v this)
   have e:(xs.take m).length=m:=by simp;omega
   rw[e]at hl
   simp[execOp,ha.ev hx,A8,Instr.loadAt,Instr.sureAddr,loadVar,bV hs,aq hz,hl]) hk
theorem lx{x:Operand}{s:Value}{k:IntKind}{ys:List Nat}{A:TypeId}{m:Nat}(hx:ev l x=some (A8 s))(hs:cD P A=true)(hz:ay P A=some m)(hr:RdW c W s (ys.map (N k)))(hm:m≤ys.length)(hm0:0<m)
  (hn:Nat.blt d n.sz=true) (hk:Go c n ((d,LV k (ys.take m))::l) W (wpList P ops Q rest)):
  Go c n l W (wpList P ops Q (⟨some d,.load A x,T,pos,after,none⟩::rest)):=
 wc hx hs hz hr (by simpa using hm) hm0 hn (by rw[← List.map_take];exact hk)
theorem JB{x y:Operand}{k kk:IntKind}{ys:List Nat}{i m:Nat}{t E:TypeId}(hx:ev l x=some (LV k ys))(hy:ev l y=some (N kk i))(ht:P.underlying t=some (.array m E))(hs:kv P E=true)(hz:ay P E=some 1)(hi:i<m)(hl:ys.length=m)
  (hn:Nat.blt d n.sz=true) (hk:Go c n ((d,N k (ys.getD i 0))::l) W (wpList P ops Q rest)):
  Go c n l W (wpList P ops Q (⟨some d,.index t x y,T,pos,after,none⟩::rest)):=
 aw rfl rfl hn (fun a w ha hw=>by
  have hi':i<ys.length:=by omega
  simp[execOp,ha.ev hx,ha.ev hy,Instr.index,asIntOf,run_underlying ht,LV,hi,aq hz,part,ku hs,hi']) hk
end mem
def wC(P:Program)(f:FuncId):Prop:=∃fn,P.funcs[f]?=some fn∧(fn.name == "runtime.NumGoroutine")=false∧fn.body.isNone=false
def mm(Φ:Value→List Res→Prop)(Win:List Res)(w:World):Ending→World→Prop:=fun e w'=>
 ∃v Wout,Φ v Wout∧e = .returned v∧Ext (fps Win) w w'∧(∀r∈Wout,r.holds w')∧(fps Wout).Nodup∧∀b∈fps Wout,w.heap.size≤b∨b∈fps Win
structure Spec (P:Program) (f:FuncId) (vs:List Value) (pre:World→Prop) (Win:List Res) (Φ:Value→List Res→Prop):Prop where
 call:wC P f
 run:∀w,pre w→OwnsIn Win w→Calls P f vs.toArray w (mm Φ Win w)
def ai:World→Prop:=fun _=>True
def IsV(v:Value):Value→List Res→Prop:=fun u V=>u=v∧V=[]
inductive Split:List Res→List Res→List Res→Prop
 | nil {W:List Res}:Split W [] W
 | cons {r:Res} {W W' A R:List Res} (h:Find W r W') (hs:Split W' A R):Split W (r::A) R
theorem Split.perm{W A R:List Res}(h:Split W A R):W.Perm (A++R):=by
 induction h with
 | nil=>exact .refl _
 | cons hf _ ih=>exact hf.perm.trans (ih.cons _)
theorem gw{P:Program}{f:FuncId}(h:wC P f)(vs:Array Value)(w:World):(callFunc f vs).run P w = .ok (.enter f vs) w:=by
 obtain⟨fn,h1,h2,h3⟩:=h
 simp only[callFunc,Sem.run_bind,run_program,Result.andThen_ok,h1,h2,h3];rfl
theorem ad{P:Program}{f:FuncId}{vs:List Value}{pre:World→Prop}{Win:List Res}{Φ:Value→List Res→Prop}{fn:Func}{x:Code}
  (hf:P.funcs[f]?=some fn) (hb:fn.body=some x) (hnm:(fn.name == "runtime.NumGoroutine")=false) (hn:Nat.ble vs.length fn.ntmps=true)
  (h:∀w,pre w→Go ⟨w,fps Win⟩ ⟨fn.ntmps,[]⟩ (oR 0 vs) Win (x.wp P (Af P (bodyPost P fn (mm Φ Win w)) []))):Spec P f vs pre Win Φ:=
 ⟨⟨fn,hf,hnm,by rw[hb];rfl⟩,fun w hp hW=>wW Win hf hb hn hW (h w hp)⟩
theorem aa{Φ:Value→List Res→Prop}{Win W Wout:List Res}{w0 w:World}{v:Value}(hw:SatW ⟨w0,fps Win⟩ W w)(hs:SubW Wout W)(hΦ:Φ v Wout):
  mm Φ Win w0 (.returned v) w:=by
 have h:=hw.sub hs
 exact⟨v,Wout,hΦ,rfl,h.ext,h.holds,h.nd,h.own⟩
section
variable {P:Program} {c:Cx} {n:Nn} {l:Sl} {W:List Res} {ops:Array Oper} {Q:Exit→Act→World→Prop} {rest:List Oper}
variable {d:Nat} {T:TypeId} {pos:String} {after:Array Edge}
theorem oC{Win R:List Res}{Φ:Value→List Res→Prop}{w w':World}{e:Ending}(hw:SatW c W w)(hS:Split W Win R)(hp:mm Φ Win w e w'):
  ∃v Wout,Φ v Wout∧e = .returned v∧SatW c (Wout++R) w':=by
 obtain⟨v,Wout,hΦ,he,hext,hh,hnd,hfr⟩:=hp
 refine⟨v,Wout,hΦ,he,?_⟩
 have hw:=hw.perm hS.perm
 have hlt:=hw.lt
 have hnd0:=hw.nd
 simp only[fps,List.flatMap_append]at hnd0 hlt
 obtain⟨n1,n2,n3⟩:=List.nodup_append.1 hnd0
 have hown:=hw.own
 simp only[fps,List.flatMap_append,List.mem_append]at hown
 refine⟨hw.ext.trans hext (fun x hx=>hown x (.inl hx)),?_,?_,?_⟩
 ·intro r hr
  rcases List.mem_append.1 hr with hr | hr
  ·exact hh r hr
  ·refine Res.holds_congr (hw.holds r (List.mem_append.2 (.inr hr))) fun b hb=>?_
   refine hext.block b (Res.fp_lt (hw.holds r (List.mem_append.2 (.inr hr))) b hb) fun hin=>?_
   exact n3 b hin b (List.mem_flatMap.2 ⟨r,hr,hb⟩) rfl
 ·intro b hb
  simp only[fps,List.flatMap_append,List.mem_append]at hb
  rcases hb with hb | hb
  ·rcases hfr b hb with h1 | h1
   ·exact .inl (Nat.le_trans hw.ext.size h1)
   ·exact hown b (.inl h1)
  ·exact hown b (.inr hb)
 ·simp only[fps,List.flatMap_append]
  refine List.nodup_append.2 ⟨hnd,n2,fun x hx y hy=>?_⟩
  rcases hfr x hx with h1 | h1
  ·have:=hlt y (List.mem_append.2 (.inr hy));omega
  ·exact n3 x h1 y hy
theorem ax{f:FuncId}{x:Operand}{ars:List Operand}{ats:Array TypeId}{first vs captured all:List Value}{pre:World→Prop}{Win R:List Res}{Φ:Value→List Res→Prop}
  (hx:ev l x=some (.func (.func f) first.toArray captured.toArray)) (ha:evs l ars=some vs) (hall:first++vs++captured=all)
  (hspec:Spec P f all pre Win Φ) (hS:Split W Win R) (hpre:∀w,SatW c W w→pre w) (hn:Nat.blt d n.sz=true)
  (hk:∀v Wout,Φ v Wout→Go c n ((d,v)::l) (Wout++R) (wpList P ops Q rest)):
  Go c n l W (wpList P ops Q (⟨some d,.call { callee:=.value x,args:=ars.toArray,argTypes:=ats },T,pos,after,none⟩::rest)):=by
 intro a w hA hw
 refine wpList_plain rfl fun K hK=>?_
 have hrun:(execOp a.eval ⟨some d,.call { callee:=.value x,args:=ars.toArray,argTypes:=ats },T,pos,after,none⟩).run P w = .ok (.enter f all.toArray) w:=by
  subst hall
  simp only[execOp,resolve,hA.ev hx,Deferred.ofValue,List.map_toArray,hA.evs ha,Sem.run_bind,Sem.run_pure,Result.andThen_ok,invoke,List.append_toArray,gw hspec.call]
 show Oper.upon P _ a K Q ((execOp a.eval _).run P w)
 rw[hrun]
 have hown:OwnsIn Win w:=by
  have h:=hw.perm hS.perm
  refine⟨fun r hr=>h.holds r (List.mem_append.2 (.inl hr)),?_⟩
  have:=h.nd
  simp only[fps,List.flatMap_append]at this
  exact(List.nodup_append.1 this).1
 refine Calls.mono (hspec.run w (hpre w hw) hown) fun e w' hp=>?_
 obtain⟨v,Wout,hΦ,rfl,hw'⟩:=oC hw hS hp
 exact hK _ _ (hk v Wout hΦ _ _ (hA.put hn) hw')
theorem af{f:FuncId}{x:Operand}{ars:List Operand}{ats:Array TypeId}{first vs captured all:List Value}{pre:World→Prop}{v:Value}
  (hx:ev l x=some (.func (.func f) first.toArray captured.toArray)) (ha:evs l ars=some vs) (hall:first++vs++captured=all)
  (hspec:Spec P f all pre [] (IsV v)) (hpre:∀w,SatW c W w→pre w) (hn:Nat.blt d n.sz=true)
  (hk:Go c n ((d,v)::l) W (wpList P ops Q rest)):
  Go c n l W (wpList P ops Q (⟨some d,.call { callee:=.value x,args:=ars.toArray,argTypes:=ats },T,pos,after,none⟩::rest)):=
 ax hx ha hall hspec .nil hpre hn (fun u V ⟨hu,hV⟩=>by subst hu;subst hV;exact hk)
theorem mN{U:TypeId}{s by':Nat}{z:Value}(hz:cH P U=some z)(hs:ay P U=some s)(hb:lI P U=some by'):∃i,P.info? U=some i∧i.zero=some z∧i.size=s∧i.bytes=by':=by
 unfold cH at hz;unfold ay at hs;unfold lI at hb
 cases hi:P.info? U with
 | none=>simp[hi]at hz
 | some i=>simp[hi]at hz hs hb;exact⟨i,rfl,hz,hs,hb⟩
theorem gh{z:Value}(h:z.oneCell'=true):z.cells = #[z]:=by cases z <;> simp_all[Value.cells,Value.oneCell']
theorem Ns{x y:Operand}{k:Nat}{t E:TypeId}{by':Nat}{z:Value}(hx:ev l x=some (N .i64 k))(hy:ev l y=some (N .i64 k))(ht:P.underlying t=some (.slice E))(hz:cH P E=some z)(hs:ay P E=some 1)(hb:lI P E=some by')(h1:z.oneCell'=true)
  (hk0:k*by'≤140737488355328) (hk63:k<9223372036854775808) (hn:Nat.blt d n.sz=true)
  (hk:∀s,Go c n ((d,s)::l) (.sl s (List.replicate k z) E::W) (wpList P ops Q rest)):
  Go c n l W (wpList P ops Q (⟨some d,.makeSlice t x y,T,pos,after,none⟩::rest)):=
 fi rfl rfl hn (Φ:=fun u V=>V = .sl u (List.replicate k z) E::W)
  (fun a w ha hw=>by
   obtain⟨i,hi,hz',hs',hb'⟩:=mN hz hs hb
   have hbytes:(i.bytes:Int)*(k:Int)≤281474976710656:=by
    rw[hb']
    have:((by'*k:Nat):Int)≤281474976710656:=by rw[Nat.mul_comm];omega
    simpa using this
   have hr:=run_make (P:=P) w t E i z ht hi hz' .i64 .i64 (k:Int) (k:Int) (by omega) (by omega) hbytes (by omega)
   rw[hs',Int.toNat_natCast,Nat.mul_one]at hr
   have hmc:madeCells z.cells k=(List.replicate k z).toArray:=by
    apply Array.ext
    ·simp[madeCells]
    ·intro j h1' h2'
     simp[madeCells,gh h1,Nat.mod_one]
   rw[hmc]at hr
   refine⟨_,_,_,?_,hw.alloc (o:=.cells (List.replicate k z).toArray E) (r:=.sl (.slice (some ⟨w.heap.size,0,none⟩) k k) (List.replicate k z) E) rfl ?_,rfl⟩
   ·have hr':(Instr.makeSlice t (N .i64 k) (N .i64 k)).run P w=_:=hr
    simp only[execOp,ha.ev hx,ha.ev hy,Sem.run_bind]
    rw[hr'];rfl
   ·exact .inr ⟨w.heap.size,0,k,[],[],(0,0),by simp,by simp,by simp,rfl,by simp,by simp⟩)
  (fun u V hV=>by subst hV;exact hk u)
theorem yR{x y:Operand}{k:Nat}{kk:IntKind}{t E:TypeId}{by':Nat}(hx:ev l x=some (N .i64 k))(hy:ev l y=some (N .i64 k))(ht:P.underlying t=some (.slice E))(hz:cH P E=some (N kk 0))(hs:ay P E=some 1)(hb:lI P E=some by')
  (hk0:k*by'≤140737488355328) (hk63:k<9223372036854775808) (hn:Nat.blt d n.sz=true)
  (hk:∀s,Go c n ((d,s)::l) (.sl s ((List.replicate k 0).map (N kk)) E::W) (wpList P ops Q rest)):
  Go c n l W (wpList P ops Q (⟨some d,.makeSlice t x y,T,pos,after,none⟩::rest)):=
 Ns hx hy ht hz hs hb rfl hk0 hk63 hn (fun s=>by simpa using hk s)
theorem eD{w:World}{s:Value}{xs:List Value}(h:Rd w s xs){k:Nat}(hk:k≤xs.length):(Builtin.firstCells 1 k s).run P w = .ok (xs.take k).toArray w:=by
 obtain⟨a0,cap,he,h1,h2,h3⟩:=h.shape
 cases a0 with
 | none=>obtain⟨hx,_⟩:=h2 rfl;subst hx;subst he;simp[Builtin.firstCells]
 | some a1=>
  have hl:(loadCells a1 (xs.take k).length).run P w = .ok (xs.take k).toArray w:=
   run_loadCells_list (P:=P) w a1 (xs.take k) (fun j v hv=>by
    have:xs[j]?=some v:=by
     rw[List.getElem?_take]at hv
     split at hv
     ·exact hv
     ·simp at hv
    have:=h.cells j v this
    rw[he]at this;exact this)
  rw[List.length_take,Nat.min_eq_left hk]at hl
  subst he
  simp[Builtin.firstCells,hl]
theorem Rd.drew{w:World}{s:Value}{xs:List Value}(h:Rd w s xs)(k:Nat):Rd { w with drawn:=k } s xs:=⟨h.shape,h.cells⟩
theorem rH{w:World}{t E ty:TypeId}{by':Nat}{z s y:Value}{xs ys:List Value}(ht:P.underlying t=some (.slice E))(hz:cH P E=some z)(hs:ay P E=some 1)(hb:lI P E=some by')(h1:z.oneCell'=true)
    (hS:(Res.sl s xs E).holds w) (hY:Rd w y ys) (hys:∀v∈ys,v.oneCell'=true) (hbd:(xs.length+ys.length)*by'≤140737488355328) (h63:xs.length+ys.length<9223372036854775808):
    ∃s' w',(Builtin.append_ #[t,t] ty #[s,y]).run P w = .ok s' w'∧(Res.sl s' (xs++ys) E).holds w'∧Ext (Res.sl s xs E).fp w w' ∧
      ((Res.sl s' (xs++ys) E).fp=(Res.sl s xs E).fp∨((Res.sl s' (xs++ys) E).fp=[w.heap.size])):=by
  obtain⟨i,hi,hz',hs',hb'⟩:=mN hz hs hb
  obtain⟨a1,cap1,hye,hc1,hn1,hsp1⟩:=hY.shape
  have hlenY:∀w,(Builtin.lenOf y).run P w = .ok ys.length w:=fun w=>by rw[hye];rfl
  have hfY:=fun k=>eD (P:=P) (hY.drew k) (Nat.le_refl ys.length)
  have hfY0:=eD (P:=P) hY (Nat.le_refl ys.length)
  have hcE:P.underlying t=some (.slice E):=ht
  have hdst:∃base cap,s = .slice base xs.length cap:=by
    rcases hS with⟨rfl,rfl⟩ | ⟨b,off,cap,pre,post,fz,hs⟩
    · exact⟨none,0,rfl⟩
    · exact⟨_,cap,hs.val⟩
  obtain⟨base,cap,hse⟩:=hdst
  have hz0:∀w,(zeroValue E).run P w = .ok z w:=cn hz
  have hty:∀w,(underlying t).run P w = .ok (.slice E) w:=run_underlying ht
  have hti:∀w,(typeInfo E).run P w = .ok i w:=fun w=>by simp[typeInfo,hi]
  have h63i:¬(9223372036854775807<((xs.length:Int)+(ys.length:Int))):=by omega
  by_cases hroom:xs.length+ys.length≤cap
  ·
    rcases hS with⟨hs1,hx1⟩ | ⟨b,off,cap',pre,post,fz,hs⟩
    · subst hx1
      rw[hs1]at hse;cases hse
      have hy0:ys=[]:=List.eq_nil_of_length_eq_zero (by simpa using hroom)
      subst hy0
      refine⟨.slice none 0 0,w,?_,.inl ⟨rfl,rfl⟩,Ext.refl _ _,.inl (by rw[hs1];rfl)⟩
      subst hs1
      simp at hfY0
      simp[Builtin.append_,hty,aq hs,hlenY,hfY0]
    · obtain⟨hv,g1,g2,g3,g4,g5⟩:=hs
      rw[hv]at hse;cases hse
      subst hv
      have hfit:off+xs.length+ys.length≤(pre++xs++post).toArray.size:=by simp;omega
      by_cases hy0:ys=[]
      · subst hy0
        refine⟨.slice (some ⟨b,off,none⟩) xs.length cap,w,?_,?_,Ext.refl _ _,.inl rfl⟩
        · simp at hfY0
          simp[Builtin.append_,hty,aq hs,hlenY,hfY0,storeCells,g1]
        · simp only[List.append_nil];exact .inr ⟨b,off,cap,pre,post,fz,rfl,g1,g2,g3,g4,g5⟩
      · have hfz:¬fz.1<fz.2∨(pre++xs++post).length≤fz.1:=by
          by_cases hf:fz.1<fz.2
          · exact .inr (g5 (by omega))
          · exact .inl hf
        have hst:∀(vs:List Value)(i0:Nat)(cur:List Value)(w:World),w.heap[b]?=some (.cells cur.toArray E fz)→cur.length=(pre++xs++post).length→off+xs.length+i0+vs.length≤cur.length→(∀v∈vs,v.oneCell'=true) →
            ∃cur':List Value,(storeCells ⟨b,off+xs.length,none⟩ vs i0).run P w = .ok () (w.setRow b cur'.toArray)∧cur'=cur.take (off+xs.length+i0)++vs++cur.drop (off+xs.length+i0+vs.length):=by
          intro vs
          induction vs with
          | nil=>
            intro i0 cur w hh hl hle h1v
            refine⟨cur,?_,by simp⟩
            rw[setRow_self w b _ E fz hh];rfl
          | cons v r ih=>
            intro i0 cur w hh hl hle h1v
            simp only[List.length_cons]at hle
            have hlt:off+xs.length+i0<cur.length:=by omega
            have hcell:w.cell? ⟨b,off+xs.length+i0,none⟩=some cur[off+xs.length+i0]:=by simp[World.cell?,hh,hlt]
            have hfro:w.frozen? ⟨b,off+xs.length+i0,none⟩=false:=by
              simp only[World.frozen?,hh]
              rcases hfz with h | h
              · simp;omega
              · simp;omega
            have hs1:(store ((⟨b,off+xs.length,none⟩:Addr).add i0) v).run P w = .ok () (w.setRow b (cur.set (off+xs.length+i0) v).toArray):=by
              rw[cz,run_store P w _ v _ (h1v v (by simp)),hcell]
              simp[hfro,setCell_eq_setRow w b _ cur.toArray E fz v hh]
            obtain⟨cur',hr,he⟩:=ih (i0+1) (cur.set (off+xs.length+i0) v) (w.setRow b (cur.set (off+xs.length+i0) v).toArray) (setRow_heap w b _ _ E fz hh) (by simpa using hl) (by simp;omega) (fun u hu=>h1v u (by simp[hu]))
            refine⟨cur',?_,?_⟩
            · simp only[storeCells,Sem.run_bind,hs1,Result.andThen_ok,hr,setRow_setRow]
            · rw[he]
              have e:=list_seg_step cur (off+xs.length+i0) v r (by omega)
              simpa[Nat.add_assoc]using e
        obtain⟨cur',hr,he⟩:=hst ys 0 (pre++xs++post) w g4 rfl (by simp;omega) hys
        have hcur:cur'=pre++(xs++ys)++post.drop ys.length:=by
          rw[he]
          subst g3
          simp only[Nat.add_zero]
          rw[List.take_left' (by simp),show pre.length+xs.length+ys.length=(pre++xs).length+ys.length by simp,List.drop_append]
          simp
        rw[hcur]at hr
        refine⟨.slice (some ⟨b,off,none⟩) (xs.length+ys.length) cap,w.setRow b (pre++(xs++ys)++post.drop ys.length).toArray,?_,?_,?_,.inl rfl⟩
        · simp at hfY0 hr
          simp[Builtin.append_,hty,aq hs,hlenY,hfY0,hroom,cz,hr]
        · refine .inr ⟨b,off,cap,pre,post.drop ys.length,fz,by simp,by simpa using hroom,?_,g3,setRow_heap w b _ _ E fz g4,?_⟩
          · simp;omega
          · intro hf;have:=g5 (by omega);simp at this ⊢;omega
        · exact⟨rfl,rfl,rfl,by simp,fun k _ hk=>setRow_other w b k _ (by simpa[Res.fp]using hk)⟩
  ·
    have hfit:=growslice_fits (need:=xs.length+ys.length) (old:=cap) (bytes:=by') (by omega) hbd
    have h48:¬(281474976710656<Builtin.nextslicecap (xs.length+ys.length) cap*i.bytes):=by rw[hb'];omega
    have hX:Rd w s xs:=by
      have:=RdW.own (c:=⟨w,(Res.sl s xs E).fp⟩) (W:=[.sl s xs E]) (Find.here)
      refine this w ⟨Ext.refl _ _,by simpa using hS,fun b hb=>.inr (by simpa[fps]using hb),?_⟩
      simp only[fps,List.flatMap_cons,List.flatMap_nil,List.append_nil]
      cases s with
      | slice a _ _=>cases a <;> simp[Res.fp]
      | _=>simp[Res.fp]
    have hfX:=fun k=>eD (P:=P) (hX.drew k) (Nat.le_refl xs.length)
    have hcut:xs.length+ys.length≤grownCap w (xs.length+ys.length) cap E:=by
      simp only[grownCap,Question.cut];omega
    have hzc:Builtin.zeroCells z.cells (grownCap w (xs.length+ys.length) cap E-(xs.length+ys.length))=(List.replicate (grownCap w (xs.length+ys.length) cap E-(xs.length+ys.length)) z).toArray:=by
      apply Array.ext
      · simp[Builtin.zeroCells,gh h1]
      · intro j h1' h2'
        simp[Builtin.zeroCells,gh h1,Nat.mod_one]
    refine⟨.slice (some ⟨w.heap.size,0,none⟩) (xs.length+ys.length) (grownCap w (xs.length+ys.length) cap E),
      { w with drawn:=w.drawn+1,heap:=w.heap.push (.cells (xs++ys++List.replicate (grownCap w (xs.length+ys.length) cap E-(xs.length+ys.length)) z).toArray E) },?_,?_,?_,.inr rfl⟩
    · subst hse
      have hfX':(Builtin.firstCells 1 xs.length (Value.slice base xs.length cap)).run P w.drew = .ok xs.toArray w.drew:=by
        have:=hfX (w.drawn+1);simpa using this
      have hfY':(Builtin.firstCells 1 ys.length y).run P w.drew = .ok ys.toArray w.drew:=by
        have:=hfY (w.drawn+1);simpa using this
      have hcells:xs.toArray++ys.toArray++Builtin.zeroCells z.cells (grownCap w (xs.length+ys.length) cap E-(xs.length+ys.length)) =
          (xs++ys++List.replicate (grownCap w (xs.length+ys.length) cap E-(xs.length+ys.length)) z).toArray:=by rw[hzc];simp
      have hres:(Builtin.append_ #[t,t] ty #[Value.slice base xs.length cap,y]).run P w =
          .ok (.slice (some ⟨w.heap.size,0,none⟩) (xs.length+ys.length) (grownCap w (xs.length+ys.length) cap E))
            (w.drew.alloc (.cells (xs.toArray++ys.toArray++Builtin.zeroCells z.cells (grownCap w (xs.length+ys.length) cap E-(xs.length+ys.length))) E)):=by
        simp[Builtin.append_,hty,aq hs,hlenY,hroom,h63i,h48,hti,Question.forced,hfX',hfY',hz0,newRow,grownCap,-List.append_toArray]
      rw[hcells]at hres
      exact hres
    · refine .inr ⟨w.heap.size,0,grownCap w (xs.length+ys.length) cap E,[],List.replicate (grownCap w (xs.length+ys.length) cap E-(xs.length+ys.length)) z,(0,0),by simp,by simpa using hcut,?_,rfl,?_,by simp⟩
      · simp;omega
      · simp
    · exact⟨rfl,rfl,rfl,by simp,fun k hk _=>by
        show(w.heap.push _)[k]?=_
        rw[Array.getElem?_push,if_neg (by omega)]⟩
theorem Fm{x y:Operand}{s y0:Value}{xs ys:List Value}{t E:TypeId}{by':Nat}{z:Value}{R:List Res}(hx:ev l x=some s)(hy:ev l y=some y0)(hf:Find W (.sl s xs E) R)(hr:RdW c W y0 ys)
  (ht:P.underlying t=some (.slice E)) (hz:cH P E=some z) (hs:ay P E=some 1) (hb:lI P E=some by') (h1:z.oneCell'=true)
  (hys:∀v∈ys,v.oneCell'=true) (hbd:(xs.length+ys.length)*by'≤140737488355328) (h63:xs.length+ys.length<9223372036854775808) (hn:Nat.blt d n.sz=true)
  (hk:∀s',Go c n ((d,s')::l) (.sl s' (xs++ys) E::R) (wpList P ops Q rest)):
  Go c n l W (wpList P ops Q (⟨some d,.call { callee:=.builtin .append,args:=#[x,y],argTypes:=#[t,t] },T,pos,after,none⟩::rest)):=
 fi rfl rfl hn (Φ:=fun u V=>V = .sl u (xs++ys) E::R)
  (fun a w ha hw=>by
   have hY:=hr w hw
   have hw:=hw.perm hf.perm
   obtain⟨s',w',h2,h3,h4,h5⟩:=rH (P:=P) (ty:=T) ht hz hs hb h1 (hw.holds _ (List.mem_cons_self ..)) hY hys hbd h63
   refine⟨s',w',_,by simp[execOp,ha.ev hx,ha.ev hy,resolve,invoke,builtin,h2],?_,rfl⟩
   rcases h5 with h5 | h5
   ·exact hw.upd h5 h4 h3
   ·have hlt:=hw.lt
    have hn:=hw.nd
    simp only[fps,List.flatMap_cons]at hn hlt
    obtain⟨n1,n2,n3⟩:=List.nodup_append.1 hn
    refine⟨hw.ext.trans h4 (fun q hq=>hw.own q (by simp only[fps,List.flatMap_cons,List.mem_append];exact .inl hq)),?_,?_,?_⟩
    ·intro r hr
     rcases List.mem_cons.1 hr with rfl | hr
     ·exact h3
     ·exact Res.holds_congr (hw.holds r (List.mem_cons_of_mem _ hr)) fun b hb=>h4.block b (Res.fp_lt (hw.holds r (List.mem_cons_of_mem _ hr)) b hb) fun hb'=>n3 b hb' b (List.mem_flatMap.2 ⟨r,hr,hb⟩) rfl
    ·intro b hb
     simp only[fps,List.flatMap_cons,h5,List.mem_append,List.mem_singleton]at hb
     rcases hb with rfl | hb
     ·exact .inl hw.ext.size
     ·exact hw.own b (by simp only[fps,List.flatMap_cons,List.mem_append];exact .inr hb)
    ·simp only[fps,List.flatMap_cons,h5]
     refine List.nodup_append.2 ⟨by simp,n2,fun p hp q hq=>?_⟩
     simp only[List.mem_singleton]at hp;subst hp
     have:=hlt q (List.mem_append.2 (.inr hq));omega)
  (fun u V hV=>by subst hV;exact hk u)
theorem hJ{x y:Operand}{s y0:Value}{kk:IntKind}{xs ys:List Nat}{t E:TypeId}{by':Nat}{R:List Res}(hx:ev l x=some s)(hy:ev l y=some y0)(hf:Find W (.sl s (xs.map (N kk)) E) R)(hr:RdW c W y0 (ys.map (N kk)))
  (ht:P.underlying t=some (.slice E)) (hz:cH P E=some (N kk 0)) (hs:ay P E=some 1) (hb:lI P E=some by')
  (hbd:(xs.length+ys.length)*by'≤140737488355328) (h63:xs.length+ys.length<9223372036854775808) (hn:Nat.blt d n.sz=true)
  (hk:∀s',Go c n ((d,s')::l) (.sl s' ((xs++ys).map (N kk)) E::R) (wpList P ops Q rest)):
  Go c n l W (wpList P ops Q (⟨some d,.call { callee:=.builtin .append,args:=#[x,y],argTypes:=#[t,t] },T,pos,after,none⟩::rest)):=
 Fm hx hy hf hr ht hz hs hb rfl (by simp[Value.oneCell']) (by simpa using hbd) (by simpa using h63) hn (fun s'=>by rw[← List.map_append];exact hk s')
theorem en{w:World}{b off:Nat}{cur:List Value}{E:TypeId}{vs:List Value}(hh:w.heap[b]?=some (.cells cur.toArray E (0,0)))(hle:off+vs.length≤cur.length)(h1:∀v∈vs,v.oneCell'=true):
  (storeCells ⟨b,off,none⟩ vs).run P w = .ok () (w.setRow b (cur.take off++vs++cur.drop (off+vs.length)).toArray):=by
 have:=run_storeCells_at P b off E vs 0 cur.toArray w hh (by simpa using hle) h1
 simpa using this
theorem yI{x y:Operand}{b m lo hi:Nat}{cs ys:List Value}{y0:Value}{dT sT E U:TypeId}{R:List Res}(hx:ev l x=some (fj b m lo hi))(hy:ev l y=some y0)(hf:Find W (.blk b (.agg cs.toArray) U) R)(hr:RdW c W y0 ys)
  (ht:P.underlying dT=some (.slice E)) (hs:ay P E=some 1) (hys:∀v∈ys,v.oneCell'=true) (hm:cs.length=m) (h1:lo≤hi) (h2:hi≤m) (hn:Nat.blt d n.sz=true)
  (hk:Go c n ((d,N .i64 (min ys.length (hi-lo)))::l) (.blk b (.agg (cs.take lo++ys.take (hi-lo)++cs.drop (lo+min ys.length (hi-lo))).toArray) U::R) (wpList P ops Q rest)):
  Go c n l W (wpList P ops Q (⟨some d,.call { callee:=.builtin .copy,args:=#[x,y],argTypes:=#[dT,sT] },T,pos,after,none⟩::rest)):=
 fi rfl rfl hn (Φ:=fun u V=>u=N .i64 (min ys.length (hi-lo))∧V = .blk b (.agg (cs.take lo++ys.take (hi-lo)++cs.drop (lo+min ys.length (hi-lo))).toArray) U::R)
  (fun a w ha hw=>by
   have hY:=hr w hw
   have hw:=hw.perm hf.perm
   have hh:w.heap[b]?=some (.cells cs.toArray U (0,0)):=hw.holds _ (List.mem_cons_self ..)
   obtain⟨a1,cap1,hye,hc1,hn1,hsp1⟩:=hY.shape
   have hlenY:(Builtin.lenOf y0).run P w = .ok ys.length w:=by rw[hye];rfl
   have hfY:=eD (P:=P) hY (k:=min ys.length (hi-lo)) (Nat.min_le_left _ _)
   have etake:ys.take (min ys.length (hi-lo))=ys.take (hi-lo):=by rw[Nat.min_comm,← List.take_take];simp
   rw[etake]at hfY
   have hlen:(ys.take (hi-lo)).length=min ys.length (hi-lo):=by rw[List.length_take];omega
   by_cases hz:m=lo
   ·have e0:hi-lo=0:=by omega
    refine⟨_,w,_,?_,?_,rfl,rfl⟩
    ·have hfY0:(Builtin.firstCells 1 0 y0).run P w = .ok #[] w:=by simpa[e0]using hfY
     simp[execOp,ha.ev hx,ha.ev hy,resolve,invoke,builtin,Builtin.copy_,run_underlying ht,aq hs,hlenY,fj,e0,hfY0,storeCells,goInt]
    ·simp only[e0,List.take_zero,List.append_nil,Nat.min_zero,Nat.add_zero,List.take_append_drop]
     exact hw
   ·have hst:=en (P:=P) (off:=lo) (vs:=ys.take (hi-lo)) hh (by rw[hlen];omega) (fun v hv=>hys v (List.mem_of_mem_take hv))
    rw[hlen]at hst
    refine⟨_,_,_,?_,ce hw (r':=.blk b (.agg (cs.take lo++ys.take (hi-lo)++cs.drop (lo+min ys.length (hi-lo))).toArray) U) rfl rfl hh (fun w' h=>h),rfl,rfl⟩
    simp[execOp,ha.ev hx,ha.ev hy,resolve,invoke,builtin,Builtin.copy_,run_underlying ht,aq hs,hlenY,fj,if_neg hz,hfY,hst,goInt,Value.cells])
  (fun u V ⟨hu,hV⟩=>by subst hu;subst hV;exact hk)
theorem v6{x y:Operand}{b m lo hi:Nat}{kk:IntKind}{cs ys:List Nat}{y0:Value}{dT sT E U:TypeId}{R:List Res}(hx:ev l x=some (fj b m lo hi))(hy:ev l y=some y0)(hf:Find W (.blk b (LV kk cs) U) R)(hr:RdW c W y0 (ys.map (N kk)))
  (ht:P.underlying dT=some (.slice E)) (hs:ay P E=some 1) (hm:cs.length=m) (h1:lo≤hi) (h2:hi≤m) (hn:Nat.blt d n.sz=true)
  (hk:Go c n ((d,N .i64 (min ys.length (hi-lo)))::l) (.blk b (LV kk (cs.take lo++ys.take (hi-lo)++cs.drop (lo+min ys.length (hi-lo)))) U::R) (wpList P ops Q rest)):
  Go c n l W (wpList P ops Q (⟨some d,.call { callee:=.builtin .copy,args:=#[x,y],argTypes:=#[dT,sT] },T,pos,after,none⟩::rest)):=
 yI hx hy hf hr ht hs (by simp[Value.oneCell']) (by simpa using hm) h1 h2 hn (by simpa[LV]using hk)
theorem Bd{x y:Operand}{s:Value}{xs ys:List Value}{y0:Value}{dT sT E U:TypeId}{R:List Res}(hx:ev l x=some s)(hy:ev l y=some y0)(hf:Find W (.sl s xs U) R)(hr:RdW c W y0 ys)
  (ht:P.underlying dT=some (.slice E)) (hs:ay P E=some 1) (hys:∀v∈ys,v.oneCell'=true) (hn:Nat.blt d n.sz=true)
  (hk:Go c n ((d,N .i64 (min ys.length xs.length))::l) (.sl s (ys.take xs.length++xs.drop (min ys.length xs.length)) U::R) (wpList P ops Q rest)):
  Go c n l W (wpList P ops Q (⟨some d,.call { callee:=.builtin .copy,args:=#[x,y],argTypes:=#[dT,sT] },T,pos,after,none⟩::rest)):=
 fi rfl rfl hn (Φ:=fun u V=>u=N .i64 (min ys.length xs.length)∧V = .sl s (ys.take xs.length++xs.drop (min ys.length xs.length)) U::R)
  (fun a w ha hw=>by
   have hY:=hr w hw
   have hw:=hw.perm hf.perm
   obtain⟨a1,cap1,hye,hc1,hn1,hsp1⟩:=hY.shape
   have hlenY:(Builtin.lenOf y0).run P w = .ok ys.length w:=by rw[hye];rfl
   have hfY:=eD (P:=P) hY (k:=min ys.length xs.length) (Nat.min_le_left _ _)
   have etake:ys.take (min ys.length xs.length)=ys.take xs.length:=by rw[Nat.min_comm,← List.take_take];simp
   rw[etake]at hfY
   have hlen:(ys.take xs.length).length=min ys.length xs.length:=by rw[List.length_take];omega
   rcases hw.holds _ (List.mem_cons_self ..)with⟨rfl,rfl⟩ | ⟨b,off,cap,pre,post,fz,hs'⟩
   ·refine⟨_,w,_,?_,?_,rfl,rfl⟩
    ·have hfY0:(Builtin.firstCells 1 0 y0).run P w = .ok #[] w:=by simpa using hfY
     simp[execOp,ha.ev hx,ha.ev hy,resolve,invoke,builtin,Builtin.copy_,run_underlying ht,aq hs,hlenY,hfY0,goInt]
    ·simpa using hw
   ·obtain⟨rfl,g1,g2,g3,g4,g5⟩:=hs'
    by_cases hf0:fz.1<fz.2
    ·
     have hst:∀(vs:List Value)(i0:Nat)(cur:List Value)(w:World),w.heap[b]?=some (.cells cur.toArray U fz)→cur.length=(pre++xs++post).length→off+i0+vs.length≤cur.length→(∀v∈vs,v.oneCell'=true) →
       (storeCells ⟨b,off,none⟩ vs i0).run P w = .ok () (w.setRow b (cur.take (off+i0)++vs++cur.drop (off+i0+vs.length)).toArray):=by
      intro vs
      induction vs with
      | nil=>
       intro i0 cur w hh hl hle h1v
       simp only[List.append_nil,List.length_nil,Nat.add_zero,List.take_append_drop]
       rw[setRow_self w b _ U fz hh];rfl
      | cons v r ih=>
       intro i0 cur w hh hl hle h1v
       simp only[List.length_cons]at hle
       have hlt:off+i0<cur.length:=by omega
       have hcell:w.cell? ⟨b,off+i0,none⟩=some cur[off+i0]:=by simp[World.cell?,hh,hlt]
       have hg:=g5 (by omega)
       have hfro:w.frozen? ⟨b,off+i0,none⟩=false:=by
        simp only[World.frozen?,hh]
        simp;omega
       have hs1:(store ((⟨b,off,none⟩:Addr).add i0) v).run P w = .ok () (w.setRow b (cur.set (off+i0) v).toArray):=by
        rw[cz,run_store P w _ v _ (h1v v (by simp)),hcell]
        simp[hfro,setCell_eq_setRow w b _ cur.toArray U fz v hh]
       have hr:=ih (i0+1) (cur.set (off+i0) v) (w.setRow b (cur.set (off+i0) v).toArray) (setRow_heap w b _ _ U fz hh) (by simpa using hl) (by simp;omega) (fun u hu=>h1v u (by simp[hu]))
       have e:=list_seg_step cur (off+i0) v r (by omega)
       simp only[storeCells,Sem.run_bind,hs1,Result.andThen_ok,hr,setRow_setRow]
       congr 3
     have hst':=hst (ys.take xs.length) 0 (pre++xs++post) w g4 rfl (by rw[hlen];simp;omega) (fun v hv=>hys v (List.mem_of_mem_take hv))
     rw[hlen]at hst'
     have hcur:(pre++xs++post).take (off+0)++ys.take xs.length++(pre++xs++post).drop (off+0+min ys.length xs.length)=pre++(ys.take xs.length++xs.drop (min ys.length xs.length))++post:=by
      subst g3
      simp only[Nat.add_zero,List.append_assoc]
      rw[List.take_left' rfl,List.drop_append,List.drop_eq_nil_of_le (by omega),Nat.add_sub_cancel_left,List.drop_append]
      simp[show min ys.length xs.length-xs.length=0 by omega]
     rw[hcur]at hst'
     have hl2:(ys.take xs.length++xs.drop (min ys.length xs.length)).length=xs.length:=by simp;omega
     refine⟨_,_,_,?_,ce hw (r':=.sl (.slice (some ⟨b,off,none⟩) xs.length cap) (ys.take xs.length++xs.drop (min ys.length xs.length)) U) rfl rfl g4 (fun w' h=>.inr ⟨b,off,cap,pre,post,fz,by rw[hl2],by rw[hl2];exact g1,by rw[hl2];exact g2,g3,h,fun hf=>by have:=g5 (by omega);simp only[List.length_append,hl2]at this ⊢;exact this⟩),rfl,rfl⟩
     simp[execOp,ha.ev hx,ha.ev hy,resolve,invoke,builtin,Builtin.copy_,run_underlying ht,aq hs,hlenY,hfY,hst',goInt]
    ·have hst:∀(vs:List Value)(i0:Nat)(cur:List Value)(w:World),w.heap[b]?=some (.cells cur.toArray U fz)→off+i0+vs.length≤cur.length→(∀v∈vs,v.oneCell'=true) →
       (storeCells ⟨b,off,none⟩ vs i0).run P w = .ok () (w.setRow b (cur.take (off+i0)++vs++cur.drop (off+i0+vs.length)).toArray):=by
      intro vs
      induction vs with
      | nil=>
       intro i0 cur w hh hle h1v
       simp only[List.append_nil,List.length_nil,Nat.add_zero,List.take_append_drop]
       rw[setRow_self w b _ U fz hh];rfl
      | cons v r ih=>
       intro i0 cur w hh hle h1v
       simp only[List.length_cons]at hle
       have hlt:off+i0<cur.length:=by omega
       have hcell:w.cell? ⟨b,off+i0,none⟩=some cur[off+i0]:=by simp[World.cell?,hh,hlt]
       have hfro:w.frozen? ⟨b,off+i0,none⟩=false:=by
        simp only[World.frozen?,hh]
        simp;omega
       have hs1:(store ((⟨b,off,none⟩:Addr).add i0) v).run P w = .ok () (w.setRow b (cur.set (off+i0) v).toArray):=by
        rw[cz,run_store P w _ v _ (h1v v (by simp)),hcell]
        simp[hfro,setCell_eq_setRow w b _ cur.toArray U fz v hh]
       have hr:=ih (i0+1) (cur.set (off+i0) v) (w.setRow b (cur.set (off+i0) v).toArray) (setRow_heap w b _ _ U fz hh) (by simp;omega) (fun u hu=>h1v u (by simp[hu]))
       have e:=list_seg_step cur (off+i0) v r (by omega)
       simp only[storeCells,Sem.run_bind,hs1,Result.andThen_ok,hr,setRow_setRow]
       congr 3
     have hst':=hst (ys.take xs.length) 0 (pre++xs++post) w g4 (by rw[hlen];simp;omega) (fun v hv=>hys v (List.mem_of_mem_take hv))
     rw[hlen]at hst'
     have hcur:(pre++xs++post).take (off+0)++ys.take xs.length++(pre++xs++post).drop (off+0+min ys.length xs.length)=pre++(ys.take xs.length++xs.drop (min ys.length xs.length))++post:=by
      subst g3
      simp only[Nat.add_zero,List.append_assoc]
      rw[List.take_left' rfl,List.drop_append,List.drop_eq_nil_of_le (by omega),Nat.add_sub_cancel_left,List.drop_append]
      simp[show min ys.length xs.length-xs.length=0 by omega]
     rw[hcur]at hst'
     have hl2:(ys.take xs.length++xs.drop (min ys.length xs.length)).length=xs.length:=by simp;omega
     refine⟨_,_,_,?_,ce hw (r':=.sl (.slice (some ⟨b,off,none⟩) xs.length cap) (ys.take xs.length++xs.drop (min ys.length xs.length)) U) rfl rfl g4 (fun w' h=>.inr ⟨b,off,cap,pre,post,fz,by rw[hl2],by rw[hl2];exact g1,by rw[hl2];exact g2,g3,h,fun hf=>by have:=g5 (by omega);simp only[List.length_append,hl2]at this ⊢;exact this⟩),rfl,rfl⟩
     simp[execOp,ha.ev hx,ha.ev hy,resolve,invoke,builtin,Builtin.copy_,run_underlying ht,aq hs,hlenY,hfY,hst',goInt])
  (fun u V ⟨hu,hV⟩=>by subst hu;subst hV;exact hk)
theorem yJ{x y:Operand}{s:Value}{kk:IntKind}{xs ys:List Nat}{y0:Value}{dT sT E U:TypeId}{R:List Res}(hx:ev l x=some s)(hy:ev l y=some y0)(hf:Find W (.sl s (xs.map (N kk)) U) R)(hr:RdW c W y0 (ys.map (N kk)))
  (ht:P.underlying dT=some (.slice E)) (hs:ay P E=some 1) (hn:Nat.blt d n.sz=true)
  (hk:Go c n ((d,N .i64 (min ys.length xs.length))::l) (.sl s ((ys.take xs.length++xs.drop (min ys.length xs.length)).map (N kk)) U::R) (wpList P ops Q rest)):
  Go c n l W (wpList P ops Q (⟨some d,.call { callee:=.builtin .copy,args:=#[x,y],argTypes:=#[dT,sT] },T,pos,after,none⟩::rest)):=
 Bd hx hy hf hr ht hs (by simp[Value.oneCell']) hn (by simpa using hk)
def Seq:Nat→List (Nat×Operand)→Bool
 | _,[]=>true
 | i,p::r=>Nat.beq p.1 i&&Seq (i+1) r
theorem qG:∀(parts:List (Nat×Value))(i:Nat)(done z:List Value),(∀j p,parts[j]?=some p→p.1=i+j∧p.2.oneCell'=true)→done.length=i→parts.length=z.length →
  Instr.fill (fun i=>some (i*1,1)) (done++z).toArray parts=some (done++parts.map (·.2)).toArray
 | [],i,done,z,_,_,hl=>by
  have:z=[]:=List.eq_nil_of_length_eq_zero hl.symm
  subst this;simp[Instr.fill]
 | (q,v)::r,i,done,z,hp,hd,hl=>by
  obtain⟨h1,h2⟩:=hp 0 (q,v) rfl
  simp only[Nat.add_zero]at h1 h2
  subst h1
  cases z with
  | nil=>simp at hl
  | cons z0 zr=>
   have hc:=gh h2
   have ih:=qG r (q+1) (done++[v]) zr (fun j p hj=>by
    have:=hp (j+1) p (by simpa using hj)
    exact⟨by omega,this.2⟩) (by simp[hd]) (by simpa using hl)
   have hset:(done++z0::zr).set q v=done++[v]++zr:=by
    subst hd
    rw[List.set_append_right _ _ (by omega)];simp
   simp only[Instr.fill,Nat.mul_one,hc]
   rw[if_neg (by simp;omega)]
   have hzi:(#[v].zipIdx) = #[(v,0)]:=by simp
   simp only[hzi]
   simp only[List.size_toArray,List.length_cons,List.length_nil,List.foldl_toArray',List.foldl_cons,List.foldl_nil,Nat.add_zero,List.setIfInBounds_toArray,hset]
   simp only[Nat.mul_one]at ih
   simpa using ih
theorem nc{a:Act}:∀{ps:List (Nat×Operand)}{i:Nat}{vs:List Value}(_:SatA n l a)(_:Seq i ps=true)(_:evs l (ps.map (·.2))=some vs)(_:vs.all (·.oneCell')=true),
  (ps.map fun(i,x)=>(i,a.eval x)).map (·.2)=vs∧∀j p,(ps.map fun(i,x)=>(i,a.eval x))[j]?=some p→p.1=i+j∧p.2.oneCell'=true
 | [],i,vs,ha,hs,he,h1=>by simp[evs]at he;subst he;simp
 | (q,x)::r,i,vs,ha,hs,he,h1=>by
  simp only[Seq,Bool.and_eq_true]at hs
  simp only[List.map_cons,evs]at he
  split at he
  ·rename_i v us hx hr
   simp at he;subst he
   simp only[List.all_cons,Bool.and_eq_true]at h1
   obtain⟨g1,g2⟩:=nc (ps:=r) (i:=i+1) ha hs.2 hr h1.2
   refine⟨by simp[ha.ev hx];simpa using g1,fun j p hj=>?_⟩
   cases j with
   | zero=>simp at hj;subst hj;exact⟨by simpa using Nat.eq_of_beq_eq_true hs.1,by rw[ha.ev hx];exact h1.1⟩
   | succ j=>have:=g2 j p (by simpa using hj);exact⟨by omega,this.2⟩
  ·simp at he
theorem ci{t E:TypeId}{k:Nat}{ps:List (Nat×Operand)}{vs:List Value}{z:Value}(ht:P.underlying t=some (.slice E))(hz:cH P E=some z)(hs:ay P E=some 1)(h1:z.oneCell'=true)
  (hq:Seq 0 ps=true) (hl:ps.length=k) (hv:evs l (ps.map (·.2))=some vs) (hone:vs.all (·.oneCell')=true) (hk24:Nat.ble k 16777216=true) (hn:Nat.blt d n.sz=true)
  (hk:∀s,Go c n ((d,s)::l) (.sl s vs E::W) (wpList P ops Q rest)):
  Go c n l W (wpList P ops Q (⟨some d,.buildSlice t k ps.toArray,T,pos,after,none⟩::rest)):=
 fi rfl rfl hn (Φ:=fun u V=>V = .sl u vs E::W)
  (fun a w ha hw=>by
   obtain⟨g1,g2⟩:=nc ha hq hv hone
   have hlen:vs.length=k:=by rw[← g1];simp[hl]
   have hle:¬(16777216<k):=by have:=Nat.le_of_ble_eq_true hk24;omega
   have hfill:=qG (ps.map fun(i,x)=>(i,a.eval x)) 0 [] (List.replicate k z) (fun j p hj=>by have:=g2 j p hj;exact⟨by omega,this.2⟩) rfl (by simp[hl])
   rw[g1]at hfill
   simp only[List.nil_append]at hfill
   have hmc:∀zs:Array Value,(k=0∨zs = #[z])→(Array.range k).map (fun j=>zs[j%zs.size]!)=(List.replicate k z).toArray:=by
    intro zs h
    rcases h with rfl | rfl
    ·simp
    ·apply Array.ext
     ·simp
     ·intro j h1' h2'
      simp[Nat.mod_one]
   refine⟨_,_,_,?_,hw.alloc (o:=.cells vs.toArray E) (r:=.sl (.slice (some ⟨w.heap.size,0,none⟩) k k) vs E) rfl ?_,rfl⟩
   ·by_cases hk0:k=0
    ·subst hk0
     simp only[execOp,Instr.buildSlice,Sem.run_bind,run_underlying ht,aq hs,Result.andThen_ok,List.map_toArray]
     simp at hfill
     simp[hfill,newRow,Array.range_zero']
    ·have h0:=hmc #[z] (.inr rfl)
     simp only[execOp,Instr.buildSlice,Sem.run_bind,run_underlying ht,aq hs,Result.andThen_ok,List.map_toArray,Nat.mul_one]
     simp[hle,hk0,cn hz,gh h1]at h0 ⊢
     rw[h0]
     simp at hfill
     simp[hfill,newRow]
   ·exact .inr ⟨w.heap.size,0,k,[],[],(0,0),by simp[hlen],by simp[hlen],by simp[hlen],rfl,by simp,by simp⟩)
  (fun u V hV=>by subst hV;exact hk u)
theorem bL{t E:TypeId}{k:Nat}{ps:List (Nat×Operand)}{kk:IntKind}{vs:List Nat}(ht:P.underlying t=some (.slice E))(hz:cH P E=some (N kk 0))(hs:ay P E=some 1)
  (hq:Seq 0 ps=true) (hl:ps.length=k) (hv:evs l (ps.map (·.2))=some (vs.map (N kk))) (hk24:Nat.ble k 16777216=true) (hn:Nat.blt d n.sz=true)
  (hk:∀s,Go c n ((d,s)::l) (.sl s (vs.map (N kk)) E::W) (wpList P ops Q rest)):
  Go c n l W (wpList P ops Q (⟨some d,.buildSlice t k ps.toArray,T,pos,after,none⟩::rest)):=
 ci ht hz hs rfl hq hl hv (by simp[Value.oneCell']) hk24 hn hk
theorem ny{t E:TypeId}{k:Nat}{ps:List (Nat×Operand)}{vs:List Value}{zs:Array Value}(ht:P.underlying t=some (.array k E))(hz:cH P t=some (.agg zs))(hzs:zs.size=k)(hs:ay P E=some 1)
  (hq:Seq 0 ps=true) (hl:ps.length=k) (hv:evs l (ps.map (·.2))=some vs) (hone:vs.all (·.oneCell')=true) (hn:Nat.blt d n.sz=true)
  (hk:Go c n ((d,.agg vs.toArray)::l) W (wpList P ops Q rest)):
  Go c n l W (wpList P ops Q (⟨some d,.build t ps.toArray,T,pos,after,none⟩::rest)):=
 aw rfl rfl hn (fun a w ha hw=>by
   obtain⟨g1,g2⟩:=nc ha hq hv hone
   have hfill:=qG (ps.map fun(i,x)=>(i,a.eval x)) 0 [] zs.toList (fun j p hj=>by have:=g2 j p hj;exact⟨by omega,this.2⟩) rfl (by simp[hl,hzs])
   rw[g1]at hfill
   simp only[List.nil_append,Array.toArray_toList,Nat.mul_one]at hfill
   simp only[execOp,Instr.build,Sem.run_bind,run_underlying ht,cn hz,aq hs,Result.andThen_ok,List.map_toArray,Value.cells,Nat.mul_one,hfill]
   rfl) hk
end
section
variable {P:Program} {c:Cx} {n:Nn} {l:Sl} {W:List Res}
theorem C7{fn:Func}{R:Ending→World→Prop}{t:Tmp}{b:Nat}{T U:TypeId}{cs:Array Value}{R0:List Res}
  (hres:fn.results = #[.cell t T]) (hv:lk l t=some (pt b 0)) (hf:Find W (.blk b (.agg cs) U) R0) (hs:cD P T=true) (hz:ay P T=some cs.size)
  (hR:∀w,SatW c W w→R (.returned (.agg cs)) w) (hD:n.df=[]:=by rfl):Go c n l W (bodyPost P fn R .ret):=fun a w ha hw=>by
 have hh:w.heap[b]?=some (.cells cs U (0,0)):=hw.holds _ hf.mem
 have hl:=cc (P:=P) (w:=w) (b:=b) (off:=0) (cs:=cs.toList) hs (by simpa using hz) hh (fun j v hv=>by simpa using hv)
 have h1:=ha.at_ t _ hv
 refine bodyPost_ret (v:=.agg cs) ?_ (ha.dfr.trans hD) (hR w hw)
 have hp:a.tmps.getD t undef=pt b 0:=by rw[Array.getD_eq_getD_getElem?,h1];rfl
 simp only[Array.toArray_toList]at hl
 have hp':a.tmps[t]?.getD undef=pt b 0:=by simpa using hp
 simp[results,hres,hp',asAddr,hl]
theorem Be{fn:Func}{R:Ending→World→Prop}{t:Tmp}{b m:Nat}{T U:TypeId}{k:IntKind}{ys:List Nat}{R0:List Res}
  (hres:fn.results = #[.cell t T]) (hv:lk l t=some (pt b 0)) (hf:Find W (.blk b (LV k ys) U) R0) (hs:cD P T=true) (hz:ay P T=some m) (hl:ys.length=m)
  (hR:∀w,SatW c W w→R (.returned (LV k ys)) w) (hD:n.df=[]:=by rfl):Go c n l W (bodyPost P fn R .ret):=
 C7 hres hv hf hs (by subst hl;simpa using hz) hR hD
theorem yL{fn:Func}{R:Ending→World→Prop}{t u:Tmp}{b:Nat}{T U:TypeId}{cs:Array Value}{v:Value}{R0:List Res}
  (hres:fn.results = #[.cell t T,.tmp u]) (hv:lk l t=some (pt b 0)) (hu:lk l u=some v) (hf:Find W (.blk b (.agg cs) U) R0) (hs:cD P T=true) (hz:ay P T=some cs.size)
  (hR:∀w,SatW c W w→R (.returned (.tuple #[.agg cs,v])) w) (hD:n.df=[]:=by rfl):Go c n l W (bodyPost P fn R .ret):=fun a w ha hw=>by
 have hh:w.heap[b]?=some (.cells cs U (0,0)):=hw.holds _ hf.mem
 have hl:=cc (P:=P) (w:=w) (b:=b) (off:=0) (cs:=cs.toList) hs (by simpa using hz) hh (fun j v hv=>by simpa using hv)
 have h1:=ha.at_ t _ hv
 have h2:=ha.at_ u _ hu
 refine bodyPost_ret (v:=.tuple #[.agg cs,v]) ?_ (ha.dfr.trans hD) (hR w hw)
 have hp':a.tmps[t]?.getD undef=pt b 0:=by rw[h1];rfl
 have hu':a.tmps[u]?.getD undef=v:=by rw[h2];rfl
 simp only[Array.toArray_toList]at hl
 simp[results,hres,hp',hu',asAddr,hl]
theorem t4{fn:Func}{R:Ending→World→Prop}{t u:Tmp}{b b':Nat}{T T' U U':TypeId}{cs cs':Array Value}{R0 R1:List Res}
  (hres:fn.results = #[.cell t T,.cell u T']) (hv:lk l t=some (pt b 0)) (hu:lk l u=some (pt b' 0)) (hf:Find W (.blk b (.agg cs) U) R0) (hf':Find W (.blk b' (.agg cs') U') R1) (hs:cD P T=true) (hz:ay P T=some cs.size)
  (hs':cD P T'=true) (hz':ay P T'=some cs'.size)
  (hR:∀w,SatW c W w→R (.returned (.tuple #[.agg cs,.agg cs'])) w) (hD:n.df=[]:=by rfl):Go c n l W (bodyPost P fn R .ret):=fun a w ha hw=>by
 have hh:w.heap[b]?=some (.cells cs U (0,0)):=hw.holds _ hf.mem
 have hh':w.heap[b']?=some (.cells cs' U' (0,0)):=hw.holds _ hf'.mem
 have hl:=cc (P:=P) (w:=w) (b:=b) (off:=0) (cs:=cs.toList) hs (by simpa using hz) hh (fun j v hv=>by simpa using hv)
 have hl':=cc (P:=P) (w:=w) (b:=b') (off:=0) (cs:=cs'.toList) hs' (by simpa using hz') hh' (fun j v hv=>by simpa using hv)
 have h1:=ha.at_ t _ hv
 have h2:=ha.at_ u _ hu
 refine bodyPost_ret (v:=.tuple #[.agg cs,.agg cs']) ?_ (ha.dfr.trans hD) (hR w hw)
 have hp':a.tmps[t]?.getD undef=pt b 0:=by rw[h1];rfl
 have hu':a.tmps[u]?.getD undef=pt b' 0:=by rw[h2];rfl
 simp only[Array.toArray_toList]at hl hl'
 simp[results,hres,hp',hu',asAddr,hl,hl']
end
inductive Kd where
 | free
 | pin
 | eff
def Kd.isEff:Kd→Bool
 | .eff=>true
 | _=>false
def Kd.isPin:Kd→Bool
 | .pin=>true
 | _=>false
def R8(o:Oper):List Nat:=o.op.operands.toList.filterMap fun | .tmp t=>some t | _=>none
def Ca(ops:Array Oper)(o:Oper):List Nat:=
 match o.guard with
 | some (j,_)=>((ops[j]?).bind (·.dst)).toList
 | none=>[]
def fa(ops:Array Oper)(o:Oper):List Nat:=Ca ops o++R8 o
def oA(l:Sl):List Nat→Sl
 | []=>[]
 | t::r=>match lk l t with
  | some v=>(t,v)::oA l r
  | none=>oA l r
def bR(ops:Array Oper)(o:Oper)(l:Sl):Sl:=oA l (fa ops o)
theorem dI{l m:Sl}{t:Nat}:lk (l++m) t=match lk l t with | some v=>some v | none=>lk m t:=by
 induction l with
 | nil=>simp[lk]
 | cons p r ih=>
  obtain⟨q,v⟩:=p
  simp only[List.cons_append,lk]
  cases Nat.beq q t <;> simp[ih]
theorem gN{l:Sl}{t:Nat}{v:Value}:∀{ns:List Nat},lk (oA l ns) t=some v→lk l t=some v∧t∈ns
 | [],h=>by simp[oA,lk]at h
 | q::r,h=>by
  simp only[oA]at h
  split at h
  ·rename_i u hu
   simp only[lk]at h
   by_cases hc:q=t
   ·subst hc;simp at h;subst h;exact⟨hu,by simp⟩
   ·rw[iJ hc]at h
    obtain⟨h1,h2⟩:=gN (ns:=r) h
    exact⟨h1,by simp[h2]⟩
  ·obtain⟨h1,h2⟩:=gN (ns:=r) h
   exact⟨h1,by simp[h2]⟩
def noG(o:Oper):Oper:={ o with guard:=none }
section
variable (P:Program) (c:Cx) (n:Nn)
def OpV(W W':List Res)(lr:Sl)(o:Oper)(u:Option (Nat×Value)):Prop:=
 ∀w0 m,SatW c W w0→Go ⟨w0,fps W⟩ n (lr++m) W (wpList P #[] (fun e a w=>e = .normal∧SatA n (u.toList++(lr++m)) a∧SatW ⟨w0,fps W⟩ W' w) [o])
end
def bO(ops:Array Oper)(l:Sl)(o:Oper):Option Bool:=
 match o.guard with
 | none=>some true
 | some (j,want)=>match (ops[j]?).bind (·.dst)with
  | none=>none
  | some t=>match lk l t with
   | some (.bool b)=>some (b==want)
   | some (.tuple _)=>some false
   | _=>none
def kg(kd:Kd)(W:List Res):List Res:=match kd with
 | .free=>[]
 | _=>W
inductive QT (P:Program) (c:Cx) (n:Nn) (ops:Array Oper):List Oper→List (List Res)→Sl→List (Option (Nat×Value))→List Kd→Sl→Prop
 | nil {l:Sl} {W:List Res}:QT P c n ops [] [W] l [] [] l
 | val {o:Oper} {rest:List Oper} {l lf:Sl} {d:Nat} {v:Value} {us:List (Option (Nat×Value))} {ks:List Kd} {W:List Res} {Ws:List (List Res)} (kd:Kd) (hk:kd.isEff=false) (hd:o.dst=some d) (hn:Nat.blt d n.sz=true)
   (hg:bO ops l o=some true) (h:OpV P c n (kg kd W) (kg kd W) (bR ops o l) (noG o) (some (d,v))) (hr:QT P c n ops rest (W::Ws) ((d,v)::l) us ks lf):
   QT P c n ops (o::rest) (W::Ws) l (some (d,v)::us) (kd::ks) lf
 | no {o:Oper} {rest:List Oper} {l lf:Sl} {d:Nat} {us:List (Option (Nat×Value))} {ks:List Kd} {W:List Res} {Ws:List (List Res)} (hd:o.dst=some d) (hn:Nat.blt d n.sz=true)
   (hg:bO ops l o=some false) (hr:QT P c n ops rest (W::Ws) ((d,undef)::l) us ks lf):
   QT P c n ops (o::rest) (W::Ws) l (some (d,undef)::us) (.free::ks) lf
 | eff {o:Oper} {rest:List Oper} {l lf:Sl} {us:List (Option (Nat×Value))} {ks:List Kd} {W W':List Res} {Ws:List (List Res)} (hd:o.dst=none)
   (hg:bO ops l o=some true) (h:OpV P c n W W' (bR ops o l) (noG o) none) (hr:QT P c n ops rest (W'::Ws) l us ks lf):
   QT P c n ops (o::rest) (W::W'::Ws) l (none::us) (.eff::ks) lf
 | effd {o:Oper} {rest:List Oper} {l lf:Sl} {d:Nat} {v:Value} {us:List (Option (Nat×Value))} {ks:List Kd} {W W':List Res} {Ws:List (List Res)} (hd:o.dst=some d) (hn:Nat.blt d n.sz=true)
   (hg:bO ops l o=some true) (h:OpV P c n W W' (bR ops o l) (noG o) (some (d,v))) (hr:QT P c n ops rest (W'::Ws) ((d,v)::l) us ks lf):
   QT P c n ops (o::rest) (W::W'::Ws) l (some (d,v)::us) (.eff::ks) lf
def gk(o:Oper):List Nat:=(o.after.toList.filter (Region.binds .any)).map (·.on)
def ru(anc:List Nat):List Nat→Nat
 | []=>0
 | j::r=>(2^j ||| anc.getD j 0) ||| ru anc r
def dA:List Oper→List Nat→List Nat
 | [],anc=>anc
 | o::r,anc=>dA r (anc++[ru anc (gk o)])
def mw:List Oper→Nat→List Nat→Bool
 | [],_,_=>true
 | o::r,i,anc=>(gk o).all (fun j=>Nat.blt j i)&&Nat.beq ((anc.getD i 0) ||| ru anc (gk o)) (ru anc (gk o))&&mw r (i+1) anc
def HP(o:Oper)(t:Nat):Bool:=match o.dst with
 | some d=>Nat.beq d t
 | none=>false
def ix(ops:Array Oper)(x y:Oper):Bool:=
  (match x.dst with
   | some d=>HP y d||(fa ops y).any (Nat.beq d)
   | none=>false) ||
  (match y.dst with
   | some d=>(fa ops x).any (Nat.beq d)
   | none=>false)
def vK{α:Type}(cl:α→α→Bool)(anc:List Nat)(i:Nat)(x:α):List α→Nat→Bool
 | [],_=>true
 | y::r,j=>(!cl x y||Nat.testBit (anc.getD j 0) i)&&vK cl anc i x r (j+1)
def na{α:Type}(cl:α→α→Bool)(anc:List Nat):List α→Nat→Bool
 | [],_=>true
 | x::r,i=>vK cl anc i x r (i+1)&&na cl anc r (i+1)
def mQ:Kd→Kd→Bool
 | .eff,.eff=>true
 | .eff,.pin=>true
 | .pin,.eff=>true
 | _,_=>false
def chk(os:List Oper)(ks:List Kd):Bool:=
 let anc:=dA os []
 mw os 0 anc&&na (ix os.toArray) anc os 0&&na mQ anc ks 0
def stT:List Kd→Nat
 | []=>0
 | k::r=>(if k.isEff then 1 else 0)+stT r
def stD:List Kd→(Nat→Bool)→Nat→Nat
 | [],_,_=>0
 | k::r,D,i=>(if k.isEff&&D i then 1 else 0)+stD r D (i+1)
theorem rS:∀(ks:List Kd)(D:Nat→Bool)(i:Nat),(∀j,ks[j]?=some .eff→D (i+j)=false)→stD ks D i=0
 | [],D,i,h=>rfl
 | k::r,D,i,h=>by
  have ih:=rS r D (i+1) (fun j hj=>by have:=h (j+1) (by simpa using hj);rw[show i+1+j=i+(j+1) by omega];exact this)
  have h0:(k.isEff&&D i)=false:=by
   cases k <;> simp[Kd.isEff]
   simpa using h 0 (by simp)
  simp only[stD,ih,h0];rfl
theorem rT:∀(ks:List Kd)(D:Nat→Bool)(i k:Nat),(∀j,ks[j]?=some .eff→j<k→D (i+j)=true)→(∀j,ks[j]?=some .eff→k≤j→D (i+j)=false)→stD ks D i=stT (ks.take k)
 | ks,D,i,0,_,h2=>by rw[rS ks D i (fun j hj=>h2 j hj (Nat.zero_le _))];simp[stT]
 | [],D,i,k+1,_,_=>rfl
 | x::r,D,i,k+1,h1,h2=>by
  have ih:=rT r D (i+1) k
   (fun j hj hlt=>by have:=h1 (j+1) (by simpa using hj) (by omega);rw[show i+1+j=i+(j+1) by omega];exact this)
   (fun j hj hle=>by have:=h2 (j+1) (by simpa using hj) (by omega);rw[show i+1+j=i+(j+1) by omega];exact this)
  have h0:(x.isEff&&D i)=x.isEff:=by
   cases x <;> simp[Kd.isEff]
   simpa using h1 0 (by simp) (by omega)
  simp only[stD,List.take_succ_cons,stT,ih,h0]
theorem tS:∀(ks:List Kd)(D D':Nat→Bool)(i:Nat),(∀j,D' (i+j)=D (i+j))→stD ks D' i=stD ks D i
 | [],D,D',i,_=>rfl
 | x::r,D,D',i,h=>by
  have h0:=h 0
  simp only[Nat.add_zero]at h0
  simp only[stD,h0,tS r D D' (i+1) (fun j=>by have:=h (j+1);rw[show i+1+j=i+(j+1) by omega];exact this)]
theorem vY:∀(ks:List Kd)(D D':Nat→Bool)(i k:Nat)(kd:Kd),ks[k]?=some kd→D' (i+k)=true→D (i+k)=false→(∀j,j≠k→D' (i+j)=D (i+j)) →
  stD ks D' i=stD ks D i+(if kd.isEff then 1 else 0)
 | [],D,D',i,k,kd,hu,_,_,_=>by simp at hu
 | x::r,D,D',i,0,kd,hu,h1,h2,h3=>by
  simp at hu;subst hu
  simp only[Nat.add_zero]at h1 h2
  rw[stD,stD,tS r D D' (i+1) (fun j=>by have:=h3 (j+1) (by omega);rw[show i+1+j=i+(j+1) by omega];exact this),h1,h2]
  simp[Nat.add_comm]
 | x::r,D,D',i,k+1,kd,hu,h1,h2,h3=>by
  have h0:D' i=D i:=by simpa using h3 0 (by omega)
  have ih:=vY r D D' (i+1) k kd (by simpa using hu)
   (by rw[show i+1+k=i+(k+1) by omega];exact h1) (by rw[show i+1+k=i+(k+1) by omega];exact h2)
   (fun j hj=>by have:=h3 (j+1) (by omega);rw[show i+1+j=i+(j+1) by omega];exact this)
  rw[stD,stD,ih,h0];omega
theorem tD{anc:List Nat}{j:Nat}:∀{ds:List Nat},Nat.testBit (ru anc ds) j=true→∃d∈ds,d=j∨Nat.testBit (anc.getD d 0) j=true
 | [],h=>by simp[ru]at h
 | d::r,h=>by
  simp only[ru,Nat.testBit_or,Bool.or_eq_true]at h
  rcases h with(h | h) | h
  ·rw[Nat.testBit_two_pow]at h
   exact⟨d,by simp,.inl (by simpa using h)⟩
  ·exact⟨d,by simp,.inr h⟩
  ·obtain⟨e,he,h'⟩:=tD (ds:=r) h
   exact⟨e,by simp[he],h'⟩
theorem gR{anc:List Nat}:∀{os:List Oper}{i0:Nat},mw os i0 anc=true→∀{i:Nat}{o:Oper},os[i]?=some o →
  (∀d∈gk o,d<i0+i)∧∀j,Nat.testBit (anc.getD (i0+i) 0) j=true→∃d∈gk o,d=j∨Nat.testBit (anc.getD d 0) j=true
 | [],i0,h,i,o,ho=>by simp at ho
 | o'::r,i0,h,i,o,ho=>by
  simp only[mw,Bool.and_eq_true]at h
  cases i with
  | zero=>
   simp at ho;subst ho
   refine⟨fun d hd=>AD (List.all_eq_true.1 h.1.1 d hd),fun j hj=>tD ?_⟩
   have e:=Nat.eq_of_beq_eq_true h.1.2
   rw[← e,Nat.testBit_or]
   simp only[Nat.add_zero]at hj
   rw[hj];rfl
  | succ i=>
   have:=gR (os:=r) (i0:=i0+1) h.2 (i:=i) (o:=o) (by simpa using ho)
   rw[show i0+(i+1)=i0+1+i by omega];exact this
theorem oZ{α:Type}{cl:α→α→Bool}{anc:List Nat}{i:Nat}{x:α}:∀{r:List α}{j0:Nat},vK cl anc i x r j0=true→∀{j:Nat}{y:α},r[j]?=some y→cl x y=true→Nat.testBit (anc.getD (j0+j) 0) i=true
 | [],j0,h,j,y,hy,_=>by simp at hy
 | y'::r,j0,h,j,y,hy,hc=>by
  simp only[vK,Bool.and_eq_true]at h
  cases j with
  | zero=>simp at hy;subst hy;simpa[hc]using h.1
  | succ j=>
   have:=oZ (r:=r) (j0:=j0+1) h.2 (j:=j) (by simpa using hy) hc
   rw[show j0+(j+1)=j0+1+j by omega];exact this
theorem fg{α:Type}{cl:α→α→Bool}{anc:List Nat}:∀{os:List α}{i0:Nat},na cl anc os i0=true→∀{i j:Nat}{x y:α},i<j→os[i]?=some x→os[j]?=some y→cl x y=true→Nat.testBit (anc.getD (i0+j) 0) (i0+i)=true
 | [],i0,h,i,j,x,y,hij,hx,hy,hc=>by simp at hx
 | x'::r,i0,h,i,j,x,y,hij,hx,hy,hc=>by
  simp only[na,Bool.and_eq_true]at h
  cases j with
  | zero=>omega
  | succ j=>
   cases i with
   | zero=>
    simp at hx;subst hx
    have:=oZ h.1 (j:=j) (by simpa using hy) hc
    rw[show i0+(j+1)=i0+1+j by omega];simpa using this
   | succ i=>
    have:=fg h.2 (i:=i) (j:=j) (by omega) (by simpa using hx) (by simpa using hy) hc
    rw[show i0+(j+1)=i0+1+j by omega,show i0+(i+1)=i0+1+i by omega];exact this
abbrev Pu:=List (Option (Nat×Value))
def cur:Pu→(Nat→Bool)→Nat→Sl→Sl
 | [],_,_,l=>l
 | u::r,D,i,l=>cur r D (i+1) (if D i then u.toList++l else l)
def gq(u:Option (Nat×Value))(t:Nat):Prop:=∃v,u=some (t,v)
theorem q7{u:Option (Nat×Value)}{l:Sl}{t:Nat}(h:¬gq u t):lk (u.toList++l) t=lk l t:=by
 cases u with
 | none=>rfl
 | some p=>
  obtain⟨q,v⟩:=p
  have:¬q=t:=fun e=>h ⟨v,by rw[e]⟩
  simp[lk,iJ this]
theorem jq:∀(us:Pu)(D:Nat→Bool)(i:Nat)(l l':Sl)(t:Nat),lk l t=lk l' t→lk (cur us D i l) t=lk (cur us D i l') t
 | [],D,i,l,l',t,h=>h
 | u::r,D,i,l,l',t,h=>by
  simp only[cur]
  refine jq r D (i+1) _ _ t ?_
  split
  ·rw[dI,dI,h]
  ·exact h
theorem ka:∀(us:Pu)(D:Nat→Bool)(i:Nat)(l:Sl)(t:Nat),(∀j u,us[j]?=some u→gq u t→D (i+j)=false)→lk (cur us D i l) t=lk l t
 | [],D,i,l,t,h=>rfl
 | u::r,D,i,l,t,h=>by
  simp only[cur]
  have ih:=ka r D (i+1) (if D i then u.toList++l else l) t (fun j u' hj hw=>by
   have:=h (j+1) u' (by simpa using hj) hw
   rw[show i+1+j=i+(j+1) by omega];exact this)
  rw[ih]
  by_cases hD:D i=true
  ·rw[if_pos hD]
   refine q7 fun hw=>?_
   have:=h 0 u rfl hw
   simp at this;rw[hD]at this;cases this
  ·rw[if_neg hD]
theorem kb:∀(us:Pu)(D:Nat→Bool)(i:Nat)(l:Sl)(t k:Nat),(∀j u,us[j]?=some u→gq u t→j<k→D (i+j)=true)→(∀j u,us[j]?=some u→gq u t→k≤j→D (i+j)=false) →
  lk (cur us D i l) t=lk (cur (us.take k) (fun _=>true) i l) t
 | us,D,i,l,t,0,_,h2=>by
  rw[ka us D i l t (fun j u hj hw=>h2 j u hj hw (Nat.zero_le _))]
  simp[cur]
 | [],D,i,l,t,k+1,_,_=>by simp[cur]
 | u::r,D,i,l,t,k+1,h1,h2=>by
  simp only[cur,List.take_succ_cons,if_true]
  have ih:=kb r D (i+1) (if D i then u.toList++l else l) t k
   (fun j u' hj hw hlt=>by have:=h1 (j+1) u' (by simpa using hj) hw (by omega);rw[show i+1+j=i+(j+1) by omega];exact this)
   (fun j u' hj hw hle=>by have:=h2 (j+1) u' (by simpa using hj) hw (by omega);rw[show i+1+j=i+(j+1) by omega];exact this)
  rw[ih]
  refine jq _ _ _ _ _ t ?_
  by_cases hw:gq u t
  ·have:=h1 0 u rfl hw (by omega)
   simp at this;rw[this];simp
  ·by_cases hD:D i=true
   ·rw[if_pos hD]
   ·rw[if_neg hD,q7 hw]
theorem lN:∀(us:Pu)(D D':Nat→Bool)(i:Nat)(l:Sl)(t k:Nat)(u:Option (Nat×Value)),us[k]?=some u→D' (i+k)=true→D (i+k)=false→(∀j,j≠k→D' (i+j)=D (i+j)) →
  (¬gq u t→lk (cur us D' i l) t=lk (cur us D i l) t)∧(∀v,u=some (t,v)→(∀j x,us[j]?=some x→gq x t→k<j→D (i+j)=false)→lk (cur us D' i l) t=some v)
 | [],D,D',i,l,t,k,u,hu,_,_,_=>by simp at hu
 | x::r,D,D',i,l,t,0,u,hu,h1,h2,h3=>by
  simp at hu;subst hu
  simp only[Nat.add_zero]at h1 h2
  have hD:∀j,D' (i+1+j)=D (i+1+j):=fun j=>by have:=h3 (j+1) (by omega);rw[show i+1+j=i+(j+1) by omega];exact this
  have hcur:∀(us:Pu)(i0:Nat)(l:Sl),i+1≤i0→cur us D' i0 l=cur us D i0 l:=by
   intro us
   induction us with
   | nil=>intro i0 l _;rfl
   | cons y s ih=>
    intro i0 l hi
    simp only[cur]
    have:=hD (i0-(i+1))
    rw[show i+1+(i0-(i+1))=i0 by omega]at this
    rw[this,ih _ _ (by omega)]
  simp only[cur,h1,h2,if_true]
  rw[hcur r (i+1) _ (by omega)]
  refine⟨fun hw=>jq _ _ _ _ _ t (by simpa using q7 hw),fun v hv hlate=>?_⟩
  rw[ka r D (i+1) _ t (fun j y hj hw=>by
   have:=hlate (j+1) y (by simpa using hj) hw (by omega)
   rw[show i+1+j=i+(j+1) by omega];exact this)]
  subst hv
  simp[lk]
 | x::r,D,D',i,l,t,k+1,u,hu,h1,h2,h3=>by
  have h0:D' i=D i:=by simpa using h3 0 (by omega)
  have ih:=lN r D D' (i+1) (if D i then x.toList++l else l) t k u (by simpa using hu)
   (by rw[show i+1+k=i+(k+1) by omega];exact h1) (by rw[show i+1+k=i+(k+1) by omega];exact h2)
   (fun j hj=>by have:=h3 (j+1) (by omega);rw[show i+1+j=i+(j+1) by omega];exact this)
  simp only[cur,h0]
  refine⟨ih.1,fun v hv hlate=>ih.2 v hv fun j y hj hw hlt=>?_⟩
  have:=hlate (j+1) y (by simpa using hj) hw (by omega)
  rw[show i+1+j=i+(j+1) by omega];exact this
structure AtOp (P:Program) (c:Cx) (n:Nn) (ops:Array Oper) (W0 W1:List Res) (l:Sl) (o:Oper) (u:Option (Nat×Value)) (kd:Kd):Prop where
 dst:o.dst=u.map (·.1)
 inn:∀d,o.dst=some d→Nat.blt d n.sz=true
 says:(bO ops l o=some true∧OpV P c n (kg kd W0) (if kd.isEff then W1 else kg kd W0) (bR ops o l) (noG o) u)∨(bO ops l o=some false∧∃d,u=some (d,undef)∧kd = .free)
theorem QT.at{P:Program}{c:Cx}{n:Nn}{ops:Array Oper}{Ws:List (List Res)}{os:List Oper}{l lf:Sl}{us:Pu}{ks:List Kd}(h:QT P c n ops os Ws l us ks lf):
  us.length=os.length∧ks.length=os.length∧(∀i,lf=cur us (fun _=>true) i l)∧∀i o,os[i]?=some o→∃u kd,us[i]?=some u∧ks[i]?=some kd ∧
   AtOp P c n ops (Ws.getD (stT (ks.take i)) []) (Ws.getD (stT (ks.take i)+1) []) (cur (us.take i) (fun _=>true) 0 l) o u kd:=by
 have shift:∀(us:Pu)(i j:Nat)(l:Sl),cur us (fun _=>true) i l=cur us (fun _=>true) j l:=by
  intro us
  induction us with
  | nil=>intro i j l;rfl
  | cons u r ih=>intro i j l;simp only[cur];exact ih _ _ _
 induction h with
 | nil=>exact⟨rfl,rfl,fun _=>rfl,fun i o ho=>by simp at ho⟩
 | val kd hk hd hn hg h hr ih=>
  obtain⟨h1,h2,h3,h4⟩:=ih
  refine⟨by simp[h1],by simp[h2],fun i=>by simpa[cur]using h3 (i+1),fun i o ho=>?_⟩
  cases i with
  | zero=>
   simp at ho;subst ho
   exact⟨_,kd,rfl,rfl,by simpa using hd,fun d hd'=>by rw[hd]at hd';cases hd';exact hn,.inl ⟨hg,by rw[hk];exact h⟩⟩
  | succ i=>
   obtain⟨u,k',hu,hk',hat⟩:=h4 i o (by simpa using ho)
   refine⟨u,k',by simpa using hu,by simpa using hk',?_⟩
   simp only[List.take_succ_cons,cur,if_true,Option.toList,List.singleton_append,stT,hk,Bool.false_eq_true,if_false,Nat.zero_add]
   rw[shift _ 1 0];exact hat
 | no hd hn hg hr ih=>
  obtain⟨h1,h2,h3,h4⟩:=ih
  refine⟨by simp[h1],by simp[h2],fun i=>by simpa[cur]using h3 (i+1),fun i o ho=>?_⟩
  cases i with
  | zero=>
   simp at ho;subst ho
   exact⟨_,.free,rfl,rfl,by simpa using hd,fun d hd'=>by rw[hd]at hd';cases hd';exact hn,.inr ⟨hg,_,rfl,rfl⟩⟩
  | succ i=>
   obtain⟨u,k',hu,hk',hat⟩:=h4 i o (by simpa using ho)
   refine⟨u,k',by simpa using hu,by simpa using hk',?_⟩
   simp only[List.take_succ_cons,cur,if_true,Option.toList,List.singleton_append,stT,Kd.isEff,Bool.false_eq_true,if_false,Nat.zero_add]
   rw[shift _ 1 0];exact hat
 | eff hd hg h hr ih=>
  obtain⟨h1,h2,h3,h4⟩:=ih
  refine⟨by simp[h1],by simp[h2],fun i=>by simpa[cur]using h3 (i+1),fun i o ho=>?_⟩
  cases i with
  | zero=>
   simp at ho;subst ho
   exact⟨_,.eff,rfl,rfl,by simpa using hd,(fun d hd'=>by rw[hd]at hd';cases hd'),.inl ⟨hg,h⟩⟩
  | succ i=>
   obtain⟨u,k',hu,hk',hat⟩:=h4 i o (by simpa using ho)
   refine⟨u,k',by simpa using hu,by simpa using hk',?_⟩
   simp only[List.take_succ_cons,cur,if_true,Option.toList,List.nil_append,stT,Kd.isEff,Nat.add_comm 1,List.getD_cons_succ]
   rw[shift _ (0+1) 0];exact hat
 | effd hd hn hg h hr ih=>
  obtain⟨h1,h2,h3,h4⟩:=ih
  refine⟨by simp[h1],by simp[h2],fun i=>by simpa[cur]using h3 (i+1),fun i o ho=>?_⟩
  cases i with
  | zero=>
   simp at ho;subst ho
   exact⟨_,.eff,rfl,rfl,by simpa using hd,fun d hd'=>by rw[hd]at hd';cases hd';exact hn,.inl ⟨hg,h⟩⟩
  | succ i=>
   obtain⟨u,k',hu,hk',hat⟩:=h4 i o (by simpa using ho)
   refine⟨u,k',by simpa using hu,by simpa using hk',?_⟩
   simp only[List.take_succ_cons,cur,if_true,Option.toList,List.singleton_append,stT,Kd.isEff,Nat.add_comm 1,List.getD_cons_succ]
   rw[shift _ (0+1) 0];exact hat
theorem fc{P:Program}{o:Oper}{a:Act}{w:World}{K K':Act→World→Prop}{Q Q':Exit→Act→World→Prop}(h:o.wp P a w K Q)(hK:∀a w,K a w→K' a w)
  (hQ:∀e a w,Q e a w→e = .normal):o.wp P a w K' Q':=by
 unfold Oper.wp at *
 generalize (execOp a.eval o).run P w=r at *
 cases r with
 | ok x w'=>
  cases x <;> simp only[Oper.upon]at h ⊢ <;>
   first
    | exact hK _ _ h
    | exact Calls.mono h (fun e w'' he=>by
      cases e with
      | returned v=>exact hK _ _ he
      | panicked ch=>exact absurd (hQ _ _ _ he) (by simp)
      | outgrown=>obtain⟨a0,w0,hq⟩:=he;exact absurd (hQ _ _ _ hq) (by simp))
    | exact Rows.mono h (fun _ _ he=>hK _ _ he)
 | halt x w'=>
  cases x <;> simp only[Oper.upon]at h ⊢ <;> first | exact h | exact absurd (hQ _ _ _ h) (by simp)
theorem fX{P:Program}{ops:Array Oper}{Q:Exit→Act→World→Prop}{o:Oper}{a:Act}{w:World}(h:wpList P ops Q [o] a w)(hg:o.guard=none):
  o.wp P a w (fun a w=>Q .normal a w) Q∨(o.asks P a w∧LetsOut Q):=by
 simp only[wpList]at h
 rw[if_pos (by simp[Region.wanted,hg])]at h
 exact h
def iR(a:Act):Nat→Sl
 | 0=>[]
 | k+1=>match a.tmps[k]? with
  | some v=>(k,v)::iR a k
  | none=>iR a k
theorem jX(a:Act):∀(k t:Nat)(v:Value),lk (iR a k) t=some v→a.tmps[t]?=some v
 | 0,t,v,h=>by simp[iR,lk]at h
 | k+1,t,v,h=>by
  simp only[iR]at h
  split at h
  ·rename_i u hu
   simp only[lk]at h
   by_cases hc:k=t
   ·subst hc;simp at h;subst h;exact hu
   ·rw[iJ hc]at h;exact jX a k t v h
  ·exact jX a k t v h
theorem kD(a:Act):∀(k t:Nat)(v:Value),t<k→a.tmps[t]?=some v→lk (iR a k) t=some v
 | 0,t,v,h,_=>by omega
 | k+1,t,v,h,ht=>by
  simp only[iR]
  by_cases hc:k=t
  ·subst hc;rw[ht];simp[lk]
  ·split
   ·simp only[lk,iJ hc,cond_false]
    exact kD a k t v (by omega) ht
   ·exact kD a k t v (by omega) ht
section
variable {P:Program} {c:Cx} {n:Nn} {l:Sl} {Q:Exit→Act→World→Prop}
theorem lZ{W W':List Res}{w0 w:World}(h0:SatW c W w0)(h:SatW ⟨w0,fps W⟩ W' w):SatW c W' w:=
 ⟨h0.ext.trans h.ext h0.own,h.holds,fun b hb=>by
  rcases h.own b hb with h1 | h1
  ·exact .inl (Nat.le_trans h0.ext.size h1)
  ·exact h0.own b h1,h.nd⟩
theorem RdC.shift{s:Value}{xs:List Value}{W:List Res}{w0:World}(h:RdC c s xs)(h0:SatW c W w0):RdC ⟨w0,fps W⟩ s xs:=
 ⟨RdW.old (W:=W) h w0 h0,fun i hi hm=>by
  have hc:=h.rd.cells i xs[i] (by simp[hi])
  have hlt:=BK hc
  rcases h0.own _ hm with h1 | h1
  ·omega
  ·exact h.out i hi h1⟩
theorem r4{rid:Nat}{os:List Oper}{W0:List Res}(Wt:List (List Res)){us:Pu}{ks:List Kd}{lf:Sl}(hm:P.follows .mixedOrders=true)
  (h:QT P c n os.toArray os (W0::Wt) l us ks lf) (hchk:chk os ks=true)
  (hk:Go c n lf ((W0::Wt).getD (stT ks) []) (Q .normal)):Go c n l W0 ((Code.region rid os.toArray true).wp P Q):=by
 obtain⟨hlu,hlk,hlf,hat⟩:=h.at
 simp only[chk,Bool.and_eq_true]at hchk
 obtain⟨⟨hanc,hpair⟩,hmem⟩:=hchk
 generalize dA os []=anc at *
 intro a w ha hw
 let Inv:Array Bool→Act→World→Prop:=fun L a w=>L.size=os.length ∧
  (∀i j,L.getD i false=true→Nat.testBit (anc.getD i 0) j=true→L.getD j false=true) ∧
  SatA n (cur us (fun i=>L.getD i false) 0 l) a ∧
  SatW c ((W0::Wt).getD (stD ks (fun i=>L.getD i false) 0) []) w
 have key:∀(fuel:Nat)(L:Array Bool)(a:Act)(w:World),(os.length-(L.toList.filter id).length=fuel)→Inv L a w→wpAny P .any os.toArray Q fuel L a w:=by
  have hready:∀(L:Array Bool)(i:Nat),L.size=os.length→i∈Region.ready .any os.toArray L→∃o,os[i]?=some o∧L.getD i false=false∧i<os.length∧∀d∈gk o,L.getD d false=true:=by
   intro L i hL hi
   simp only[Region.ready,List.size_toArray,List.mem_filter,List.mem_range,Bool.and_eq_true,Bool.not_eq_true']at hi
   obtain⟨hlt,hnl,hdeps⟩:=hi
   obtain⟨o,ho⟩:∃o,os[i]?=some o:=⟨os[i],by simp[hlt]⟩
   refine⟨o,ho,?_,hlt,fun d hd=>?_⟩
   ·rw[Array.getD_eq_getD_getElem?]at hnl ⊢
    rw[Array.getElem?_eq_getElem (by omega)]at hnl ⊢
    simpa using hnl
   ·have ho':os.toArray[i]?=some o:=by simpa using ho
    rw[ho']at hdeps
    simp only[Option.map_some,Option.getD_some]at hdeps
    obtain⟨e,he,rfl⟩:=List.mem_map.1 hd
    rw[List.mem_filter]at he
    have hx:=Array.all_eq_true'.1 hdeps e (by simpa using he.1)
    simpa[he.2]using hx
  have hall:∀(L:Array Bool),L.size=os.length→Region.ready .any os.toArray L=[]→∀i,i<os.length→L.getD i false=true:=by
   intro L hL hr i
   induction i using Nat.strongRecOn with
   | _ i ih=>
    intro hi
    by_cases hd:L.getD i false=true
    ·exact hd
    ·exfalso
     have hd':L.getD i true=false:=by
      rw[Array.getD_eq_getD_getElem?,Array.getElem?_eq_getElem (by omega)]at hd ⊢
      simpa using hd
     have hm:i∈Region.ready .any os.toArray L:=by
      simp only[Region.ready,List.size_toArray,List.mem_filter,List.mem_range,Bool.and_eq_true,Bool.not_eq_true']
      refine⟨hi,hd',?_⟩
      have ho:os[i]?=some os[i]:=by simp[hi]
      have ho':os.toArray[i]?=some os[i]:=by simp[hi]
      rw[ho']
      simp only[Option.map_some,Option.getD_some]
      rw[Array.all_eq_true']
      intro e he
      by_cases hb:Region.binds .any e=true
      ·have hdep:e.on∈gk os[i]:=List.mem_map.2 ⟨e,List.mem_filter.2 ⟨by simpa using he,hb⟩,rfl⟩
       have hlt:=(gR hanc ho).1 _ hdep
       simp only[Nat.zero_add]at hlt
       simp[ih e.on hlt (by omega)]
      ·simp[hb]
     rw[hr]at hm;cases hm
  have hfin:∀(L:Array Bool)(a:Act)(w:World),Inv L a w→Region.ready .any os.toArray L=[]→Q .normal a w:=by
   intro L a w ⟨hL,_,hA,hW⟩ hr
   have hd:=hall L hL hr
   refine hk a w ?_ ?_
   ·rw[hlf 0]
    have:∀(us:Pu)(i0:Nat)(l:Sl),i0+us.length≤os.length→cur us (fun i=>L.getD i false) i0 l=cur us (fun _=>true) i0 l:=by
     intro us
     induction us with
     | nil=>intro i0 l _;rfl
     | cons u r ih=>
      intro i0 l hle
      simp only[List.length_cons]at hle
      simp only[cur,hd i0 (by omega),if_true]
      exact ih _ _ (by omega)
    rw[this us 0 l (by omega)]at hA
    exact hA
   ·have e:=rT ks (fun i=>L.getD i false) 0 ks.length (fun j _ hlt=>by simp only[Nat.zero_add];exact hd j (by omega)) (fun j hj hle=>by rw[List.getElem?_eq_none hle]at hj;cases hj)
    rw[List.take_length]at e
    rw[e]at hW;exact hW
  intro fuel
  induction fuel with
  | zero=>
   intro L a w hf hI
   have hL:=hI.1
   have hcount:(L.toList.filter id).length=L.toList.length:=by
    have:=List.length_filter_le id L.toList
    simp only[Array.length_toList]at this ⊢
    omega
   have hr:Region.ready .any os.toArray L=[]:=by
    rw[List.eq_nil_iff_forall_not_mem]
    intro i hi
    obtain⟨o,ho,hnl,hlt,_⟩:=hready L i hL hi
    have hallt:=List.length_filter_eq_length_iff.1 hcount
    have:L[i]'(by omega)=true:=by
     have:=hallt (L[i]'(by omega)) (by simp)
     simpa using this
    rw[Array.getD_eq_getD_getElem?,Array.getElem?_eq_getElem (by omega)]at hnl
    simp[this]at hnl
   exact⟨hr,hfin L a w hI hr⟩
  | succ fuel ih=>
   intro L a w hf hI
   refine⟨hfin L a w hI,fun i hi=>?_⟩
   obtain⟨hL,hcl,hA,hW⟩:=hI
   obtain⟨o,ho,hnl,hlt,hdeps⟩:=hready L i hL hi
   obtain⟨u,kd,hu,hkd,hop⟩:=hat i o ho
   have hspec:=gR hanc ho
   simp only[Nat.zero_add]at hspec
   have hanci:∀j,Nat.testBit (anc.getD i 0) j=true→L.getD j false=true:=by
    intro j hj
    obtain⟨d,hd,he⟩:=hspec.2 j hj
    rcases he with rfl | he
    ·exact hdeps d hd
    ·exact hcl d j (hdeps d hd) he
   have hbef:∀j y,os[j]?=some y→j<i→ix os.toArray y o=true→L.getD j false=true:=fun j y hy hji hc=>hanci j (by simpa using fg hpair hji hy ho hc)
   have hbeh:∀j y,os[j]?=some y→i<j→ix os.toArray o y=true→L.getD j false=false:=fun j y hy hij hc=>by
    have hb:=fg hpair hij ho hy hc
    simp only[Nat.zero_add]at hb
    cases hj:L.getD j false
    ·rfl
    ·have:=hcl j i hj hb;rw[hnl]at this;cases this
   have hwr:∀(j:Nat)(x:Option (Nat×Value))(t:Nat),us[j]?=some x→gq x t→∃y:Oper,os[j]?=some y∧y.dst=some t:=by
    intro j x t hx ⟨v,hv⟩
    have hjl:j<os.length:=by
     rcases Nat.lt_or_ge j us.length with h | h
     ·omega
     ·rw[List.getElem?_eq_none h]at hx;cases hx
    obtain⟨u',_,hu',_,hop'⟩:=hat j os[j] (by simp[hjl])
    rw[hx]at hu';cases hu'
    exact⟨os[j],by simp[hjl],by rw[hop'.dst,hv];rfl⟩
   have hlook:∀t∈fa os.toArray o,lk (cur us (fun i=>L.getD i false) 0 l) t=lk (cur (us.take i) (fun _=>true) 0 l) t:=by
    intro t ht
    refine kb us _ 0 l t i (fun j x hx hw hji=>?_) (fun j x hx hw hij=>?_)
    ·obtain⟨y,hy,hyd⟩:=hwr j x t hx hw
     simp only[Nat.zero_add]
     refine hbef j y hy hji ?_
     simp only[ix,hyd,Bool.or_eq_true]
     exact .inl (.inr (List.any_eq_true.2 ⟨t,ht,Nat.beq_refl t⟩))
    ·obtain⟨y,hy,hyd⟩:=hwr j x t hx hw
     simp only[Nat.zero_add]
     rcases Nat.eq_or_lt_of_le hij with rfl | hlt'
     ·exact hnl
     ·refine hbeh j y hy hlt' ?_
      simp only[ix,hyd,Bool.or_eq_true]
      exact .inr (List.any_eq_true.2 ⟨t,ht,Nat.beq_refl t⟩)
   have hL':(L.setIfInBounds i true).size=os.length:=by simp[hL]
   have hget:∀j,(L.setIfInBounds i true).getD j false=if j=i then true else L.getD j false:=by
    intro j
    simp only[Array.getD_eq_getD_getElem?]
    by_cases hj:j=i
    ·subst hj;simp[hL,hlt]
    ·rw[Array.getElem?_setIfInBounds_ne (fun e=>hj e.symm),if_neg hj]
   have hcnt:os.length-((L.setIfInBounds i true).toList.filter id).length=fuel:=by
    have e:((L.setIfInBounds i true).toList.filter id).length=(L.toList.filter id).length+1:=by
     rw[Array.toList_setIfInBounds]
     have hli:i<L.toList.length:=by simpa[hL]using hlt
     have hv:L.toList[i]=false:=by
      rw[Array.getD_eq_getD_getElem?,Array.getElem?_eq_getElem (by omega)]at hnl
      simpa using hnl
     rw[List.set_eq_take_append_cons_drop,if_pos hli]
     conv=>rhs;rw[← List.take_append_drop i L.toList,List.drop_eq_getElem_cons hli,hv]
     simp only[List.filter_append,List.length_append,List.filter_cons,id,if_true,List.length_cons]
     simp
     omega
    rw[e];omega
   have hcl':∀p q,(L.setIfInBounds i true).getD p false=true→Nat.testBit (anc.getD p 0) q=true→(L.setIfInBounds i true).getD q false=true:=by
    intro p q hp hq
    rw[hget]at hp ⊢
    by_cases hqi:q=i
    ·simp[hqi]
    ·rw[if_neg hqi]
     by_cases hpi:p=i
     ·subst hpi;exact hanci q hq
     ·rw[if_neg hpi]at hp;exact hcl p q hp hq
   have hAafter:∀a',(∀t v,lk (u.toList++cur us (fun i=>L.getD i false) 0 l) t=some v→a'.tmps[t]?=some v)→a'.defers=n.df→a'.tmps.size=n.sz →
     SatA n (cur us (fun j=>(L.setIfInBounds i true).getD j false) 0 l) a':=by
    intro a' h1 h2 h3
    refine⟨h2,h3,fun t v ht=>h1 t v ?_⟩
    have hs:=lN us (fun j=>L.getD j false) (fun j=>(L.setIfInBounds i true).getD j false) 0 l t i u hu (by simp[hget]) (by simpa using hnl)
     (fun j hj=>by simp only[Nat.zero_add];rw[hget,if_neg hj])
    by_cases hw:gq u t
    ·obtain⟨v',hv'⟩:=hw
     have:=hs.2 v' hv' (fun j x hx hw hij=>by
      obtain⟨y,hy,hyd⟩:=hwr j x t hx hw
      simp only[Nat.zero_add]
      refine hbeh j y hy hij ?_
      have hod:o.dst=some t:=by rw[hop.dst,hv'];rfl
      simp only[ix,hod,Bool.or_eq_true]
      refine .inl (.inl ?_)
      simp[HP,hyd,Nat.beq_refl])
     rw[this]at ht;cases ht
     rw[hv'];simp[lk]
    ·rw[hs.1 hw]at ht
     rw[q7 hw];exact ht
   have hopi:os.toArray[i]?=some o:=by simpa using ho
   have hyield:∀j want,o.guard=some (j,want)→∀t,(os.toArray[j]?).bind (·.dst)=some t→∀v,lk (cur (us.take i) (fun _=>true) 0 l) t=some v→a.tmps[t]?=some v:=by
    intro j want hg t ht v hv
    have htn:t∈fa os.toArray o:=by
     simp only[fa,List.mem_append,Ca,hg]
     left;rw[ht];simp
    exact hA.at_ t v (by rw[hlook t htn];exact hv)
   unfold wpOp
   rw[hopi]
   rcases hop.says with⟨hg,hV⟩ | ⟨hg,d,hud,hkf⟩
   ·
    have hwant:Region.wanted o (yielded os.toArray a.tmps)=true:=by
     unfold bO at hg
     unfold Region.wanted
     cases hgd:o.guard with
     | none=>rfl
     | some jw=>
      obtain⟨j,want⟩:=jw
      simp only[hgd]at hg ⊢
      cases hj:(os.toArray[j]?).bind (·.dst)with
      | none=>rw[hj]at hg;cases hg
      | some t=>
       simp only[hj]at hg
       cases hv:lk (cur (us.take i) (fun _=>true) 0 l) t with
       | none=>rw[hv]at hg;cases hg
       | some v=>
        have hav:=hyield j want hgd t hj v hv
        rw[hv]at hg
        cases v <;> simp at hg
        unfold yielded
        rw[hj]
        simp[hav,hg]
    simp only[hwant,if_true]
    left
    have hstage:kd.isEff=true∨kd.isPin=true→stD ks (fun i=>L.getD i false) 0=stT (ks.take i):=by
     intro hkk
     refine rT ks _ 0 i (fun j hj hlt=>?_) (fun j hj hle=>?_)
     ·simp only[Nat.zero_add]
      refine hanci j ?_
      have:=fg hmem hlt hj hkd (by cases kd <;> simp[Kd.isEff,Kd.isPin]at hkk <;> rfl)
      simpa using this
     ·simp only[Nat.zero_add]
      rcases Nat.eq_or_lt_of_le hle with rfl | hlt'
      ·exact hnl
      ·have hb:=fg hmem hlt' hkd hj (by cases kd <;> simp[Kd.isEff,Kd.isPin]at hkk <;> rfl)
       simp only[Nat.zero_add]at hb
       cases hjd:L.getD j false
       ·rfl
       ·have:=hcl j i hjd hb;rw[hnl]at this;cases this
    have hpinW:SatW c (kg kd ((W0::Wt).getD (stT (ks.take i)) [])) w:=by
     cases kd with
     | free=>exact hW.sub SubW.nil
     | pin=>simp only[kg];rw[← hstage (.inr rfl)];exact hW
     | eff=>simp only[kg];rw[← hstage (.inl rfl)];exact hW
    have hstep:=hV w (iR a n.sz) hpinW a w ?hsa ?hsw
    case hsa=>
     refine⟨hA.dfr,hA.sz,fun t v ht=>?_⟩
     rw[dI]at ht
     cases hr:lk (bR os.toArray o (cur (us.take i) (fun _=>true) 0 l)) t with
     | some v'=>
      rw[hr]at ht;cases ht
      obtain⟨h1,h2⟩:=gN hr
      exact hA.at_ t v (by rw[hlook t h2];exact h1)
     | none=>rw[hr]at ht;exact jX a n.sz t v ht
    case hsw=>exact⟨Ext.refl _ _,hpinW.holds,fun b hb=>.inr hb,hpinW.nd⟩
    rcases fX hstep rfl with hstep | ⟨_,a0,w0,hq,_⟩
    case inr=>cases hq
    have hstep':o.wp P a w (fun a' w'=>(Exit.normal=Exit.normal∧SatA n (u.toList++(bR os.toArray o (cur (us.take i) (fun _=>true) 0 l)++iR a n.sz)) a' ∧
      SatW ⟨w,fps (kg kd ((W0::Wt).getD (stT (ks.take i)) []))⟩ (if kd.isEff then(W0::Wt).getD (stT (ks.take i)+1) []else kg kd ((W0::Wt).getD (stT (ks.take i)) [])) w')) (fun e a' w'=>e = .normal∧SatA n (u.toList++(bR os.toArray o (cur (us.take i) (fun _=>true) 0 l)++iR a n.sz)) a' ∧
      SatW ⟨w,fps (kg kd ((W0::Wt).getD (stT (ks.take i)) []))⟩ (if kd.isEff then(W0::Wt).getD (stT (ks.take i)+1) []else kg kd ((W0::Wt).getD (stT (ks.take i)) [])) w'):=hstep
    refine fc hstep' (fun a' w' hp=>ih _ a' w' hcnt ⟨hL',hcl',?_,?_⟩) (fun e _ _ hp=>hp.1)
    ·
     obtain⟨_,hsa,_⟩:=hp
     refine hAafter a' (fun t v ht=>?_) hsa.dfr hsa.sz
     refine hsa.at_ t v ?_
     rw[dI]at ht ⊢
     cases hut:lk u.toList t with
     | some v'=>rw[hut]at ht;exact ht
     | none=>
      rw[hut]at ht
      simp only at ht ⊢
      have hat':=hA.at_ t v ht
      rw[dI]
      cases hr:lk (bR os.toArray o (cur (us.take i) (fun _=>true) 0 l)) t with
      | some v'=>
       obtain⟨h1,h2⟩:=gN hr
       have:=hA.at_ t v' (by rw[hlook t h2];exact h1)
       rw[this]at hat';exact hat'
      | none=>
       have htn:t<n.sz:=by
        rcases Nat.lt_or_ge t n.sz with h | h
        ·exact h
        ·rw[Array.getElem?_eq_none (by rw[hA.sz];exact h)]at hat';cases hat'
       exact kD a n.sz t v htn hat'
    ·
     obtain⟨_,_,hsw⟩:=hp
     have hset:=vY ks (fun j=>L.getD j false) (fun j=>(L.setIfInBounds i true).getD j false) 0 i kd hkd (by simp[hget]) (by simpa using hnl)
      (fun j hj=>by simp only[Nat.zero_add];rw[hget,if_neg hj])
     rw[hset]
     cases kd with
     | free=>
      simp only[kg,Kd.isEff,Bool.false_eq_true,if_false]at hsw ⊢
      exact hW.ext0 hsw.ext
     | pin=>
      simp only[kg,Kd.isEff,Bool.false_eq_true,if_false]at hsw ⊢
      rw[Nat.add_zero,hstage (.inr rfl)]
      exact lZ hpinW hsw
     | eff=>
      simp only[kg,Kd.isEff,if_true]at hsw ⊢
      rw[hstage (.inl rfl)]
      exact lZ hpinW hsw
   ·
    have hnw:Region.wanted o (yielded os.toArray a.tmps)=false:=by
     unfold bO at hg
     unfold Region.wanted
     cases hgd:o.guard with
     | none=>simp[hgd]at hg
     | some jw=>
      obtain⟨j,want⟩:=jw
      simp only[hgd]at hg ⊢
      cases hj:(os.toArray[j]?).bind (·.dst)with
      | none=>rw[hj]at hg;cases hg
      | some t=>
       simp only[hj]at hg
       cases hv:lk (cur (us.take i) (fun _=>true) 0 l) t with
       | none=>rw[hv]at hg;cases hg
       | some v=>
        have hav:=hyield j want hgd t hj v hv
        rw[hv]at hg
        unfold yielded
        rw[hj]
        cases v <;> simp at hg
        ·simp[hav,hg]
        ·simp[hav]
    simp only[hnw,Bool.false_eq_true,if_false]
    have hod:o.dst=some d:=by rw[hop.dst,hud];rfl
    have hput:=hA.put (v:=undef) (hop.inn d hod)
    rw[hod]
    refine ih _ _ w hcnt ⟨hL',hcl',?_,?_⟩
    ·refine hAafter _ (fun t v ht=>hput.at_ t v (by rw[hud]at ht;exact ht)) hput.dfr hput.sz
    ·have hset:=vY ks (fun j=>L.getD j false) (fun j=>(L.setIfInBounds i true).getD j false) 0 i kd hkd (by simp[hget]) (by simpa using hnl)
      (fun j hj=>by simp only[Nat.zero_add];rw[hget,if_neg hj])
     rw[hset,hkf]
     exact hW
 refine wp_region_any hm (key _ _ a _ ?_ ⟨by simp,?_,?_,?_⟩)
 ·simp
 ·intro i j hi;simp[Array.getD_eq_getD_getElem?,Array.getElem?_replicate]at hi
  split at hi <;> simp at hi
 ·have:∀(us:Pu)(i0:Nat)(l:Sl),cur us (fun i=>(Array.replicate os.toArray.size false).getD i false) i0 l=l:=by
   intro us
   induction us with
   | nil=>intro i0 l;rfl
   | cons u r ih=>
    intro i0 l
    simp only[cur]
    rw[if_neg (by simp[Array.getD_eq_getD_getElem?,Array.getElem?_replicate];split <;> simp)]
    exact ih _ _
  rw[this];exact ha
 ·have hw':=hw.drawn (w.drawn+1)
  rw[rS]
  ·exact hw'
  ·intro j _
   simp[Array.getD_eq_getD_getElem?,Array.getElem?_replicate];split <;> simp
def QD(P:Program)(c:Cx)(n:Nn)(ops:Array Oper)(os:List Oper)(K:Act→World→Prop)(W:List Res)(rest:List Oper)(l:Sl)(ks:List Kd):Prop:=
 ∃Ws us ks' lf,QT P c n ops rest (W::Ws) l us ks' lf∧chk os (ks++ks')=true∧Go c n lf ((W::Ws).getD (stT ks') []) K
theorem au{rid:Nat}{os:List Oper}{W0:List Res}(hm:P.follows .mixedOrders=true)
  (h:QD P c n os.toArray os (Q .normal) W0 os l []):
  Go c n l W0 ((Code.region rid os.toArray true).wp P Q):=by
 obtain⟨Ws,us,ks,lf,hq,hc,hg⟩:=h
 exact r4 Ws hm hq hc hg
end
section
variable {P:Program} {c:Cx} {n:Nn} {l:Sl} {W:List Res} {Q:Exit→Act→World→Prop} {os:List Oper}
theorem Na{rid:Nat}(hm:P.follows .mixedOrders=true)(h:Go c n l W (wpAny P .any os.toArray Q os.toArray.size (Array.replicate os.toArray.size false))):
  Go c n l W ((Code.region rid os.toArray true).wp P Q):=
 fun a w ha hw=>wp_region_any hm (h a _ ha (hw.drawn (w.drawn+1)))
end
section
variable {P:Program}
theorem tL{w:World}{E:TypeId}{k:IntKind}(hE:P.underlying E=some (.int k))(hz:ay P E=some 1)(xs:List Nat)(i:Nat)(hi:i<xs.length):
  (part E (xs.map (N k)).toArray i).run P w = .ok (N k (xs.getD i 0)) w:=by
 have hs:kv P E=true:=by unfold kv;rw[hE]
 unfold part
 simp[ku hs,aq hz,hi]
theorem ew{w:World}(d:Nat){t E:TypeId}{k:IntKind}{m:Nat}(ht:P.underlying t=some (.array m E))(hE:P.underlying E=some (.int k))(hz:ay P E=some 1)
  (xs ys:List Nat) (hx:xs.length=m) (hy:ys.length=m):(Op.equalIn (d+2) t (LV k xs) (LV k ys)).run P w = .ok (decide (xs=ys)) w:=by
 rw[Op.equalIn]
 simp only[LV,Sem.run_bind,run_underlying ht,Result.andThen_ok,aq hz,Nat.mul_one]
 rw[Std.Legacy.Range.forIn_eq_forIn_range']
 simp only[Std.Legacy.Range.size,Nat.sub_zero,Nat.add_sub_cancel,Nat.div_one]
 have key:∀n s,s+n=m→((Sem.run P (forIn (List.range' s n 1) (none,()) fun i __s=>do
    let a ← part E (List.map (N k) xs).toArray i
    let b ← part E (List.map (N k) ys).toArray i
    let r ← Op.equalIn (d+1) E a b
    if(!r)=true then pure (ForInStep.done (some false,()))else pure (ForInStep.yield (none,()))) w).andThen fun r w1=>Sem.run P (match r.fst with | none=>pure true | some a=>pure a) w1) = .ok (decide (xs.drop s=ys.drop s)) w:=by
  intro n
  induction n with
  | zero=>
   intro s hs
   simp[List.drop_eq_nil_of_le (show xs.length≤s by omega),List.drop_eq_nil_of_le (show ys.length≤s by omega)]
  | succ n ih=>
   intro s hs
   have hxs:s<xs.length:=by omega
   have hys:s<ys.length:=by omega
   rw[List.range'_succ,List.forIn_cons]
   simp only[Sem.run_bind,tL hE hz xs s hxs,tL hE hz ys s hys,Result.andThen_ok,N,run_equalIn_int w d E k k _ _ hE]
   have g1:xs.getD s 0=xs[s]:=by simp[List.getD_eq_getElem?_getD,hxs]
   have g2:ys.getD s 0=ys[s]:=by simp[List.getD_eq_getElem?_getD,hys]
   have hd:decide (xs.drop s=ys.drop s)=(decide (xs[s]=ys[s])&&decide (xs.drop (s+1)=ys.drop (s+1))):=by
    rw[List.drop_eq_getElem_cons hxs,List.drop_eq_getElem_cons hys,← Bool.decide_and]
    exact decide_eq_decide.mpr (by rw[List.cons.injEq])
   rw[g1,g2,hd]
   by_cases he:xs[s]=ys[s]
   ·have h1:(Int.ofNat xs[s]==Int.ofNat ys[s])=true:=by rw[he];simp
    rw[h1,decide_eq_true he,Bool.true_and]
    exact ih (s+1) (by omega)
   ·have h1:(Int.ofNat xs[s]==Int.ofNat ys[s])=false:=by
     rw[beq_eq_false_iff_ne];intro h;exact he (Int.ofNat.inj h)
    rw[h1,decide_eq_false he,Bool.false_and]
    rfl
 have:=key m 0 (by omega)
 simp only[List.drop_zero]at this
 rw[← this]
 congr 1
 funext a w'
 cases a.fst <;> rfl
variable {c:Cx} {n:Nn} {l:Sl} {W:List Res} {ops:Array Oper} {Q:Exit→Act→World→Prop} {rest:List Oper}
variable {d:Nat} {T:TypeId} {pos:String} {after:Array Edge}
theorem yM{k:IntKind}{x y:Operand}{xs ys:List Nat}{m:Nat}{xt yt E:TypeId}(hx:ev l x=some (LV k xs))(hy:ev l y=some (LV k ys))(ht:P.underlying xt=some (.array m E))
  (hE:P.underlying E=some (.int k)) (hz:ay P E=some 1) (hg:P.eqGuardType P.depth xt=false) (hlx:xs.length=m) (hly:ys.length=m) (hn:Nat.blt d n.sz=true)
  (hk:Go c n ((d,.bool (decide (xs=ys)))::l) W (wpList P ops Q rest)):
  Go c n l W (wpList P ops Q (⟨some d,.binOp .eql xt x y yt,T,pos,after,none⟩::rest)):=
 aw rfl rfl hn (fun a w ha _=>by
  have h1:=ew (w:=w) 9998 ht hE hz xs ys hlx hly
  have h2:=run_eqGuard_agg (P:=P) w .eql xt x y (xs.map (N k)).toArray (ys.map (N k)).toArray hg
  have h3:=run_eql_struct (P:=P) w xt (xs.map (N k)).toArray (ys.map (N k)).toArray
  simp only[LV]at h1 hx hy
  rw[h1]at h3
  simp only[execOp,ha.ev hx,ha.ev hy,Sem.run_bind,h2,Result.andThen_ok,h3,Sem.run_pure]) hk
theorem JE{k:IntKind}{x y:Operand}{xs ys:List Nat}{m:Nat}{xt yt E:TypeId}(hx:ev l x=some (LV k xs))(hy:ev l y=some (LV k ys))(ht:P.underlying xt=some (.array m E))
  (hE:P.underlying E=some (.int k)) (hz:ay P E=some 1) (hg:P.eqGuardType P.depth xt=false) (hlx:xs.length=m) (hly:ys.length=m) (hn:Nat.blt d n.sz=true)
  (hk:Go c n ((d,.bool (!decide (xs=ys)))::l) W (wpList P ops Q rest)):
  Go c n l W (wpList P ops Q (⟨some d,.binOp .neq xt x y yt,T,pos,after,none⟩::rest)):=
 aw rfl rfl hn (fun a w ha _=>by
  have h1:=ew (w:=w) 9998 ht hE hz xs ys hlx hly
  have h2:=run_eqGuard_agg (P:=P) w .neq xt x y (xs.map (N k)).toArray (ys.map (N k)).toArray hg
  have h3:=run_neq_struct (P:=P) w xt (xs.map (N k)).toArray (ys.map (N k)).toArray
  simp only[LV]at h1 hx hy
  rw[h1]at h3
  simp only[execOp,ha.ev hx,ha.ev hy,Sem.run_bind,h2,Result.andThen_ok,h3,Sem.run_pure]) hk
theorem Ft{k:IntKind}{x y:Operand}{xs:List Nat}{m:Nat}{xt yt E:TypeId}(hx:ev l x=some (LV k xs))(hy:ev l y=some (LV k xs))(ht:P.underlying xt=some (.array m E))
  (hE:P.underlying E=some (.int k)) (hz:ay P E=some 1) (hg:P.eqGuardType P.depth xt=false) (hlx:xs.length=m) (hn:Nat.blt d n.sz=true)
  (hk:Go c n ((d,.bool true)::l) W (wpList P ops Q rest)):
  Go c n l W (wpList P ops Q (⟨some d,.binOp .eql xt x y yt,T,pos,after,none⟩::rest)):=
 yM hx hy ht hE hz hg hlx hlx hn (by rw[decide_eq_true rfl];exact hk)
theorem Jd{w:World}{b off:Nat}{C:Array Value}{T:TypeId}{fz:Nat×Nat}(h:w.heap[b]?=some (.cells C T fz)):
  (markStringish ⟨b,off,none⟩).run P w = .ok () (w.freeze ⟨b,C.size,none⟩ 1):=by
 have hsh:w.shape? b=some (T,C.size):=by unfold World.shape?;rw[h]
 simp[markStringish,hsh]
theorem xp{w:World}{b k:Nat}{C:Array Value}{T:TypeId}{fz:Nat×Nat}(h:w.heap[b]?=some (.cells C T fz)):
  (w.freeze ⟨b,k,none⟩ 1).heap[b]?=some (.cells C T (if fz.1==fz.2 then(k,k+1)else(min fz.1 k,max fz.2 (k+1)))):=by
 obtain⟨lo,hi⟩:=fz
 unfold World.freeze
 rw[if_neg (by decide)]
 obtain⟨hb,hg⟩:=Array.getElem?_eq_some_iff.mp h
 simp[Array.getElem_modify,hb,hg]
theorem u5{w:World}{b k j:Nat}(h:j≠b):(w.freeze ⟨b,k,none⟩ 1).heap[j]?=w.heap[j]?:=by
 unfold World.freeze
 rw[if_neg (by decide)]
 simp[Array.getElem?_modify,Ne.symm h]
theorem rZ{x:Operand}{s:Value}{xs:List Value}{t E U:TypeId}{R:List Res}(hx:ev l x=some s)(hf:Find W (.sl s xs U) R)(h0:0<xs.length)
  (ht:P.underlying t=some (.slice E)) (hE:P.underlying E=some (.int .u8)) (hn:Nat.blt d n.sz=true)
  (hk:Go c n ((d,s)::l) (.sl s xs U::R) (wpList P ops Q rest)):
  Go c n l W (wpList P ops Q (⟨some d,.convert t t x,T,pos,after,none⟩::rest)):=
 fi rfl rfl hn (Φ:=fun u V=>u=s∧V = .sl s xs U::R) (fun a w ha hw=>by
  have hw:=hw.perm hf.perm
  rcases hw.holds _ (List.mem_cons_self ..)with⟨rfl,rfl⟩ | ⟨b,off,cap,pre,post,fz,hs⟩
  ·simp at h0
  ·obtain⟨rfl,h1,h2,h3,h4,h5⟩:=hs
   have hm:=Jd (P:=P) (off:=off) h4
   have hf:=xp (k:=(pre++xs++post).toArray.size) h4
   refine⟨_,w.freeze ⟨b,(pre++xs++post).toArray.size,none⟩ 1,_,?_,hw.upd (r':=.sl (.slice (some ⟨b,off,none⟩) xs.length cap) xs U) rfl ⟨rfl,rfl,rfl,by simp[World.freeze],fun k _ hs=>u5 (by simpa[Res.fp]using hs)⟩ (.inr ⟨b,off,cap,pre,post,_,rfl,h1,h2,h3,hf,?_⟩),rfl,rfl⟩
   ·simp[execOp,ha.ev hx,convert,run_underlying ht,run_underlying hE,hm]
   ·intro hne
    by_cases he:fz.1=fz.2
    ·simp[he]
    ·have:=h5 he
     have e:(fz.1==fz.2)=false:=by simpa using he
     rw[e]
     simp at this ⊢;omega) (fun u V ⟨hu,hV⟩=>by subst hu;subst hV;exact hk)
end
theorem GW{l:Sl}{k:IntKind}:evs l (([]:List (Nat×Operand)).map (·.2))=some (([]:List Nat).map (N k)):=rfl
theorem GX{l:Sl}{k:IntKind}{i x:Nat}{o:Operand}(h:ev l o=some (N k x)):evs l ([(i,o)].map (·.2))=some ([x].map (N k)):=by simp[evs,h]
def D6:BinOp→Nat→Nat→Prop
 | .lss,x,y=>x<y
 | .leq,x,y=>x≤y
 | .gtr,x,y=>y<x
 | .geq,x,y=>y≤x
 | .eql,x,y=>x=y
 | .neq,x,y=>x<y∨y<x
 | _,_,_=>False
def D7:BinOp→Nat→Nat→Prop
 | .lss,x,y=>y≤x
 | .leq,x,y=>y<x
 | .gtr,x,y=>x≤y
 | .geq,x,y=>x<y
 | .eql,x,y=>x<y∨y<x
 | .neq,x,y=>x=y
 | _,_,_=>False
theorem Gn{op:BinOp}{x y:Nat}(h:D6 op x y):Ab op x y=some true:=by
 cases op <;> simp only[D6,Ab,Option.some.injEq,decide_eq_true_eq]at h ⊢ <;> omega
theorem Gm{op:BinOp}{x y:Nat}(h:D7 op x y):Ab op x y=some false:=by
 cases op <;> simp only[D7,Ab,Option.some.injEq,decide_eq_false_iff_not]at h ⊢ <;> omega
section
variable {P:Program} {c:Cx} {n:Nn} {l:Sl} {W:List Res} {ops:Array Oper} {B Q:Exit→Act→World→Prop} {k:List Fr} {K:Act→World→Prop} {rest:List Oper}
variable {d:Nat} {T:TypeId} {pos:String} {after:Array Edge}
theorem Z01{x:Operand}{v:Value}(hk:Go c n ((d,v)::l) W (wpList P ops Q rest))
  (hx:ev l x=some v:=by first | (with_reducible apply evc) | rfl) (hn:Nat.blt d n.sz=true:=by rfl):
  Go c n l W (wpList P ops Q (⟨some d,.move x,T,pos,after,none⟩::rest)):=nE hx hn hk
theorem Z02{x:Operand}{v:Value}(hk:Go c n ((d,v)::l) W (wpList P ops Q rest))
  (hx:ev l x=some v:=by first | (with_reducible apply evc) | rfl) (hn:Nat.blt d n.sz=true:=by rfl):
  Go c n l W (wpList P ops Q (⟨some d,.assign x,T,pos,after,none⟩::rest)):=Fp hx hn hk
theorem Z03{x y:Code}(h:Go c n l W (x.wp P (Af P B (.seq y::k)))):Go c n l W ((Code.seq x y).wp P (Af P B k)):=Ta h
theorem Z04{id:Nat}{os:List Oper}(h:Go c n l W (wpList P os.toArray Q os)):Go c n l W ((Code.region id os.toArray false).wp P Q):=Fz h
theorem Z05{ops:Array Oper}(h:Go c n l W (Q .normal)):Go c n l W (wpList P ops Q []):=S8 h
theorem Z06{y:Code}(h:Go c n l W (y.wp P (Af P B k))):Go c n l W (Af P B (.seq y::k) .normal):=Nu h
theorem Z07{id:Nat}{x:Code}(h:Go c n l W (x.wp P (Af P B (.blk id::k)))):Go c n l W ((Code.block id x).wp P (Af P B k)):=yF h
theorem Z08(h:Go c n l W (Q .normal)):Go c n l W (Code.skip.wp P Q):=Nt h
theorem Z09{id:Nat}{k':List Fr}(h:Go c n l W (Af P B k' .normal))(he:qA id k=some k':=by rfl):Go c n l W ((Code.exit id).wp P (Af P B k)):=Nj h he
theorem Z10(h:Go c n l W (B .ret)):Go c n l W (Code.ret.wp P (Af P B k)):=JG h
theorem Z11{id:Nat}(h:Go c n l W (Af P B k .normal)):Go c n l W (Af P B (.blk id::k) .normal):=S9 h
theorem Z12(h:Go c n l W (B .normal)):Go c n l W (Af P B [] .normal):=S5 h
theorem Z13{x:Operand}{s t:Code}(h:Go c n l W (s.wp P Q))(hc:ev l x=some (.bool true):=by rfl):Go c n l W ((Code.cond x s t).wp P Q):=v5 hc h
theorem Z14{x:Operand}{s t:Code}(h:Go c n l W (t.wp P Q))(hc:ev l x=some (.bool false):=by rfl):Go c n l W ((Code.cond x s t).wp P Q):=sK hc h
theorem Z15{x y:Operand}{a0 b0:Nat}{xt yt:TypeId}(hk:Go c n ((d,N .i64 (a0+b0))::l) W (wpList P ops Q rest))
  (hx:ev l x=some (N .i64 a0):=by first | (with_reducible apply evc) | rfl) (hy:ev l y=some (N .i64 b0):=by first | (with_reducible apply evc) | rfl) (hb:a0+b0<9223372036854775808:=by omega) (hn:Nat.blt d n.sz=true:=by rfl):
  Go c n l W (wpList P ops Q (⟨some d,.binOp .add xt x y yt,T,pos,after,none⟩::rest)):=Nl hx hy hb hn hk
theorem Z16{x y:Operand}{a0 b0:Nat}{xt yt:TypeId}(hk:Go c n ((d,N .i64 (a0-b0))::l) W (wpList P ops Q rest))
  (hx:ev l x=some (N .i64 a0):=by first | (with_reducible apply evc) | rfl) (hy:ev l y=some (N .i64 b0):=by first | (with_reducible apply evc) | rfl) (hle:b0≤a0:=by omega) (hb:a0<9223372036854775808:=by omega) (hn:Nat.blt d n.sz=true:=by rfl):
  Go c n l W (wpList P ops Q (⟨some d,.binOp .sub xt x y yt,T,pos,after,none⟩::rest)):=Nr hx hy hle hb hn hk
theorem Z17{k:IntKind}{op:BinOp}{r:Bool}{x y:Operand}{a0 b0:Nat}{xt yt:TypeId}(hk:Go c n ((d,.bool r)::l) W (wpList P ops Q rest))
  (hx:ev l x=some (N k a0):=by first | (with_reducible apply evc) | rfl) (hy:ev l y=some (N k b0):=by first | (with_reducible apply evc) | rfl) (hr:Ab op a0 b0=some r:=by rfl) (hn:Nat.blt d n.sz=true:=by rfl):
  Go c n l W (wpList P ops Q (⟨some d,.binOp op xt x y yt,T,pos,after,none⟩::rest)):=rY hx hy hr hn hk
theorem Z18{k:IntKind}{op:BinOp}{r:Bool}{x y:Operand}{a0 b0:Int}{xt yt:TypeId}(hk:Go c n ((d,.bool r)::l) W (wpList P ops Q rest))
  (hx:ev l x=some (.int k a0):=by first | (with_reducible apply evc) | rfl) (hy:ev l y=some (.int k b0):=by first | (with_reducible apply evc) | rfl) (hr:QR op a0 b0=some r:=by rfl) (hn:Nat.blt d n.sz=true:=by rfl):
  Go c n l W (wpList P ops Q (⟨some d,.binOp op xt x y yt,T,pos,after,none⟩::rest)):=Nb hx hy hr hn hk
theorem Z19{x:Operand}{i:Nat}{vs:List Value}{v:Value}(hk:Go c n ((d,v)::l) W (wpList P ops Q rest))
  (hx:ev l x=some (.tuple vs.toArray):=by first | (with_reducible apply evc) | rfl) (hv:vs[i]?=some v:=by rfl) (hn:Nat.blt d n.sz=true:=by rfl):
  Go c n l W (wpList P ops Q (⟨some d,.extract x i,T,pos,after,none⟩::rest)):=Bf hx hv hn hk
theorem Z20{x:Operand}{s:Value}{kk:IntKind}{ys:List Nat}{t E:TypeId}{ts:List TypeId}(hk:Go c n ((d,N .i64 ys.length)::l) W (wpList P ops Q rest))
  (hx:ev l x=some s:=by first | (with_reducible apply evc) | rfl) (ht:P.underlying t=some (.slice E):=by rfl) (hr:RdW c W s (ys.map (N kk)):=by first | (apply RdW.old;with_reducible assumption) | (apply RdW.old;apply RdC.shift <;> with_reducible assumption) | (apply RdW.own;(repeat (first|apply Find.here|apply Find.there));done) | (with_reducible assumption) | (apply RdW.nil) | exact RdW.arrN (by repeat (first|apply Find.here|apply Find.there)) (by omega) (by omega) (by first | (with_reducible rfl) | (with_reducible assumption) | (simp[*];done) | (simp;omega)) | exact RdW.subN (by first | (apply RdW.old;with_reducible assumption) | (apply RdW.own;(repeat (first|apply Find.here|apply Find.there));done)) (by omega) (by first | omega | (simp[*];done) | (simp;omega))) (hn:Nat.blt d n.sz=true:=by rfl):
  Go c n l W (wpList P ops Q (⟨some d,.call { callee:=.builtin .len,args:=#[x],argTypes:=(t::ts).toArray },T,pos,after,none⟩::rest)):=iC hx ht hr hn hk
theorem Z21{x:Operand}{s:Value}{xs:List Value}{t E:TypeId}{ts:List TypeId}(hk:Go c n ((d,N .i64 xs.length)::l) W (wpList P ops Q rest))
  (hx:ev l x=some s:=by first | (with_reducible apply evc) | rfl) (ht:P.underlying t=some (.slice E):=by rfl) (hr:RdW c W s xs:=by first | (apply RdW.old;with_reducible assumption) | (apply RdW.old;apply RdC.shift <;> with_reducible assumption) | (apply RdW.own;(repeat (first|apply Find.here|apply Find.there));done) | (with_reducible assumption) | (apply RdW.nil) | exact RdW.arrN (by repeat (first|apply Find.here|apply Find.there)) (by omega) (by omega) (by first | (with_reducible rfl) | (with_reducible assumption) | (simp[*];done) | (simp;omega)) | exact RdW.subN (by first | (apply RdW.old;with_reducible assumption) | (apply RdW.own;(repeat (first|apply Find.here|apply Find.there));done)) (by omega) (by first | omega | (simp[*];done) | (simp;omega))) (hn:Nat.blt d n.sz=true:=by rfl):
  Go c n l W (wpList P ops Q (⟨some d,.call { callee:=.builtin .len,args:=#[x],argTypes:=(t::ts).toArray },T,pos,after,none⟩::rest)):=JC hx ht hr hn hk
theorem Z22{x y:Operand}{b i m:Nat}{k:IntKind}{t E:TypeId}(hk:Go c n ((d,pt b i)::l) W (wpList P ops Q rest))
  (hx:ev l x=some (pt b 0):=by first | (with_reducible apply evc) | rfl) (hy:ev l y=some (N k i):=by first | (with_reducible apply evc) | rfl) (ht:P.underlying t=some (.array m E):=by rfl) (hz:ay P E=some 1:=by rfl) (hi:i<m:=by first | omega | (simp;done) | (simp;omega) | (simp only[List.length_map,List.length_replicate,List.length_append,List.length_set,List.length_cons,List.length_nil,List.length_take,List.length_drop];omega)) (hn:Nat.blt d n.sz=true:=by rfl):
  Go c n l W (wpList P ops Q (⟨some d,.indexAddr t x y,T,pos,after,none⟩::rest)):=Bg hx hy ht hz hi hn hk
theorem Z23{x y:Operand}{s:Value}{i:Nat}{k:IntKind}{xs:List Value}{t E:TypeId}(hk:Go c n ((d,.pointer (some (ea s i)))::l) W (wpList P ops Q rest))
  (hx:ev l x=some s:=by first | (with_reducible apply evc) | rfl) (hy:ev l y=some (N k i):=by first | (with_reducible apply evc) | rfl) (ht:P.underlying t=some (.slice E):=by rfl) (hz:ay P E=some 1:=by rfl) (hr:RdW c W s xs:=by first | (apply RdW.old;with_reducible assumption) | (apply RdW.old;apply RdC.shift <;> with_reducible assumption) | (apply RdW.own;(repeat (first|apply Find.here|apply Find.there));done) | (with_reducible assumption) | (apply RdW.nil) | exact RdW.arrN (by repeat (first|apply Find.here|apply Find.there)) (by omega) (by omega) (by first | (with_reducible rfl) | (with_reducible assumption) | (simp[*];done) | (simp;omega)) | exact RdW.subN (by first | (apply RdW.old;with_reducible assumption) | (apply RdW.own;(repeat (first|apply Find.here|apply Find.there));done)) (by omega) (by first | omega | (simp[*];done) | (simp;omega))) (hi:i<xs.length:=by first | omega | (simp;done) | (simp;omega) | (simp only[List.length_map,List.length_replicate,List.length_append,List.length_set,List.length_cons,List.length_nil,List.length_take,List.length_drop];omega)) (hn:Nat.blt d n.sz=true:=by rfl):
  Go c n l W (wpList P ops Q (⟨some d,.indexAddr t x y,T,pos,after,none⟩::rest)):=yO hx hy ht hz hr hi hn hk
theorem Z24{x:Operand}{b off:Nat}{k:IntKind}{ys:List Nat}{E U:TypeId}{R:List Res}(hk:Go c n ((d,N k (ys.getD off 0))::l) W (wpList P ops Q rest))
  (hx:ev l x=some (pt b off):=by first | (with_reducible apply evc) | rfl) (hf:Find W (.blk b (LV k ys) U) R:=by repeat (first|apply Find.here|apply Find.there)) (hi:off<ys.length:=by first | omega | (simp;done) | (simp;omega) | (simp only[List.length_map,List.length_replicate,List.length_append,List.length_set,List.length_cons,List.length_nil,List.length_take,List.length_drop];omega)) (hs:kv P E=true:=by rfl) (hn:Nat.blt d n.sz=true:=by rfl):
  Go c n l W (wpList P ops Q (⟨some d,.load E x,T,pos,after,none⟩::rest)):=t6 hx hf hi hs hn hk
theorem Z26{x:Operand}{b m:Nat}{k:IntKind}{ys:List Nat}{E U:TypeId}{R:List Res}(hk:Go c n ((d,LV k ys)::l) W (wpList P ops Q rest))
  (hx:ev l x=some (pt b 0):=by first | (with_reducible apply evc) | rfl) (hf:Find W (.blk b (LV k ys) U) R:=by repeat (first|apply Find.here|apply Find.there)) (hs:cD P E=true:=by rfl) (hz:ay P E=some m:=by rfl) (hl:ys.length=m:=by first | (with_reducible rfl) | (with_reducible assumption) | (simp only[List.length_map,List.length_replicate,List.length_append,List.length_set,List.length_cons,List.length_nil,List.length_take,List.length_drop, *];done) | (simp only[List.length_map,List.length_replicate,List.length_append,List.length_set,List.length_cons,List.length_nil,List.length_take,List.length_drop, *];omega) | (simp[*];done) | (simp;omega) | decide) (hn:Nat.blt d n.sz=true:=by rfl):
  Go c n l W (wpList P ops Q (⟨some d,.load E x,T,pos,after,none⟩::rest)):=mc hx hf hs hz hl hn hk
theorem Z27{x:Operand}{s:Value}{i:Nat}{k:IntKind}{ys:List Nat}{E:TypeId}(hk:Go c n ((d,N k (ys.getD i 0))::l) W (wpList P ops Q rest))
  (hx:ev l x=some (.pointer (some (ea s i))):=by first | (with_reducible apply evc) | rfl) (hr:RdW c W s (ys.map (N k)):=by first | (apply RdW.old;with_reducible assumption) | (apply RdW.old;apply RdC.shift <;> with_reducible assumption) | (apply RdW.own;(repeat (first|apply Find.here|apply Find.there));done) | (with_reducible assumption) | (apply RdW.nil) | exact RdW.arrN (by repeat (first|apply Find.here|apply Find.there)) (by omega) (by omega) (by first | (with_reducible rfl) | (with_reducible assumption) | (simp[*];done) | (simp;omega)) | exact RdW.subN (by first | (apply RdW.old;with_reducible assumption) | (apply RdW.own;(repeat (first|apply Find.here|apply Find.there));done)) (by omega) (by first | omega | (simp[*];done) | (simp;omega))) (hi:i<ys.length:=by first | omega | (simp;done) | (simp;omega) | (simp only[List.length_map,List.length_replicate,List.length_append,List.length_set,List.length_cons,List.length_nil,List.length_take,List.length_drop];omega)) (hs:kv P E=true:=by rfl) (hn:Nat.blt d n.sz=true:=by rfl):
  Go c n l W (wpList P ops Q (⟨some d,.load E x,T,pos,after,none⟩::rest)):=pb hx hr hi hs hn hk
theorem Z29{x y:Operand}{b off u:Nat}{k:IntKind}{ys:List Nat}{E U:TypeId}{R:List Res}(hk:Go c n l (.blk b (LV k (ys.set off u)) U::R) (wpList P ops Q rest))
  (hx:ev l x=some (pt b off):=by first | (with_reducible apply evc) | rfl) (hy:ev l y=some (N k u):=by first | (with_reducible apply evc) | rfl) (hf:Find W (.blk b (LV k ys) U) R:=by repeat (first|apply Find.here|apply Find.there)) (hi:off<ys.length:=by first | omega | (simp;done) | (simp;omega) | (simp only[List.length_map,List.length_replicate,List.length_append,List.length_set,List.length_cons,List.length_nil,List.length_take,List.length_drop];omega)) (hz:ay P E=some 1:=by rfl):
  Go c n l W (wpList P ops Q (⟨none,.store E x y,T,pos,after,none⟩::rest)):=Bk hx hy hf hi hz hk
theorem Z30{x y:Operand}{s:Value}{i u:Nat}{k:IntKind}{ys:List Nat}{E U:TypeId}{R:List Res}(hk:Go c n l (.sl s ((ys.set i u).map (N k)) U::R) (wpList P ops Q rest))
  (hx:ev l x=some (.pointer (some (ea s i))):=by first | (with_reducible apply evc) | rfl) (hy:ev l y=some (N k u):=by first | (with_reducible apply evc) | rfl) (hf:Find W (.sl s (ys.map (N k)) U) R:=by repeat (first|apply Find.here|apply Find.there)) (hi:i<ys.length:=by first | omega | (simp;done) | (simp;omega) | (simp only[List.length_map,List.length_replicate,List.length_append,List.length_set,List.length_cons,List.length_nil,List.length_take,List.length_drop];omega)) (hz:ay P E=some 1:=by rfl):
  Go c n l W (wpList P ops Q (⟨none,.store E x y,T,pos,after,none⟩::rest)):=wj hx hy hf hi hz hk
theorem Z31{x y:Operand}{b:Nat}{v u:Value}{E U:TypeId}{R:List Res}(hk:Go c n l (.blk b u U::R) (wpList P ops Q rest))
  (hx:ev l x=some (pt b 0):=by first | (with_reducible apply evc) | rfl) (hy:ev l y=some u:=by first | (with_reducible apply evc) | rfl) (hf:Find W (.blk b v U) R:=by repeat (first|apply Find.here|apply Find.there)) (hv:v.oneCell'=true:=by rfl) (hu:u.oneCell'=true:=by rfl) (hz:ay P E=some 1:=by rfl):
  Go c n l W (wpList P ops Q (⟨none,.store E x y,T,pos,after,none⟩::rest)):=ij hx hy hf hv hu hz hk
theorem Z32{x y:Operand}{b m:Nat}{k:IntKind}{ys zs:List Nat}{E U:TypeId}{R:List Res}(hk:Go c n l (.blk b (LV k zs) U::R) (wpList P ops Q rest))
  (hx:ev l x=some (pt b 0):=by first | (with_reducible apply evc) | rfl) (hy:ev l y=some (LV k zs):=by first | (with_reducible apply evc) | rfl) (hf:Find W (.blk b (LV k ys) U) R:=by repeat (first|apply Find.here|apply Find.there)) (hz:ay P E=some m:=by rfl) (hl:ys.length=m:=by first | (with_reducible rfl) | (with_reducible assumption) | (simp only[List.length_map,List.length_replicate,List.length_append,List.length_set,List.length_cons,List.length_nil,List.length_take,List.length_drop, *];done) | (simp only[List.length_map,List.length_replicate,List.length_append,List.length_set,List.length_cons,List.length_nil,List.length_take,List.length_drop, *];omega) | (simp[*];done) | (simp;omega) | decide) (hl':zs.length=m:=by first | (with_reducible rfl) | (with_reducible assumption) | (simp only[List.length_map,List.length_replicate,List.length_append,List.length_set,List.length_cons,List.length_nil,List.length_take,List.length_drop, *];done) | (simp only[List.length_map,List.length_replicate,List.length_append,List.length_set,List.length_cons,List.length_nil,List.length_take,List.length_drop, *];omega) | (simp[*];done) | (simp;omega) | decide):
  Go c n l W (wpList P ops Q (⟨none,.store E x y,T,pos,after,none⟩::rest)):=aX hx hy hf hz hl hl' hk
theorem Z33{k:IntKind}{m:Nat}{x y:Operand}{a0 b0:Nat}{xt yt:TypeId}(hk:Go c n ((d,N k ((a0+b0)%m))::l) W (wpList P ops Q rest))
  (hx:ev l x=some (N k a0):=by first | (with_reducible apply evc) | rfl) (hy:ev l y=some (N k b0):=by first | (with_reducible apply evc) | rfl) (hm:ub k=some m:=by rfl) (hn:Nat.blt d n.sz=true:=by rfl):
  Go c n l W (wpList P ops Q (⟨some d,.binOp .add xt x y yt,T,pos,after,none⟩::rest)):=SW hx hy hm hn hk
theorem Z34{k:IntKind}{m:Nat}{x y:Operand}{a0 b0:Nat}{xt yt:TypeId}(hk:Go c n ((d,N k ((a0+(m-b0%m))%m))::l) W (wpList P ops Q rest))
  (hx:ev l x=some (N k a0):=by first | (with_reducible apply evc) | rfl) (hy:ev l y=some (N k b0):=by first | (with_reducible apply evc) | rfl) (hm:ub k=some m:=by rfl) (hn:Nat.blt d n.sz=true:=by rfl):
  Go c n l W (wpList P ops Q (⟨some d,.binOp .sub xt x y yt,T,pos,after,none⟩::rest)):=Td hx hy hm hn hk
theorem Z35{k:IntKind}{m:Nat}{x y:Operand}{a0 b0:Nat}{xt yt:TypeId}(hk:Go c n ((d,N k ((a0*b0)%m))::l) W (wpList P ops Q rest))
  (hx:ev l x=some (N k a0):=by first | (with_reducible apply evc) | rfl) (hy:ev l y=some (N k b0):=by first | (with_reducible apply evc) | rfl) (hm:ub k=some m:=by rfl) (hn:Nat.blt d n.sz=true:=by rfl):
  Go c n l W (wpList P ops Q (⟨some d,.binOp .mul xt x y yt,T,pos,after,none⟩::rest)):=S7 hx hy hm hn hk
theorem Z36{x y:Operand}{a0 b0:Nat}{xt yt:TypeId}(hk:Go c n ((d,N .i64 (a0*b0))::l) W (wpList P ops Q rest))
  (hx:ev l x=some (N .i64 a0):=by first | (with_reducible apply evc) | rfl) (hy:ev l y=some (N .i64 b0):=by first | (with_reducible apply evc) | rfl) (hb:a0*b0<9223372036854775808:=by omega) (hn:Nat.blt d n.sz=true:=by rfl):
  Go c n l W (wpList P ops Q (⟨some d,.binOp .mul xt x y yt,T,pos,after,none⟩::rest)):=Np hx hy hb hn hk
theorem Z37{x y:Operand}{a0 b0:Nat}{xt yt:TypeId}(hk:Go c n ((d,N .i64 (a0/b0))::l) W (wpList P ops Q rest))
  (hx:ev l x=some (N .i64 a0):=by first | (with_reducible apply evc) | rfl) (hy:ev l y=some (N .i64 b0):=by first | (with_reducible apply evc) | rfl) (h0:0<b0:=by omega) (hb:a0<9223372036854775808:=by omega) (hn:Nat.blt d n.sz=true:=by rfl):
  Go c n l W (wpList P ops Q (⟨some d,.binOp .quo xt x y yt,T,pos,after,none⟩::rest)):=Nm hx hy h0 hb hn hk
theorem Z38{x y:Operand}{a0 b0:Nat}{xt yt:TypeId}(hk:Go c n ((d,N .i64 (a0%b0))::l) W (wpList P ops Q rest))
  (hx:ev l x=some (N .i64 a0):=by first | (with_reducible apply evc) | rfl) (hy:ev l y=some (N .i64 b0):=by first | (with_reducible apply evc) | rfl) (h0:0<b0:=by omega) (hn:Nat.blt d n.sz=true:=by rfl):
  Go c n l W (wpList P ops Q (⟨some d,.binOp .rem xt x y yt,T,pos,after,none⟩::rest)):=No hx hy h0 hn hk
theorem Z39{k:IntKind}{m:Nat}{x y:Operand}{a0 b0:Nat}{xt yt:TypeId}(hk:Go c n ((d,N k ((a0%m) ^^^ (b0%m)))::l) W (wpList P ops Q rest))
  (hx:ev l x=some (N k a0):=by first | (with_reducible apply evc) | rfl) (hy:ev l y=some (N k b0):=by first | (with_reducible apply evc) | rfl) (hm:ub k=some m:=by rfl) (hn:Nat.blt d n.sz=true:=by rfl):
  Go c n l W (wpList P ops Q (⟨some d,.binOp .xor xt x y yt,T,pos,after,none⟩::rest)):=Te hx hy hm hn hk
theorem Z40{k:IntKind}{m:Nat}{x y:Operand}{a0 b0:Nat}{xt yt:TypeId}(hk:Go c n ((d,N k ((a0%m) &&& (b0%m)))::l) W (wpList P ops Q rest))
  (hx:ev l x=some (N k a0):=by first | (with_reducible apply evc) | rfl) (hy:ev l y=some (N k b0):=by first | (with_reducible apply evc) | rfl) (hm:ub k=some m:=by rfl) (hn:Nat.blt d n.sz=true:=by rfl):
  Go c n l W (wpList P ops Q (⟨some d,.binOp .and xt x y yt,T,pos,after,none⟩::rest)):=SX hx hy hm hn hk
theorem Z41{k:IntKind}{m:Nat}{x y:Operand}{a0 b0:Nat}{xt yt:TypeId}(hk:Go c n ((d,N k ((a0%m) ||| (b0%m)))::l) W (wpList P ops Q rest))
  (hx:ev l x=some (N k a0):=by first | (with_reducible apply evc) | rfl) (hy:ev l y=some (N k b0):=by first | (with_reducible apply evc) | rfl) (hm:ub k=some m:=by rfl) (hn:Nat.blt d n.sz=true:=by rfl):
  Go c n l W (wpList P ops Q (⟨some d,.binOp .or xt x y yt,T,pos,after,none⟩::rest)):=VH hx hy hm hn hk
theorem Z42{k yk:IntKind}{x y:Operand}{a0 b0:Nat}{xt yt:TypeId}(hk:Go c n ((d,N k (a0 >>> b0))::l) W (wpList P ops Q rest))
  (hx:ev l x=some (N k a0):=by first | (with_reducible apply evc) | rfl) (hy:ev l y=some (N yk b0):=by first | (with_reducible apply evc) | rfl) (hb:b0≤k.bits:=by first | exact Nat.le_of_ble_eq_true rfl | (simp[IntKind.bits];omega)) (hn:Nat.blt d n.sz=true:=by rfl):
  Go c n l W (wpList P ops Q (⟨some d,.binOp .shr xt x y yt,T,pos,after,none⟩::rest)):=ii hx hy hb hn hk
theorem Z43{k yk:IntKind}{m:Nat}{x y:Operand}{a0 b0:Nat}{xt yt:TypeId}(hk:Go c n ((d,N k ((a0 <<< b0)%m))::l) W (wpList P ops Q rest))
  (hx:ev l x=some (N k a0):=by first | (with_reducible apply evc) | rfl) (hy:ev l y=some (N yk b0):=by first | (with_reducible apply evc) | rfl) (hm:ub k=some m:=by rfl) (hn:Nat.blt d n.sz=true:=by rfl):
  Go c n l W (wpList P ops Q (⟨some d,.binOp .shl xt x y yt,T,pos,after,none⟩::rest)):=Tb hx hy hm hn hk
theorem Z44{k k':IntKind}{m:Nat}{x:Operand}{a0:Nat}{sd:TypeDesc}{s t:TypeId}(hk:Go c n ((d,N k' (a0%m))::l) W (wpList P ops Q rest))
  (hx:ev l x=some (N k a0):=by first | (with_reducible apply evc) | rfl) (hs:P.underlying s=some sd:=by rfl) (ht:P.underlying t=some (.int k'):=by rfl) (hm:ub k'=some m:=by rfl) (hn:Nat.blt d n.sz=true:=by rfl):
  Go c n l W (wpList P ops Q (⟨some d,.convert s t x,T,pos,after,none⟩::rest)):=Nc hx hs ht hm hn hk
theorem Z45{k:IntKind}{x:Operand}{a0:Nat}{sd:TypeDesc}{s t:TypeId}(hk:Go c n ((d,N .i64 a0)::l) W (wpList P ops Q rest))
  (hx:ev l x=some (N k a0):=by first | (with_reducible apply evc) | rfl) (hs:P.underlying s=some sd:=by rfl) (ht:P.underlying t=some (.int .i64):=by rfl) (hb:a0<9223372036854775808:=by omega) (hn:Nat.blt d n.sz=true:=by rfl):
  Go c n l W (wpList P ops Q (⟨some d,.convert s t x,T,pos,after,none⟩::rest)):=Jw hx hs ht hb hn hk
theorem Z46{x:Operand}{a0:Addr}(hk:Go c n ((d,.pointer (some a0))::l) W (wpList P ops Q rest))
  (hx:ev l x=some (.pointer (some a0)):=by first | (with_reducible apply evc) | rfl) (hn:Nat.blt d n.sz=true:=by rfl):
  Go c n l W (wpList P ops Q (⟨some d,.nilCheck x,T,pos,after,none⟩::rest)):=yT hx hn hk
theorem Z48{f:Fn}{xs ys:List Operand}{us vs:List Value}(hk:Go c n ((d,.func f us.toArray vs.toArray)::l) W (wpList P ops Q rest))
  (hx:evs l xs=some us:=by rfl) (hy:evs l ys=some vs:=by rfl) (hn:Nat.blt d n.sz=true:=by rfl):
  Go c n l W (wpList P ops Q (⟨some d,.makeFunc f xs.toArray ys.toArray,T,pos,after,none⟩::rest)):=yQ hx hy hn hk
theorem Z49{x y z:Operand}{v:Value}(hk:Go c n ((d,v)::l) W (wpList P ops Q rest))
  (hc:ev l x=some (.bool true):=by first | (with_reducible apply evc) | rfl) (hy:ev l y=some v:=by first | (with_reducible apply evc) | rfl) (hn:Nat.blt d n.sz=true:=by rfl):
  Go c n l W (wpList P ops Q (⟨some d,.pick x y z,T,pos,after,none⟩::rest)):=Fy hc hy hn hk
theorem Z50{x y z:Operand}{v:Value}(hk:Go c n ((d,v)::l) W (wpList P ops Q rest))
  (hc:ev l x=some (.bool false):=by first | (with_reducible apply evc) | rfl) (hz:ev l z=some v:=by first | (with_reducible apply evc) | rfl) (hn:Nat.blt d n.sz=true:=by rfl):
  Go c n l W (wpList P ops Q (⟨some d,.pick x y z,T,pos,after,none⟩::rest)):=Fx hc hz hn hk
theorem Z51{op:Op}{j t:Nat}{want:Bool}(hy:Go c n l W (wpList P ops Q (⟨some d,op,T,pos,after,none⟩::rest)))
  (hj:(ops[j]?).bind (·.dst)=some t:=by rfl) (ht:lk l t=some (.bool want):=by rfl):
  Go c n l W (wpList P ops Q (⟨some d,op,T,pos,after,some (j,want)⟩::rest)):=v8 hj ht hy
theorem Z52{op:Op}{j t:Nat}{want:Bool}(hno:Go c n ((d,undef)::l) W (wpList P ops Q rest))
  (hj:(ops[j]?).bind (·.dst)=some t:=by rfl) (ht:lk l t=some (.bool !want):=by rfl) (hn:Nat.blt d n.sz=true:=by rfl):
  Go c n l W (wpList P ops Q (⟨some d,op,T,pos,after,some (j,want)⟩::rest)):=yN hj ht hn hno
theorem Z54{x:Operand}{b0:Bool}{xt:TypeId}(hk:Go c n ((d,.bool (!b0))::l) W (wpList P ops Q rest))
  (hx:ev l x=some (.bool b0):=by first | (with_reducible apply evc) | rfl) (hn:Nat.blt d n.sz=true:=by rfl):
  Go c n l W (wpList P ops Q (⟨some d,.unOp .not xt x,T,pos,after,none⟩::rest)):=v4 hx hn hk
theorem Z57{x y:Operand}{k kk:IntKind}{ys:List Nat}{i m:Nat}{t E:TypeId}(hk:Go c n ((d,N k (ys.getD i 0))::l) W (wpList P ops Q rest))
  (hx:ev l x=some (LV k ys):=by first | (with_reducible apply evc) | rfl) (hy:ev l y=some (N kk i):=by first | (with_reducible apply evc) | rfl) (ht:P.underlying t=some (.array m E):=by rfl) (hs:kv P E=true:=by rfl) (hz:ay P E=some 1:=by rfl) (hi:i<m:=by first | omega | (simp;done) | (simp;omega) | (simp only[List.length_map,List.length_replicate,List.length_append,List.length_set,List.length_cons,List.length_nil,List.length_take,List.length_drop];omega)) (hl:ys.length=m:=by first | (with_reducible rfl) | (with_reducible assumption) | (simp only[List.length_map,List.length_replicate,List.length_append,List.length_set,List.length_cons,List.length_nil,List.length_take,List.length_drop, *];done) | (simp only[List.length_map,List.length_replicate,List.length_append,List.length_set,List.length_cons,List.length_nil,List.length_take,List.length_drop, *];omega) | (simp[*];done) | (simp;omega) | decide) (hn:Nat.blt d n.sz=true:=by rfl):
  Go c n l W (wpList P ops Q (⟨some d,.index t x y,T,pos,after,none⟩::rest)):=JB hx hy ht hs hz hi hl hn hk
theorem Z60{x y:Operand}{k k':IntKind}{a0 b0:Nat}{ts:List TypeId}(hk:Go c n ((d,N k (max a0 b0))::l) W (wpList P ops Q rest))
  (hx:ev l x=some (N k a0):=by first | (with_reducible apply evc) | rfl) (hy:ev l y=some (N k' b0):=by first | (with_reducible apply evc) | rfl) (hn:Nat.blt d n.sz=true:=by rfl):
  Go c n l W (wpList P ops Q (⟨some d,.call { callee:=.builtin .max,args:=#[x,y],argTypes:=ts.toArray },T,pos,after,none⟩::rest)):=S6 hx hy hn hk
theorem Z62{x:Operand}{s:Value}{xs:List Value}{t E:TypeId}{xl xh:Option Operand}{lo hi:Nat}(hk:Go c n ((d,sub s lo hi)::l) W (wpList P ops Q rest))
  (hx:ev l x=some s:=by first | (with_reducible apply evc) | rfl) (ht:P.underlying t=some (.slice E):=by rfl) (hz:ay P E=some 1:=by rfl) (hr:RdW c W s xs:=by first | (apply RdW.old;with_reducible assumption) | (apply RdW.old;apply RdC.shift <;> with_reducible assumption) | (apply RdW.own;(repeat (first|apply Find.here|apply Find.there));done) | (with_reducible assumption) | (apply RdW.nil) | exact RdW.arrN (by repeat (first|apply Find.here|apply Find.there)) (by omega) (by omega) (by first | (with_reducible rfl) | (with_reducible assumption) | (simp[*];done) | (simp;omega)) | exact RdW.subN (by first | (apply RdW.old;with_reducible assumption) | (apply RdW.own;(repeat (first|apply Find.here|apply Find.there));done)) (by omega) (by first | omega | (simp[*];done) | (simp;omega))) (hl:vo l xl=some lo:=by first | (with_reducible apply loc) | rfl) (hh:mL l xs.length xh=some hi:=by first | (with_reducible apply hic) | rfl) (h1:lo≤hi:=by first | omega | (simp;done) | (simp;omega) | (simp only[List.length_map,List.length_replicate,List.length_append,List.length_set,List.length_cons,List.length_nil,List.length_take,List.length_drop];omega)) (h2:hi≤xs.length:=by first | omega | (simp;done) | (simp;omega) | (simp only[List.length_map,List.length_replicate,List.length_append,List.length_set,List.length_cons,List.length_nil,List.length_take,List.length_drop];omega)) (hn:Nat.blt d n.sz=true:=by rfl):
  Go c n l W (wpList P ops Q (⟨some d,.slice t x xl xh none,T,pos,after,none⟩::rest)):=ky hx ht hz hr hl hh h1 h2 hn hk
theorem Z63{x:Operand}{b m:Nat}{t E:TypeId}{xl xh:Option Operand}{lo hi:Nat}(hk:Go c n ((d,fj b m lo hi)::l) W (wpList P ops Q rest))
  (hx:ev l x=some (pt b 0):=by first | (with_reducible apply evc) | rfl) (ht:P.underlying t=some (.array m E):=by rfl) (hz:ay P E=some 1:=by rfl) (hl:vo l xl=some lo:=by first | (with_reducible apply loc) | rfl) (hh:mL l m xh=some hi:=by first | (with_reducible apply hic) | rfl) (h1:lo≤hi:=by first | omega | (simp;done) | (simp;omega) | (simp only[List.length_map,List.length_replicate,List.length_append,List.length_set,List.length_cons,List.length_nil,List.length_take,List.length_drop];omega)) (h2:hi≤m:=by first | omega | (simp;done) | (simp;omega) | (simp only[List.length_map,List.length_replicate,List.length_append,List.length_set,List.length_cons,List.length_nil,List.length_take,List.length_drop];omega)) (hn:Nat.blt d n.sz=true:=by rfl):
  Go c n l W (wpList P ops Q (⟨some d,.slice t x xl xh none,T,pos,after,none⟩::rest)):=wi hx ht hz hl hh h1 h2 hn hk
theorem Z66{x:Operand}{s:Value}{xs:List Value}{A E:TypeId}{m:Nat}(hk:Go c n ((d,A8 s)::l) W (wpList P ops Q rest))
  (hx:ev l x=some s:=by first | (with_reducible apply evc) | rfl) (hA:P.underlying A=some (.array m E):=by rfl) (hr:RdW c W s xs:=by first | (apply RdW.old;with_reducible assumption) | (apply RdW.old;apply RdC.shift <;> with_reducible assumption) | (apply RdW.own;(repeat (first|apply Find.here|apply Find.there));done) | (with_reducible assumption) | (apply RdW.nil) | exact RdW.arrN (by repeat (first|apply Find.here|apply Find.there)) (by omega) (by omega) (by first | (with_reducible rfl) | (with_reducible assumption) | (simp[*];done) | (simp;omega)) | exact RdW.subN (by first | (apply RdW.old;with_reducible assumption) | (apply RdW.own;(repeat (first|apply Find.here|apply Find.there));done)) (by omega) (by first | omega | (simp[*];done) | (simp;omega))) (hm:m≤xs.length:=by first | omega | (simp;done) | (simp;omega) | (simp only[List.length_map,List.length_replicate,List.length_append,List.length_set,List.length_cons,List.length_nil,List.length_take,List.length_drop];omega)) (hn:Nat.blt d n.sz=true:=by rfl):
  Go c n l W (wpList P ops Q (⟨some d,.sliceToArrayPointer A x,T,pos,after,none⟩::rest)):=Fo hx hA hr hm hn hk
theorem Z67{x:Operand}{s:Value}{k:IntKind}{ys:List Nat}{A:TypeId}{m:Nat}(hk:Go c n ((d,LV k (ys.take m))::l) W (wpList P ops Q rest))
  (hx:ev l x=some (A8 s):=by first | (with_reducible apply evc) | rfl) (hs:cD P A=true:=by rfl) (hz:ay P A=some m:=by rfl) (hr:RdW c W s (ys.map (N k)):=by first | (apply RdW.old;with_reducible assumption) | (apply RdW.old;apply RdC.shift <;> with_reducible assumption) | (apply RdW.own;(repeat (first|apply Find.here|apply Find.there));done) | (with_reducible assumption) | (apply RdW.nil) | exact RdW.arrN (by repeat (first|apply Find.here|apply Find.there)) (by omega) (by omega) (by first | (with_reducible rfl) | (with_reducible assumption) | (simp[*];done) | (simp;omega)) | exact RdW.subN (by first | (apply RdW.old;with_reducible assumption) | (apply RdW.own;(repeat (first|apply Find.here|apply Find.there));done)) (by omega) (by first | omega | (simp[*];done) | (simp;omega))) (hm:m≤ys.length:=by first | omega | (simp;done) | (simp;omega) | (simp only[List.length_map,List.length_replicate,List.length_append,List.length_set,List.length_cons,List.length_nil,List.length_take,List.length_drop];omega)) (hm0:0<m:=by first | omega | (simp;done) | (simp;omega) | (simp only[List.length_map,List.length_replicate,List.length_append,List.length_set,List.length_cons,List.length_nil,List.length_take,List.length_drop];omega)) (hn:Nat.blt d n.sz=true:=by rfl):
  Go c n l W (wpList P ops Q (⟨some d,.load A x,T,pos,after,none⟩::rest)):=lx hx hs hz hr hm hm0 hn hk
theorem Z68{x y:Operand}{a0 b0:Bool}{xt yt:TypeId}(hk:Go c n ((d,.bool (decide (¬a0=b0)))::l) W (wpList P ops Q rest))
  (hx:ev l x=some (.bool a0):=by first | (with_reducible apply evc) | rfl) (hy:ev l y=some (.bool b0):=by first | (with_reducible apply evc) | rfl) (ht:P.underlying xt=some .bool:=by rfl) (hn:Nat.blt d n.sz=true:=by rfl):
  Go c n l W (wpList P ops Q (⟨some d,.binOp .neq xt x y yt,T,pos,after,none⟩::rest)):=SY hx hy ht hn hk
theorem Z69{x y:Operand}{a0 b0:Bool}{xt yt:TypeId}(hk:Go c n ((d,.bool (decide (a0=b0)))::l) W (wpList P ops Q rest))
  (hx:ev l x=some (.bool a0):=by first | (with_reducible apply evc) | rfl) (hy:ev l y=some (.bool b0):=by first | (with_reducible apply evc) | rfl) (ht:P.underlying xt=some .bool:=by rfl) (hn:Nat.blt d n.sz=true:=by rfl):
  Go c n l W (wpList P ops Q (⟨some d,.binOp .eql xt x y yt,T,pos,after,none⟩::rest)):=ma hx hy ht hn hk
theorem Z71{x y:Operand}{a0 b0:Int}{xt yt:TypeId}(hk:Go c n ((d,.int .i64 (a0-b0))::l) W (wpList P ops Q rest))
  (hx:ev l x=some (.int .i64 a0):=by first | (with_reducible apply evc) | rfl) (hy:ev l y=some (.int .i64 b0):=by first | (with_reducible apply evc) | rfl) (hb:-9223372036854775808≤a0-b0∧a0-b0<9223372036854775808:=by first | omega | (simp only[Int.ofNat_eq_natCast];omega)) (hn:Nat.blt d n.sz=true:=by rfl):
  Go c n l W (wpList P ops Q (⟨some d,.binOp .sub xt x y yt,T,pos,after,none⟩::rest)):=Nx hx hy hb hn hk
theorem Z72{x:Operand}{a0:Nat}{xt:TypeId}(hk:Go c n ((d,.int .i64 (-(a0:Int)))::l) W (wpList P ops Q rest))
  (hx:ev l x=some (N .i64 a0):=by first | (with_reducible apply evc) | rfl) (hb:a0<9223372036854775808:=by omega) (hn:Nat.blt d n.sz=true:=by rfl):
  Go c n l W (wpList P ops Q (⟨some d,.unOp .neg xt x,T,pos,after,none⟩::rest)):=Nq hx hb hn hk
theorem Z74{m:Nat}{k k':IntKind}{x:Operand}{a0:Int}{sd:TypeDesc}{s t:TypeId}(hk:Go c n ((d,N k' (a0%(m:Int)).toNat)::l) W (wpList P ops Q rest))
  (hx:ev l x=some (.int k a0):=by first | (with_reducible apply evc) | rfl) (hs:P.underlying s=some sd:=by rfl) (ht:P.underlying t=some (.int k'):=by rfl) (hm:ub k'=some m:=by rfl) (hn:Nat.blt d n.sz=true:=by rfl):
  Go c n l W (wpList P ops Q (⟨some d,.convert s t x,T,pos,after,none⟩::rest)):=Jx hx hs ht hm hn hk
theorem Z75{x y:Operand}{b m lo hi:Nat}{kk:IntKind}{cs ys:List Nat}{y0:Value}{dT sT E U:TypeId}{R:List Res}(hk:Go c n ((d,N .i64 (min ys.length (hi-lo)))::l) (.blk b (LV kk (cs.take lo++ys.take (hi-lo)++cs.drop (lo+min ys.length (hi-lo)))) U::R) (wpList P ops Q rest))
  (hx:ev l x=some (fj b m lo hi):=by first | (with_reducible apply evc) | rfl) (hy:ev l y=some y0:=by first | (with_reducible apply evc) | rfl) (hf:Find W (.blk b (LV kk cs) U) R:=by repeat (first|apply Find.here|apply Find.there)) (hr:RdW c W y0 (ys.map (N kk)):=by first | (apply RdW.old;with_reducible assumption) | (apply RdW.old;apply RdC.shift <;> with_reducible assumption) | (apply RdW.own;(repeat (first|apply Find.here|apply Find.there));done) | (with_reducible assumption) | (apply RdW.nil) | exact RdW.arrN (by repeat (first|apply Find.here|apply Find.there)) (by omega) (by omega) (by first | (with_reducible rfl) | (with_reducible assumption) | (simp[*];done) | (simp;omega)) | exact RdW.subN (by first | (apply RdW.old;with_reducible assumption) | (apply RdW.own;(repeat (first|apply Find.here|apply Find.there));done)) (by omega) (by first | omega | (simp[*];done) | (simp;omega))) (ht:P.underlying dT=some (.slice E):=by rfl) (hs:ay P E=some 1:=by rfl) (hm:cs.length=m:=by first | (with_reducible rfl) | (with_reducible assumption) | (simp only[List.length_map,List.length_replicate,List.length_append,List.length_set,List.length_cons,List.length_nil,List.length_take,List.length_drop, *];done) | (simp only[List.length_map,List.length_replicate,List.length_append,List.length_set,List.length_cons,List.length_nil,List.length_take,List.length_drop, *];omega) | (simp[*];done) | (simp;omega) | decide) (h1:lo≤hi:=by first | omega | (simp;done) | (simp;omega) | (simp only[List.length_map,List.length_replicate,List.length_append,List.length_set,List.length_cons,List.length_nil,List.length_take,List.length_drop];omega)) (h2:hi≤m:=by first | omega | (simp;done) | (simp;omega) | (simp only[List.length_map,List.length_replicate,List.length_append,List.length_set,List.length_cons,List.length_nil,List.length_take,List.length_drop];omega)) (hn:Nat.blt d n.sz=true:=by rfl):
  Go c n l W (wpList P ops Q (⟨some d,.call { callee:=.builtin .copy,args:=#[x,y],argTypes:=#[dT,sT] },T,pos,after,none⟩::rest)):=v6 hx hy hf hr ht hs hm h1 h2 hn hk
theorem Z76{x y:Operand}{s:Value}{kk:IntKind}{xs ys:List Nat}{y0:Value}{dT sT E U:TypeId}{R:List Res}(hk:Go c n ((d,N .i64 (min ys.length xs.length))::l) (.sl s ((ys.take xs.length++xs.drop (min ys.length xs.length)).map (N kk)) U::R) (wpList P ops Q rest))
  (hx:ev l x=some s:=by first | (with_reducible apply evc) | rfl) (hy:ev l y=some y0:=by first | (with_reducible apply evc) | rfl) (hf:Find W (.sl s (xs.map (N kk)) U) R:=by repeat (first|apply Find.here|apply Find.there)) (hr:RdW c W y0 (ys.map (N kk)):=by first | (apply RdW.old;with_reducible assumption) | (apply RdW.old;apply RdC.shift <;> with_reducible assumption) | (apply RdW.own;(repeat (first|apply Find.here|apply Find.there));done) | (with_reducible assumption) | (apply RdW.nil) | exact RdW.arrN (by repeat (first|apply Find.here|apply Find.there)) (by omega) (by omega) (by first | (with_reducible rfl) | (with_reducible assumption) | (simp[*];done) | (simp;omega)) | exact RdW.subN (by first | (apply RdW.old;with_reducible assumption) | (apply RdW.own;(repeat (first|apply Find.here|apply Find.there));done)) (by omega) (by first | omega | (simp[*];done) | (simp;omega))) (ht:P.underlying dT=some (.slice E):=by rfl) (hs:ay P E=some 1:=by rfl) (hn:Nat.blt d n.sz=true:=by rfl):
  Go c n l W (wpList P ops Q (⟨some d,.call { callee:=.builtin .copy,args:=#[x,y],argTypes:=#[dT,sT] },T,pos,after,none⟩::rest)):=yJ hx hy hf hr ht hs hn hk
theorem Z77{k:IntKind}{x y:Operand}{xs:List Nat}{m:Nat}{xt yt E:TypeId}(hk:Go c n ((d,.bool true)::l) W (wpList P ops Q rest))
  (hx:ev l x=some (LV k xs):=by first | (with_reducible apply evc) | rfl) (hy:ev l y=some (LV k xs):=by first | (with_reducible apply evc) | rfl) (ht:P.underlying xt=some (.array m E):=by rfl) (hE:P.underlying E=some (.int k):=by rfl) (hz:ay P E=some 1:=by rfl) (hg:P.eqGuardType P.depth xt=false:=by rfl) (hlx:xs.length=m:=by first | (with_reducible rfl) | (with_reducible assumption) | (simp only[List.length_map,List.length_replicate,List.length_append,List.length_set,List.length_cons,List.length_nil,List.length_take,List.length_drop, *];done) | (simp only[List.length_map,List.length_replicate,List.length_append,List.length_set,List.length_cons,List.length_nil,List.length_take,List.length_drop, *];omega) | (simp[*];done) | (simp;omega) | decide) (hn:Nat.blt d n.sz=true:=by rfl):
  Go c n l W (wpList P ops Q (⟨some d,.binOp .eql xt x y yt,T,pos,after,none⟩::rest)):=Ft hx hy ht hE hz hg hlx hn hk
theorem Z78{k:IntKind}{x y:Operand}{xs ys:List Nat}{m:Nat}{xt yt E:TypeId}(hk:Go c n ((d,.bool (decide (xs=ys)))::l) W (wpList P ops Q rest))
  (hx:ev l x=some (LV k xs):=by first | (with_reducible apply evc) | rfl) (hy:ev l y=some (LV k ys):=by first | (with_reducible apply evc) | rfl) (ht:P.underlying xt=some (.array m E):=by rfl) (hE:P.underlying E=some (.int k):=by rfl) (hz:ay P E=some 1:=by rfl) (hg:P.eqGuardType P.depth xt=false:=by rfl) (hlx:xs.length=m:=by first | (with_reducible rfl) | (with_reducible assumption) | (simp only[List.length_map,List.length_replicate,List.length_append,List.length_set,List.length_cons,List.length_nil,List.length_take,List.length_drop, *];done) | (simp only[List.length_map,List.length_replicate,List.length_append,List.length_set,List.length_cons,List.length_nil,List.length_take,List.length_drop, *];omega) | (simp[*];done) | (simp;omega) | decide) (hly:ys.length=m:=by first | (with_reducible rfl) | (with_reducible assumption) | (simp only[List.length_map,List.length_replicate,List.length_append,List.length_set,List.length_cons,List.length_nil,List.length_take,List.length_drop, *];done) | (simp only[List.length_map,List.length_replicate,List.length_append,List.length_set,List.length_cons,List.length_nil,List.length_take,List.length_drop, *];omega) | (simp[*];done) | (simp;omega) | decide) (hn:Nat.blt d n.sz=true:=by rfl):
  Go c n l W (wpList P ops Q (⟨some d,.binOp .eql xt x y yt,T,pos,after,none⟩::rest)):=yM hx hy ht hE hz hg hlx hly hn hk
theorem Z79{k:IntKind}{x y:Operand}{xs ys:List Nat}{m:Nat}{xt yt E:TypeId}(hk:Go c n ((d,.bool (!decide (xs=ys)))::l) W (wpList P ops Q rest))
  (hx:ev l x=some (LV k xs):=by first | (with_reducible apply evc) | rfl) (hy:ev l y=some (LV k ys):=by first | (with_reducible apply evc) | rfl) (ht:P.underlying xt=some (.array m E):=by rfl) (hE:P.underlying E=some (.int k):=by rfl) (hz:ay P E=some 1:=by rfl) (hg:P.eqGuardType P.depth xt=false:=by rfl) (hlx:xs.length=m:=by first | (with_reducible rfl) | (with_reducible assumption) | (simp only[List.length_map,List.length_replicate,List.length_append,List.length_set,List.length_cons,List.length_nil,List.length_take,List.length_drop, *];done) | (simp only[List.length_map,List.length_replicate,List.length_append,List.length_set,List.length_cons,List.length_nil,List.length_take,List.length_drop, *];omega) | (simp[*];done) | (simp;omega) | decide) (hly:ys.length=m:=by first | (with_reducible rfl) | (with_reducible assumption) | (simp only[List.length_map,List.length_replicate,List.length_append,List.length_set,List.length_cons,List.length_nil,List.length_take,List.length_drop, *];done) | (simp only[List.length_map,List.length_replicate,List.length_append,List.length_set,List.length_cons,List.length_nil,List.length_take,List.length_drop, *];omega) | (simp[*];done) | (simp;omega) | decide) (hn:Nat.blt d n.sz=true:=by rfl):
  Go c n l W (wpList P ops Q (⟨some d,.binOp .neq xt x y yt,T,pos,after,none⟩::rest)):=JE hx hy ht hE hz hg hlx hly hn hk
theorem Z81{x:Operand}{v:Value}{E:TypeId}(hk:∀b,Go c n ((d,pt b 0)::l) (.blk b v E::W) (wpList P ops Q rest))
  (hx:ev l x=some v:=by first | (with_reducible apply evc) | rfl) (hn:Nat.blt d n.sz=true:=by rfl):
  Go c n l W (wpList P ops Q (⟨some d,.box E x,T,pos,after,none⟩::rest)):=SZ hx hn hk
theorem Z82{v:Value}{E:TypeId}(hk:∀b,Go c n ((d,pt b 0)::l) (.blk b v E::W) (wpList P ops Q rest))
  (hz:cH P E=some v:=by rfl) (hn:Nat.blt d n.sz=true:=by rfl):
  Go c n l W (wpList P ops Q (⟨some d,.alloc E,T,pos,after,none⟩::rest)):=ar hz hn hk
theorem Z83{x y:Operand}{k:Nat}{kk:IntKind}{t E:TypeId}{by':Nat}(hk:∀s,Go c n ((d,s)::l) (.sl s ((List.replicate k 0).map (N kk)) E::W) (wpList P ops Q rest))
  (hx:ev l x=some (N .i64 k):=by first | (with_reducible apply evc) | rfl) (hy:ev l y=some (N .i64 k):=by first | (with_reducible apply evc) | rfl) (ht:P.underlying t=some (.slice E):=by rfl) (hz:cH P E=some (N kk 0):=by rfl) (hs:ay P E=some 1:=by rfl) (hb:lI P E=some by':=by rfl) (hk0:k*by'≤140737488355328:=by first | omega | (simp;done) | (simp;omega) | (simp only[List.length_map,List.length_replicate,List.length_append,List.length_set,List.length_cons,List.length_nil,List.length_take,List.length_drop];omega)) (hk63:k<9223372036854775808:=by first | omega | (simp;done) | (simp;omega) | (simp only[List.length_map,List.length_replicate,List.length_append,List.length_set,List.length_cons,List.length_nil,List.length_take,List.length_drop];omega)) (hn:Nat.blt d n.sz=true:=by rfl):
  Go c n l W (wpList P ops Q (⟨some d,.makeSlice t x y,T,pos,after,none⟩::rest)):=yR hx hy ht hz hs hb hk0 hk63 hn hk
theorem Z84{x y:Operand}{s y0:Value}{kk:IntKind}{xs ys:List Nat}{t E:TypeId}{by':Nat}{R:List Res}(hk:∀s',Go c n ((d,s')::l) (.sl s' ((xs++ys).map (N kk)) E::R) (wpList P ops Q rest))
  (hx:ev l x=some s:=by first | (with_reducible apply evc) | rfl) (hy:ev l y=some y0:=by first | (with_reducible apply evc) | rfl) (hf:Find W (.sl s (xs.map (N kk)) E) R:=by repeat (first|apply Find.here|apply Find.there)) (hr:RdW c W y0 (ys.map (N kk)):=by first | (apply RdW.old;with_reducible assumption) | (apply RdW.old;apply RdC.shift <;> with_reducible assumption) | (apply RdW.own;(repeat (first|apply Find.here|apply Find.there));done) | (with_reducible assumption) | (apply RdW.nil) | exact RdW.arrN (by repeat (first|apply Find.here|apply Find.there)) (by omega) (by omega) (by first | (with_reducible rfl) | (with_reducible assumption) | (simp[*];done) | (simp;omega)) | exact RdW.subN (by first | (apply RdW.old;with_reducible assumption) | (apply RdW.own;(repeat (first|apply Find.here|apply Find.there));done)) (by omega) (by first | omega | (simp[*];done) | (simp;omega))) (ht:P.underlying t=some (.slice E):=by rfl) (hz:cH P E=some (N kk 0):=by rfl) (hs:ay P E=some 1:=by rfl) (hb:lI P E=some by':=by rfl) (hbd:(xs.length+ys.length)*by'≤140737488355328:=by first | omega | (simp;done) | (simp;omega) | (simp only[List.length_map,List.length_replicate,List.length_append,List.length_set,List.length_cons,List.length_nil,List.length_take,List.length_drop];omega)) (h63:xs.length+ys.length<9223372036854775808:=by first | omega | (simp;done) | (simp;omega) | (simp only[List.length_map,List.length_replicate,List.length_append,List.length_set,List.length_cons,List.length_nil,List.length_take,List.length_drop];omega)) (hn:Nat.blt d n.sz=true:=by rfl):
  Go c n l W (wpList P ops Q (⟨some d,.call { callee:=.builtin .append,args:=#[x,y],argTypes:=#[t,t] },T,pos,after,none⟩::rest)):=hJ hx hy hf hr ht hz hs hb hbd h63 hn hk
theorem Z85{t E:TypeId}{k:Nat}{ps:List (Nat×Operand)}{kk:IntKind}{vs:List Nat}(hk:∀s,Go c n ((d,s)::l) (.sl s (vs.map (N kk)) E::W) (wpList P ops Q rest))
  (ht:P.underlying t=some (.slice E):=by rfl) (hz:cH P E=some (N kk 0):=by rfl) (hs:ay P E=some 1:=by rfl) (hq:Seq 0 ps=true:=by rfl) (hl:ps.length=k:=by rfl) (hv:evs l (ps.map (·.2))=some (vs.map (N kk)):=by first | (apply GW) | (apply GX;first | (with_reducible apply evc) | rfl) | rfl) (hk24:Nat.ble k 16777216=true:=by rfl) (hn:Nat.blt d n.sz=true:=by rfl):
  Go c n l W (wpList P ops Q (⟨some d,.buildSlice t k ps.toArray,T,pos,after,none⟩::rest)):=bL ht hz hs hq hl hv hk24 hn hk
theorem Zq{c:Cx}{n:Nn}{d:Nat}{v:Value}{P:Program}{L:Sl}{W':List Res}:
  Go c n ((d,v)::L) W' (wpList P #[] (fun e a w=>e = .normal∧SatA n ((some (d,v)).toList++L) a∧SatW c W' w) []):=
 fun _ _ ha hw=>wpList_nil ⟨rfl,ha,hw⟩
theorem Zqq{c:Cx}{n:Nn}{P:Program}{L:Sl}{W':List Res}:
  Go c n L W' (wpList P #[] (fun e a w=>e = .normal∧SatA n ((none:Option (Nat×Value)).toList++L) a∧SatW c W' w) []):=
 fun _ _ ha hw=>wpList_nil ⟨rfl,ha,hw⟩
variable {W':List Res} {ks:List Kd} {o:Oper} {os:List Oper}
theorem Zqf{v:Value}(h:OpV P c n [] [] (bR ops o l) (noG o) (some (d,v)))(hr:QD P c n ops os K W rest ((d,v)::l) (ks++[.free]))
  (hd:o.dst=some d:=by rfl) (hn:Nat.blt d n.sz=true:=by rfl) (hg:bO ops l o=some true:=by rfl):QD P c n ops os K W (o::rest) l ks:=by
 obtain⟨Ws,us,ks',lf,hq,hc,hk⟩:=hr
 exact⟨Ws,_,_,lf,QT.val .free rfl hd hn hg h hq,by simpa using hc,by simp only[stT,Kd.isEff,Bool.false_eq_true,if_false,Nat.zero_add];exact hk⟩
theorem Zqp{v:Value}(h:OpV P c n W W (bR ops o l) (noG o) (some (d,v)))(hr:QD P c n ops os K W rest ((d,v)::l) (ks++[.pin]))
  (hd:o.dst=some d:=by rfl) (hn:Nat.blt d n.sz=true:=by rfl) (hg:bO ops l o=some true:=by rfl):QD P c n ops os K W (o::rest) l ks:=by
 obtain⟨Ws,us,ks',lf,hq,hc,hk⟩:=hr
 exact⟨Ws,_,_,lf,QT.val .pin rfl hd hn hg h hq,by simpa using hc,by simp only[stT,Kd.isEff,Bool.false_eq_true,if_false,Nat.zero_add];exact hk⟩
theorem Zqn(hr:QD P c n ops os K W rest ((d,undef)::l) (ks++[.free]))
  (hd:o.dst=some d:=by rfl) (hn:Nat.blt d n.sz=true:=by rfl) (hg:bO ops l o=some false:=by rfl):QD P c n ops os K W (o::rest) l ks:=by
 obtain⟨Ws,us,ks',lf,hq,hc,hk⟩:=hr
 exact⟨Ws,_,_,lf,QT.no hd hn hg hq,by simpa using hc,by simp only[stT,Kd.isEff,Bool.false_eq_true,if_false,Nat.zero_add];exact hk⟩
theorem Zqe(h:OpV P c n W W' (bR ops o l) (noG o) none)(hr:QD P c n ops os K W' rest l (ks++[.eff]))
  (hd:o.dst=none:=by rfl) (hg:bO ops l o=some true:=by rfl):QD P c n ops os K W (o::rest) l ks:=by
 obtain⟨Ws,us,ks',lf,hq,hc,hk⟩:=hr
 exact⟨W'::Ws,_,_,lf,QT.eff hd hg h hq,by simpa using hc,by simp only[stT,Kd.isEff,if_true,Nat.add_comm 1,List.getD_cons_succ];exact hk⟩
theorem Zqd{v:Value}(h:OpV P c n W W' (bR ops o l) (noG o) (some (d,v)))(hr:QD P c n ops os K W' rest ((d,v)::l) (ks++[.eff]))
  (hd:o.dst=some d:=by rfl) (hn:Nat.blt d n.sz=true:=by rfl) (hg:bO ops l o=some true:=by rfl):QD P c n ops os K W (o::rest) l ks:=by
 obtain⟨Ws,us,ks',lf,hq,hc,hk⟩:=hr
 exact⟨W'::Ws,_,_,lf,QT.effd hd hn hg h hq,by simpa using hc,by simp only[stT,Kd.isEff,if_true,Nat.add_comm 1,List.getD_cons_succ];exact hk⟩
theorem Zq0(hk:Go c n l W K)(hchk:chk os ks=true):QD P c n ops os K W [] l ks:=
 ⟨[],[],[],l,QT.nil,by simpa using hchk,hk⟩
theorem Zec{m b t:Nat}{fn:Func}{R:Ending→World→Prop}{A U:TypeId}{k:IntKind}{ys:List Nat}{R0:List Res}
  (hR:∀w,SatW c W w→R (.returned (LV k ys)) w)
  (hres:fn.results = #[.cell t A]:=by rfl) (hv:lk l t=some (pt b 0):=by rfl) (hf:Find W (.blk b (LV k ys) U) R0:=by repeat (first|apply Find.here|apply Find.there)) (hs:cD P A=true:=by rfl) (hz:ay P A=some m:=by rfl) (hl:ys.length=m:=by first | (with_reducible rfl) | (with_reducible assumption) | (simp only[List.length_map,List.length_replicate,List.length_append,List.length_set,List.length_cons,List.length_nil,List.length_take,List.length_drop, *];done) | (simp only[List.length_map,List.length_replicate,List.length_append,List.length_set,List.length_cons,List.length_nil,List.length_take,List.length_drop, *];omega) | (simp[*];done) | (simp;omega) | decide) (hD:n.df=[]:=by rfl):
  Go c n l W (bodyPost P fn R .ret):=Be hres hv hf hs hz hl hR hD
theorem Ze1{t:Nat}{fn:Func}{R:Ending→World→Prop}{v:Value}(hR:∀w,SatW c W w→R (.returned v) w)
  (hres:fn.results = #[.tmp t]:=by rfl) (hv:lk l t=some v:=by rfl) (hD:n.df=[]:=by rfl):Go c n l W (bodyPost P fn R .ret):=Nf hres hv hR hD
theorem Ze2{t u:Nat}{fn:Func}{R:Ending→World→Prop}{v v':Value}(hR:∀w,SatW c W w→R (.returned (.tuple #[v,v'])) w)
  (hres:fn.results = #[.tmp t,.tmp u]:=by rfl) (hv:lk l t=some v:=by rfl) (hv':lk l u=some v':=by rfl) (hD:n.df=[]:=by rfl):Go c n l W (bodyPost P fn R .ret):=Ng hres hv hv' hR hD
end
section
variable {P:Program} {c:Cx} {n:Nn} {l:Sl} {W:List Res} {ops:Array Oper} {Q:Exit→Act→World→Prop} {rest:List Oper}
variable {d:Nat} {T:TypeId} {pos:String} {after:Array Edge}
theorem tV{x:Operand}{t E:TypeId}{ts:List TypeId}(hx:ev l x=some (.slice none 0 0))(ht:P.underlying t=some (.slice E))(hn:Nat.blt d n.sz=true)
  (hk:Go c n ((d,N .i64 0)::l) W (wpList P ops Q rest)):
  Go c n l W (wpList P ops Q (⟨some d,.call { callee:=.builtin .cap,args:=#[x],argTypes:=(t::ts).toArray },T,pos,after,none⟩::rest)):=
 aw rfl rfl hn (fun a w ha _=>by
  simp[execOp,ha.ev hx,resolve,invoke,builtin,Builtin.cap_,run_underlying ht,goInt]) hk
theorem vZ{x y:Operand}{k:Nat}{t E I:TypeId}{by':Nat}{z:Value}(hx:ev l x=some (.slice none 0 0))(hy:ev l y=some (N .i64 k))
  (ht:P.underlying t=some (.slice E)) (hI:P.underlying I=some (.int .i64)) (hz:cH P E=some z) (hs:ay P E=some 1) (hb:lI P E=some by') (h1:z.oneCell'=true)
  (hk0:0<k) (hbd:k*by'≤140737488355328) (h63:k<9223372036854775808) (hn:Nat.blt d n.sz=true)
  (hk:∀s,Go c n ((d,s)::l) (.sl s (List.replicate k z) E::W) (wpList P ops Q rest)):
  Go c n l W (wpList P ops Q (⟨some d,.call { callee:=.builtin .append,args:=#[x,y],argTypes:=#[t,I] },T,pos,after,none⟩::rest)):=
 fi rfl rfl hn (Φ:=fun u V=>V = .sl u (List.replicate k z) E::W)
  (fun a w ha hw=>by
   obtain⟨i,hi,hz',hs',hb'⟩:=mN hz hs hb
   have hti:∀w,(typeInfo E).run P w = .ok i w:=fun w=>by simp[typeInfo,hi]
   have hz0:∀w,(zeroValue E).run P w = .ok z w:=cn hz
   have hty:∀w,(underlying t).run P w = .ok (.slice E) w:=run_underlying ht
   have htI:∀w,(underlying I).run P w = .ok (.int .i64) w:=run_underlying hI
   have hw1:IntKind.i64.wrap (Int.ofNat k)=Int.ofNat k:=f7 (by constructor <;> simp only[Int.ofNat_eq_natCast] <;> omega)
   have hl0:¬((k:Int)<0):=by omega
   have hl1:¬(281474976710656<(k:Int)*(i.bytes:Int)):=by
    rw[hb']
    have:((k*by':Nat):Int)≤140737488355328:=by omega
    rw[Int.natCast_mul]at this;omega
   have h63i:¬(9223372036854775807<(k:Int)):=by omega
   have hfit:=growslice_fits (need:=k) (old:=0) (bytes:=by') (by omega) hbd
   have h48:¬(281474976710656<Builtin.nextslicecap k 0*i.bytes):=by rw[hb'];omega
   have hcut:k≤grownCap w k 0 E:=by simp only[grownCap,Question.cut];omega
   have hzc:∀q,Builtin.zeroCells z.cells q=(List.replicate q z).toArray:=by
    intro q
    apply Array.ext
    ·simp[Builtin.zeroCells,gh h1]
    ·intro j h1' h2'
     simp[Builtin.zeroCells,gh h1,Nat.mod_one]
   have hk00:¬k=0:=by omega
   have hk01:¬k≤0:=by omega
   have hres:(Builtin.append_ #[t,I] T #[Value.slice none 0 0,N .i64 k]).run P w =
     .ok (.slice (some ⟨w.heap.size,0,none⟩) k (grownCap w k 0 E))
      (w.drew.alloc (.cells (List.replicate k z++List.replicate (grownCap w k 0 E-k) z).toArray E)):=by
    have hw1':IntKind.i64.wrap (k:Int)=(k:Int):=hw1
    simp[Builtin.append_,hty,htI,aq hs,asInt,asIntOf,N,hw1',hl0,hl1,hk00,h63i,h48,hti,Question.forced,hz0,newRow,grownCap,Builtin.firstCells,hzc,-List.replicate_append_replicate]
    simp[List.replicate_append_replicate]
   refine⟨_,_,_,?_,(hw.drawn (w.drawn+1)).alloc (o:=.cells (List.replicate k z++List.replicate (grownCap w k 0 E-k) z).toArray E)
    (r:=.sl (.slice (some ⟨w.heap.size,0,none⟩) k (grownCap w k 0 E)) (List.replicate k z) E) rfl ?_,rfl⟩
   ·simp only[execOp,ha.ev hx,ha.ev hy,resolve,invoke,builtin,Sem.run_bind,Sem.run_pure,Result.andThen_ok,List.map_toArray,List.map_cons,List.map_nil]
    rw[hres];rfl
   ·exact .inr ⟨w.heap.size,0,grownCap w k 0 E,[],List.replicate (grownCap w k 0 E-k) z,(0,0),by simp,by simpa using hcut,by simp;omega,rfl,by simp,by simp⟩)
  (fun u V hV=>by subst hV;exact hk u)
theorem oE{φ:Act→World→Prop}{b m:Nat}{k:IntKind}{ys:List Nat}{U:TypeId}{R:List Res}(hf:Find W (.blk b (LV k ys) U) R)(hm:ys.length=m)
  (hk:Go c n l (.sl (fj b m 0 m) (ys.map (N k)) U::R) φ):Go c n l W φ:=
 nD (fun w hw=>by
  have hw:=hw.perm hf.perm
  refine hw.upd (r':=.sl (fj b m 0 m) (ys.map (N k)) U) rfl (Ext.refl _ _) ?_
  have hh:w.heap[b]?=some (.cells (ys.map (N k)).toArray U (0,0)):=hw.holds _ (List.mem_cons_self ..)
  exact .inr ⟨b,0,m,[],[],(0,0),by simp[fj,hm],by simp[hm],by simp[hm],rfl,by simpa using hh,by simp⟩) hk
theorem RdW.arrAll{b m:Nat}{k:IntKind}{ys:List Nat}{U:TypeId}{R:List Res}(h:Find W (.blk b (LV k ys) U) R)(hm:ys.length=m):RdW c W (fj b m 0 m) (ys.map (N k)):=by
 have:=RdW.arrN (c:=c) (lo:=0) (hi:=m) h (Nat.zero_le _) (Nat.le_refl _) hm
 rwa [List.drop_zero,List.take_of_length_le (by omega)]at this
theorem gG{φ:Act→World→Prop}{p:Prop}(h:∀w,SatW c W w→p)(hk:p→Go c n l W φ):Go c n l W φ:=fun a w ha hw=>hk (h w hw) a w ha hw
theorem Rd.one{w:World}{s:Value}{xs:List Value}(h:Rd w s xs):s.oneCell'=true:=by
 obtain⟨a,cap,rfl,_⟩:=h.shape;rfl
theorem RdC.toWin{s:Value}{xs:List Value}{Win R:List Res}{w0:World}(h:RdC c s xs)(h0:SatW c W w0)(hS:Split W Win R):RdC ⟨w0,fps Win⟩ s xs:=by
 have h1:=RdC.shift h h0
 refine⟨h1.rd,fun i hi hm=>h1.out i hi ?_⟩
 have hp:(fps W).Perm (fps (Win++R)):=hS.perm.flatMap_right _
 refine hp.mem_iff.2 ?_
 simp only[fps,List.flatMap_append,List.mem_append]
 exact .inl hm
def D0(P:Program)(f:FuncId)(vs:List Value)(v:Value):Prop:=∀w,(callFunc f vs.toArray).run P w = .ok (.value v) w
theorem hO{f:FuncId}{x:Operand}{ars:List Operand}{vs:List Value}{ats:Array TypeId}{first captured all:List Value}{v:Value}
  (hx:ev l x=some (.func (.func f) first.toArray captured.toArray)) (ha:evs l ars=some vs) (hall:first++vs++captured=all)
  (hext:D0 P f all v) (hn:Nat.blt d n.sz=true) (hk:Go c n ((d,v)::l) W (wpList P ops Q rest)):
  Go c n l W (wpList P ops Q (⟨some d,.call { callee:=.value x,args:=ars.toArray,argTypes:=ats },T,pos,after,none⟩::rest)):=
 aw rfl rfl hn (fun a w hA _=>by
  subst hall
  have:=hext w
  simp only[execOp,resolve,hA.ev hx,Deferred.ofValue,List.map_toArray,hA.evs ha,Sem.run_bind,Sem.run_pure,Result.andThen_ok,invoke,List.append_toArray,this]) hk
end
def oO:Array Value→Sem Value:=fun args=>do
 let (x,y,c) ← Extern.MathBitsCarry.three "Add64" args
 pure (Extern.MathBitsCarry.pair ((x+y+c)%Extern.MathBitsCarry.m64) ((x+y+c)/Extern.MathBitsCarry.m64))
def pc:Array Value→Sem Value:=fun args=>do
 let (x,y,b) ← Extern.MathBitsCarry.three "Sub64" args
 pure (Extern.MathBitsCarry.pair ((x+Extern.MathBitsCarry.m64-y-b)%Extern.MathBitsCarry.m64) (if x<y+b then 1 else 0))
theorem A3{P:Program}(x y b:Nat)(hb:b≤1)(w:World):
  (oO #[.int .u64 x,.int .u64 y,.int .u64 b]).run P w =
   .ok (.tuple #[.int .u64 (((x+y+b)%18446744073709551616:Nat):Int),.int .u64 (((x+y+b)/18446744073709551616:Nat):Int)]) w:=by
 have:b=0∨b=1:=by omega
 rcases this with rfl | rfl <;> rfl
theorem A4{P:Program}(x y b:Nat)(hb:b≤1)(w:World):
  (pc #[.int .u64 x,.int .u64 y,.int .u64 b]).run P w =
   .ok (.tuple #[.int .u64 (((x+18446744073709551616-y-b)%18446744073709551616:Nat):Int),.int .u64 ((if x<y+b then 1 else 0:Nat):Int)]) w:=by
 have:b=0∨b=1:=by omega
 rcases this with rfl | rfl <;> rfl
theorem Eb{P:Program}{f:FuncId}{fn:Func}(hf:P.funcs[f]?=some fn)(hname:(fn.name == "runtime.NumGoroutine")=false)
  (hb:fn.body.isNone=true) (hn:Extern.findNext fn=none) (he:Extern.find fn=some oO) (x y c:Nat) (hc:c≤1):
  D0 P f [N .u64 x,N .u64 y,N .u64 c] (.tuple [N .u64 ((x+y+c)%18446744073709551616),N .u64 ((x+y+c)/18446744073709551616)].toArray):=fun w=>by
 have:=A3 (P:=P) x y c hc w
 rw[run_callFunc_extern hf hname hb hn he]
 simp only[Int.ofNat_eq_natCast,N]
 rw[this];rfl
theorem Ec{P:Program}{f:FuncId}{fn:Func}(hf:P.funcs[f]?=some fn)(hname:(fn.name == "runtime.NumGoroutine")=false)
  (hb:fn.body.isNone=true) (hn:Extern.findNext fn=none) (he:Extern.find fn=some pc) (x y c:Nat) (hc:c≤1):
  D0 P f [N .u64 x,N .u64 y,N .u64 c] (.tuple [N .u64 ((x+18446744073709551616-y-c)%18446744073709551616),N .u64 (if x<y+c then 1 else 0)].toArray):=fun w=>by
 have:=A4 (P:=P) x y c hc w
 rw[run_callFunc_extern hf hname hb hn he]
 simp only[Int.ofNat_eq_natCast,N]
 rw[this];rfl
end Go.Proofs.YtndhfbecpghinaaGreat.L
namespace Go.Proofs.YtndhfbecpghinaaGreat.Num
def val(B:Nat):List Nat→Nat
 | []=>0
 | x::r=>x+B*val B r
def dig(B:Nat):Nat→Nat→List Nat
 | 0,_=>[]
 | n+1,v=>v%B::dig B n (v/B)
def Lt(m:Nat)(xs:List Nat):Prop:=∀x∈xs,x<m
section
variable {B:Nat}
theorem uQ(n v:Nat):(dig B n v).length=n:=by
 induction n generalizing v with
 | zero=>rfl
 | succ n ih=>simp[dig,ih]
theorem QY(hB:0<B)(n v:Nat):Lt B (dig B n v):=by
 induction n generalizing v with
 | zero=>intro x hx;simp[dig]at hx
 | succ n ih=>
  intro x hx
  simp only[dig,List.mem_cons]at hx
  rcases hx with rfl | hx
  ·exact Nat.mod_lt _ hB
  ·exact ih _ x hx
theorem mW(v n:Nat):v%B^(n+1)=v%B+B*(v/B%B^n):=by
 rw[Nat.pow_succ,Nat.mul_comm,Nat.mod_mul]
theorem lq(v n:Nat):v%B^(n+1)=v%B^n+B^n*(v/B^n%B):=by
 rw[Nat.pow_succ,Nat.mod_mul]
theorem Dn(n v:Nat):val B (dig B n v)=v%B^n:=by
 induction n generalizing v with
 | zero=>simp[dig,val,Nat.mod_one]
 | succ n ih=>simp only[dig,val,ih,mW]
theorem de(x:Nat)(r:List Nat):val B (x::r)=x+B*val B r:=rfl
theorem Lt.cons{m x:Nat}{r:List Nat}(h:x<m)(hr:Lt m r):Lt m (x::r):=by
 intro y hy
 rcases List.mem_cons.1 hy with rfl | hy
 ·exact h
 ·exact hr y hy
theorem Lt.tail{m x:Nat}{r:List Nat}(h:Lt m (x::r)):Lt m r:=fun y hy=>h y (List.mem_cons_of_mem _ hy)
theorem Lt.head{m x:Nat}{r:List Nat}(h:Lt m (x::r)):x<m:=h x (List.mem_cons_self ..)
theorem Lt.append{m:Nat}{xs ys:List Nat}(h:Lt m xs)(k:Lt m ys):Lt m (xs++ys):=fun x hx=>by
 rcases List.mem_append.1 hx with hx | hx
 ·exact h x hx
 ·exact k x hx
theorem Lt.take{m:Nat}{xs:List Nat}(h:Lt m xs)(i:Nat):Lt m (xs.take i):=fun x hx=>h x (List.mem_of_mem_take hx)
theorem Lt.getD{m:Nat}{xs:List Nat}(h:Lt m xs)(hm:0<m)(i:Nat):xs.getD i 0<m:=by
 rw[List.getD_eq_getElem?_getD]
 cases hi:xs[i]? with
 | none=>exact hm
 | some v=>exact h v (List.mem_of_getElem? hi)
theorem ap(_:0<B){xs:List Nat}(h:Lt B xs):val B xs<B^xs.length:=by
 induction xs with
 | nil=>simp[val]
 | cons x r ih=>
  have h1:=ih h.tail
  have h2:=h.head
  have h3:B*(val B r+1)≤B*B^r.length:=Nat.mul_le_mul_left _ h1
  simp only[de,List.length_cons,Nat.pow_succ]
  rw[Nat.mul_comm (B^r.length)]
  rw[Nat.mul_add]at h3
  omega
theorem uR{xs:List Nat}(h:Lt B xs):dig B xs.length (val B xs)=xs:=by
 induction xs with
 | nil=>rfl
 | cons x r ih=>
  have h2:=h.head
  have hB:0<B:=by omega
  have e1:(x+B*val B r)%B=x:=by rw[Nat.add_mul_mod_self_left,Nat.mod_eq_of_lt h2]
  have e2:(x+B*val B r)/B=val B r:=by rw[Nat.add_mul_div_left _ _ hB,Nat.div_eq_of_lt h2];omega
  simp only[de,List.length_cons,dig,e1,e2,ih h.tail]
theorem Lu(n m v:Nat)(h:n≤m):dig B n (v%B^m)=dig B n v:=by
 induction n generalizing v m with
 | zero=>rfl
 | succ n ih=>
  obtain⟨k,rfl⟩:∃k,m=k+1:=⟨m-1,by omega⟩
  simp only[dig]
  have e1:v%B^(k+1)%B=v%B:=by rw[Nat.pow_succ];exact Nat.mod_mul_left_mod _ _ _
  have e2:v%B^(k+1)/B=v/B%B^k:=by
   rw[Nat.pow_succ,Nat.mul_comm,Nat.mod_mul_right_div_self]
  rw[e1,e2,ih _ _ (by omega)]
theorem Bp(xs ys:List Nat):val B (xs++ys)=val B xs+B^xs.length*val B ys:=by
 induction xs with
 | nil=>simp[val]
 | cons x r ih=>simp only[List.cons_append,de,ih,List.length_cons,Nat.pow_succ,Nat.mul_add,Nat.add_assoc];congr 2;rw[Nat.mul_comm (B^r.length) B,Nat.mul_assoc]
theorem J3(n:Nat):val B (List.replicate n 0)=0:=by
 induction n with
 | zero=>rfl
 | succ n ih=>simp[List.replicate_succ,val,ih]
theorem BR(n m v:Nat):dig B (n+m) v=dig B n v++dig B m (v/B^n):=by
 induction n generalizing v with
 | zero=>simp[dig]
 | succ n ih=>rw[Nat.add_right_comm];simp only[dig,ih,List.cons_append,Nat.pow_succ];rw[Nat.div_div_eq_div_mul,Nat.mul_comm B]
theorem Gu(n v:Nat):dig B (n+1) v=dig B n v++[v/B^n%B]:=by rw[BR];simp[dig]
theorem Gv(n:Nat):dig B n 0=List.replicate n 0:=by
 induction n with
 | zero=>rfl
 | succ n ih=>simp[dig,ih,List.replicate_succ]
theorem xv{xs:List Nat}(h:Lt B xs)(i:Nat):xs.getD i 0=val B xs/B^i%B:=by
 induction xs generalizing i with
 | nil=>simp[val]
 | cons x r ih=>
  have h2:=h.head
  have hB:0<B:=by omega
  have e2:(x+B*val B r)/B=val B r:=by rw[Nat.add_mul_div_left _ _ hB,Nat.div_eq_of_lt h2];omega
  cases i with
  | zero=>simp only[List.getD_cons_zero,de,Nat.pow_zero,Nat.div_one,Nat.add_mul_mod_self_left,Nat.mod_eq_of_lt h2]
  | succ i=>rw[List.getD_cons_succ,ih h.tail,de,Nat.pow_succ,Nat.mul_comm (B^i),← Nat.div_div_eq_div_mul,e2]
theorem xr(n v i:Nat)(h:i<n):(dig B n v).getD i 0=v/B^i%B:=by
 induction n generalizing v i with
 | zero=>omega
 | succ n ih=>
  cases i with
  | zero=>simp[dig]
  | succ i=>rw[dig,List.getD_cons_succ,ih _ _ (by omega),Nat.pow_succ,Nat.mul_comm (B^i),Nat.div_div_eq_div_mul]
theorem xu{xs:List Nat}{i:Nat}(h:xs.length≤i):xs.getD i 0=0:=by
 rw[List.getD_eq_getElem?_getD,List.getElem?_eq_none h];rfl
theorem J4{xs:List Nat}(h:Lt B xs)(i:Nat):val B (xs.take i)=val B xs%B^i:=by
 induction xs generalizing i with
 | nil=>simp[val]
 | cons x r ih=>
  have h2:=h.head
  have hB:0<B:=by omega
  have e2:(x+B*val B r)/B=val B r:=by rw[Nat.add_mul_div_left _ _ hB,Nat.div_eq_of_lt h2];omega
  cases i with
  | zero=>simp[val,Nat.mod_one]
  | succ i=>
   rw[List.take_succ_cons,de,ih h.tail,de,mW,e2,Nat.add_mul_mod_self_left,Nat.mod_eq_of_lt h2]
theorem J2{xs:List Nat}(h:Lt B xs)(i:Nat):val B (xs.drop i)=val B xs/B^i:=by
 induction xs generalizing i with
 | nil=>simp[val]
 | cons x r ih=>
  have h2:=h.head
  have hB:0<B:=by omega
  have e2:(x+B*val B r)/B=val B r:=by rw[Nat.add_mul_div_left _ _ hB,Nat.div_eq_of_lt h2];omega
  cases i with
  | zero=>simp
  | succ i=>rw[List.drop_succ_cons,ih h.tail,de,Nat.pow_succ,Nat.mul_comm (B^i),← Nat.div_div_eq_div_mul,e2]
theorem NG{xs ys:List Nat}(h:Lt B xs)(k:Lt B ys)(hl:xs.length=ys.length)(hv:val B xs=val B ys):xs=ys:=by
 rw[← uR h,← uR k,hl,hv]
theorem NJ{xs:List Nat}(h:Lt B xs)(i y:Nat)(hi:i<xs.length):val B (xs.set i y)+B^i*xs.getD i 0=val B xs+B^i*y:=by
 induction xs generalizing i with
 | nil=>simp at hi
 | cons x r ih=>
  cases i with
  | zero=>simp[val];omega
  | succ i=>
   have:=ih h.tail i (by simpa using hi)
   simp only[List.set_cons_succ,de,List.getD_cons_succ,Nat.pow_succ]
   have e:∀z,B^i*B*z=B*(B^i*z):=fun z=>by rw[Nat.mul_comm (B^i),Nat.mul_assoc]
   have h3:B*(val B (r.set i y)+B^i*r.getD i 0)=B*(val B r+B^i*y):=by rw[this]
   rw[Nat.mul_add,Nat.mul_add]at h3
   rw[e,e];omega
theorem Lt.set{m:Nat}{xs:List Nat}(h:Lt m xs){y:Nat}(hy:y<m)(i:Nat):Lt m (xs.set i y):=fun x hx=>by
 rcases List.mem_or_eq_of_mem_set hx with hx | rfl
 ·exact h x hx
 ·exact hy
end
def W:Nat:=18446744073709551616
theorem mv:0<W:=by decide
@[irreducible] def V(xs:List Nat):Nat:=val W xs
@[irreducible] def D(n v:Nat):List Nat:=dig W n v
theorem fu(xs:List Nat):V xs=val W xs:=by unfold V;rfl
theorem jI(n v:Nat):D n v=dig W n v:=by unfold D;rfl
theorem ae(n v:Nat):(D n v).length=n:=by rw[jI];exact uQ _ _
theorem dv(n v:Nat):Lt 18446744073709551616 (D n v):=by rw[jI];exact QY mv _ _
theorem V_D(n v:Nat):V (D n v)=v%W^n:=by rw[fu,jI];exact Dn _ _
theorem eU{n v:Nat}(h:v<W^n):V (D n v)=v:=by rw[V_D,Nat.mod_eq_of_lt h]
theorem D_V{xs:List Nat}(h:Lt 18446744073709551616 xs):D xs.length (V xs)=xs:=by rw[fu,jI];exact uR h
theorem uD{xs:List Nat}(h:Lt 18446744073709551616 xs):V xs<W^xs.length:=by rw[fu];exact ap mv h
theorem T5:V []=0:=by rw[fu];rfl
theorem F8(x:Nat):V [x]=x:=by rw[fu];simp[val]
theorem mj(n v:Nat):D n (v%W^n)=D n v:=by rw[jI,jI];exact Lu _ _ _ (Nat.le_refl _)
theorem BC{n v v':Nat}(h:D n v=D n v'):v%W^n=v'%W^n:=by rw[← V_D,h,V_D]
theorem uB(n v:Nat):D (n+1) v=D n v++[v/W^n%W]:=by rw[jI,jI];exact Gu _ _
theorem D_0(v:Nat):D 0 v=[]:=by rw[jI];rfl
theorem nS(n:Nat):D n 0=List.replicate n 0:=by rw[jI];exact Gv n
theorem TP(n m v:Nat):D (n+m) v=D n v++D m (v/W^n):=by simp only[jI];exact BR _ _ _
theorem mr(xs ys:List Nat):V (xs++ys)=V xs+W^xs.length*V ys:=by simp only[fu];exact Bp _ _
theorem cR{xs:List Nat}(h:Lt 18446744073709551616 xs)(i:Nat):xs.getD i 0=V xs/W^i%W:=by rw[fu];exact xv h i
theorem zQ(n v i:Nat)(h:i<n):(D n v).getD i 0=v/W^i%W:=by rw[jI];exact xr n v i h
theorem F9{xs:List Nat}(h:Lt 18446744073709551616 xs)(i:Nat):V (xs.take i)=V xs%W^i:=by simp only[fu];exact J4 h i
theorem Qo{xs:List Nat}(h:Lt 18446744073709551616 xs)(i:Nat):V (xs.drop i)=V xs/W^i:=by simp only[fu];exact J2 h i
theorem Qp(n:Nat):V (List.replicate n 0)=0:=by rw[fu];exact J3 n
theorem N0{xs:List Nat}(h:Lt 18446744073709551616 xs)(i y:Nat)(hi:i<xs.length):V (xs.set i y)+W^i*xs.getD i 0=V xs+W^i*y:=by simp only[fu];exact NJ h i y hi
theorem T4{xs ys:List Nat}(h:Lt 18446744073709551616 xs)(k:Lt 18446744073709551616 ys)(hl:xs.length=ys.length)(hv:V xs=V ys):xs=ys:=by
 simp only[fu]at hv;exact NG h k hl hv
theorem cZ(v n:Nat):v%W^(n+1)=v%W^n+W^n*(v/W^n%W):=lq v n
theorem bP(n:Nat):0<W^n:=Nat.pow_pos mv
theorem Lf{m n:Nat}(h:m≤n):W^m≤W^n:=Nat.pow_le_pow_right mv h
end Go.Proofs.YtndhfbecpghinaaGreat.Num
