/- What the proof of the statement about TopTogether stands on, part C. Conditions: as each statement says. -/
import Derived.Test.YtndhfbecpghinaaGreatTopTogetherB
import Derived.Laws.StructEq
import Derived.Tactics
import Derived.Test.YtndhfbecpghinaaGreatProg
namespace Go.Proofs.YtndhfbecpghinaaGreat.L.R
open Go Go.Proofs
section
variable {P:Program} {c:Cx} {n:Nn} {os:List Oper} {K:Act→World→Prop} {E:En} {W:List Res} {l:Sl} {i d:Nat} {o:Oper} {rest:List Nat}
theorem TK{xs xs':List Value}{T T':TypeId}(n1 n2:List Nat){j d':Nat}{o':Oper}(ho:os[i]?=some o)(ho':os[j]?=some o')(h:OpC P c n W (fun v=>[.sl v xs T]) d (bR os.toArray o l) (noG o))(h':OpC P c n W (fun v=>[.sl v xs' T']) d' (bR os.toArray o' l) (noG o'))
  (hr:∀v,QF P c n os K (E++[(i,.alc)]) (.sl v xs T::W) ((d,v)::l) n1) (hr':∀v,QF P c n os K (E++[(j,.alc)]) (.sl v xs' T'::W) ((d',v)::l) n2)
  (hij:Nat.beq i j=false:=by rfl) (hi:ip i E=true:=by rfl) (hi':ip j E=true:=by rfl) (hd:o.dst=some d:=by rfl) (hd':o'.dst=some d':=by rfl) (hn:Nat.blt d n.sz=true:=by rfl) (hn':Nat.blt d' n.sz=true:=by rfl)
  (hg:bO os.toArray l o=some true:=by rfl) (hg':bO os.toArray l o'=some true:=by rfl)
  (hc:io os (E++[(i,.alc)])=true:=by rfl) (hc':io os (E++[(j,.alc)])=true:=by rfl) (hdesc:fX os [i,j] rest E=true:=by rfl):QF P c n os K E W l (i::j::rest):=by
 have hne:¬j=i:=fun h=>by subst h;rw[Nat.beq_refl]at hij;cases hij
 refine QF.nd (is:=[i,j]) (nx:=fun k=>if k=i then n1 else n2) (o:=fun k=>if k=i then o else o') (Φ:=fun k u W'=>if k=i then ∃v,u=some (d,v)∧W' = .sl v xs T::W else ∃v,u=some (d',v)∧W' = .sl v xs' T'::W)
  (kd:=fun _=>.alc) (by simp) (two hi hi') (two ?_ ?_) (two hc hc') hdesc (two ?_ ?_) (two ?_ ?_) (two ?_ ?_) (two ?_ ?_)
 ·simp only[if_true];exact ho
 ·simp only[if_neg hne];exact ho'
 ·simp only[if_true]
  intro u W' ⟨b,hu,hW⟩;subst hu;exact⟨hd,fun q hq=>by rw[hd]at hq;cases hq;exact hn,.inr ⟨by trivial,[_],hW⟩⟩
 ·simp only[if_neg hne]
  intro u W' ⟨b,hu,hW⟩;subst hu;exact⟨hd',fun q hq=>by rw[hd']at hq;cases hq;exact hn',.inr ⟨by trivial,[_],hW⟩⟩
 ·simp only[if_true];exact hg
 ·simp only[if_neg hne];exact hg'
 ·simp only[if_true]
  exact fun w0 m hw a w ha hw'=>bE (h w0 m hw a w ha hw') rfl (fun _ _ _ h=>h.1) fun a w ⟨h1,b,h2,h3⟩=>⟨h1,some (d,b),_,⟨b,rfl,rfl⟩,h2,h3⟩
 ·simp only[if_neg hne]
  exact fun w0 m hw a w ha hw'=>bE (h' w0 m hw a w ha hw') rfl (fun _ _ _ h=>h.1) fun a w ⟨h1,b,h2,h3⟩=>⟨h1,some (d',b),_,⟨b,rfl,rfl⟩,h2,h3⟩
 ·simp only[if_true]
  intro u W' ⟨b,hu,hW⟩;subst hu;subst hW
  exact hr b
 ·simp only[if_neg hne]
  intro u W' ⟨b,hu,hW⟩;subst hu;subst hW
  exact hr' b
end
end Go.Proofs.YtndhfbecpghinaaGreat.L.R
namespace Go.Proofs.YtndhfbecpghinaaGreat.L
open Go Go.Proofs
set_option maxRecDepth 100000
def ab{α:Type}(ys:List α)(off m:Nat)(zs:List α):Prop:=∃pre post,ys=pre++zs++post∧pre.length=off∧zs.length=m
theorem ab.l{α:Type}{xs ys:List α}{m:Nat}(h:xs.length=m):ab (xs++ys) 0 m xs:=⟨[],ys,rfl,rfl,h⟩
theorem ab.r{α:Type}{xs ys:List α}{off m:Nat}(h:xs.length=off)(h2:ys.length=m):ab (xs++ys) off m ys:=⟨xs,[],by simp,h,h2⟩
theorem ab.all{α:Type}{xs:List α}{m:Nat}(h:xs.length=m):ab xs 0 m xs:=⟨[],[],by simp,rfl,h⟩
theorem ab.inl{α:Type}{xs ys zs:List α}{off m:Nat}(h:ab xs off m zs):ab (xs++ys) off m zs:=by
 obtain⟨p,q,rfl,h1,h2⟩:=h
 exact⟨p,q++ys,by simp,h1,h2⟩
theorem ab.inr{α:Type}{xs ys zs:List α}{off m:Nat}(h:ab ys off m zs):ab (xs++ys) (xs.length+off) m zs:=by
 obtain⟨p,q,rfl,h1,h2⟩:=h
 exact⟨xs++p,q,by simp,by simp[h1],h2⟩
theorem ab.map{α β:Type}{ys zs:List α}{off m:Nat}(f:α→β)(h:ab ys off m zs):ab (ys.map f) off m (zs.map f):=by
 obtain⟨p,q,rfl,h1,h2⟩:=h
 exact⟨p.map f,q.map f,by simp,by simp[h1],by simp[h2]⟩
theorem ab.get{α:Type}{ys zs:List α}{off m:Nat}(h:ab ys off m zs):∀j v,zs[j]?=some v→ys[off+j]?=some v:=by
 obtain⟨p,q,rfl,rfl,rfl⟩:=h
 intro j v hj
 rw[List.append_assoc,List.getElem?_append_right (by omega),Nat.add_sub_cancel_left]
 have hl:j<zs.length:=(List.getElem?_eq_some_iff.1 hj).1
 rw[List.getElem?_append_left hl];exact hj
theorem ab.ext{α:Type}{ys zs:List α}{off m:Nat}(h:ab ys off m zs):(ys.toArray.extract off (off+m))=zs.toArray:=by
 obtain⟨p,q,rfl,rfl,rfl⟩:=h
 simp
def G0(P:Program)(T:TypeId)(i:Nat):Option (Nat×Nat):=match P.underlying T with
 | some (.struct fs)=>match fs[i]? with
  | some f=>match az P f.type with
   | some s=>some (f.offset,s)
   | none=>none
  | none=>none
 | _=>none
theorem Ac{P:Program}{T:TypeId}{i o s:Nat}(h:G0 P T i=some (o,s)):∃fs f,P.underlying T=some (.struct fs)∧fs[i]?=some f∧f.offset=o∧az P f.type=some s:=by
 unfold G0 at h
 split at h
 ·rename_i fs h1
  split at h
  ·rename_i f h2
   split at h
   ·rename_i s' h3
    simp at h
    exact⟨fs,f,h1,h2,h.1,by rw[h3,h.2]⟩
   ·cases h
  ·cases h
 ·cases h
theorem w8(off:Nat):∀(vs old:List Value)(s:Nat)(pre post:List Value),old.length=vs.length→pre.length=off+s →
  (vs.zipIdx s).foldl (fun(cs:Array Value)(x:Value×Nat)=>cs.setIfInBounds (off+x.2) x.1) (pre++old++post).toArray=(pre++vs++post).toArray
 | [],[],s,pre,post,_,_=>by simp
 | v::vs,o::old,s,pre,post,hl,hp=>by
  simp only[List.zipIdx_cons,List.foldl_cons]
  have e:((pre++o::old++post).toArray.setIfInBounds (off+s) v)=((pre++[v])++old++post).toArray:=by
   rw[← hp]
   simp[List.setIfInBounds_toArray]
  rw[e,w8 off vs old (s+1) (pre++[v]) post (by simpa using hl) (by simp;omega)]
  simp
 | [],_::_,_,_,_,hl,_=>by simp at hl
 | _::_,[],_,_,_,hl,_=>by simp at hl
theorem kJ{place:Nat→Option (Nat×Nat)}{i:Nat}{v:Value}{rest:List (Nat×Value)}{pre old post:List Value}(hp:place i=some (pre.length,old.length))(hv:v.cells.size=old.length):
  Instr.fill place (pre++old++post).toArray ((i,v)::rest)=Instr.fill place (pre++v.cells.toList++post).toArray rest:=by
 simp only[Instr.fill,hp]
 rw[if_neg (by simp[hv])]
 congr 1
 have:=w8 pre.length v.cells.toList old 0 pre post (by simp[hv]) rfl
 rw[← this,← Array.foldl_toList,Array.toList_zipIdx]
section
variable {P:Program} {c:Cx} {n:Nn} {l:Sl} {W:List Res} {ops:Array Oper} {Q:Exit→Act→World→Prop} {rest:List Oper}
variable {d:Nat} {T:TypeId} {pos:String} {after:Array Edge}
theorem oA{x:Operand}{b off o s i:Nat}{t:TypeId}(hx:ev l x=some (pt b off))(hf:G0 P t i=some (o,s))(hs:Nat.blt 0 s=true)(hn:Nat.blt d n.sz=true)
  (hk:Go c n ((d,pt b (off+o))::l) W (wpList P ops Q rest)):Go c n l W (wpList P ops Q (⟨some d,.fieldAddr t x i,T,pos,after,none⟩::rest)):=
 ax rfl rfl hn (fun a w ha hw=>by
  obtain⟨fs,f,h1,h2,rfl,h4⟩:=Ac hf
  have hs0:¬s=0:=by have:=Nat.le_of_ble_eq_true hs;omega
  simp[execOp,ha.ev hx,Instr.fieldAt,Instr.sureAddr,run_underlying h1,h2,fieldPlace,ar h4,hs0,pt,Addr.add]) hk
theorem bJ{x:Operand}{b off m:Nat}{k:IntKind}{ys zs:List Nat}{E U:TypeId}{R:List Res}(hx:ev l x=some (pt b off))(hf:Find W (.blk b (LV k ys) U) R)(hs:cM P E=true)(hz:az P E=some m)
  (hp:ab ys off m zs) (hn:Nat.blt d n.sz=true)
  (hk:Go c n ((d,LV k zs)::l) W (wpList P ops Q rest)):Go c n l W (wpList P ops Q (⟨some d,.load E x,T,pos,after,none⟩::rest)):=
 ax rfl rfl hn (fun a w ha hw=>by
  have hh:w.heap[b]?=some (.cells (ys.map (N k)).toArray U (0,0)):=hw.holds _ hf.mem
  have hl:zs.length=m:=by obtain⟨_,_,_,_,h⟩:=hp;exact h
  have:=cb (P:=P) (w:=w) (b:=b) (off:=off) (cs:=zs.map (N k)) hs (by simpa[hl]using hz) hh (fun j v hv=>by
   have:=(hp.map (N k)).get j v hv
   simpa using this)
  simp[execOp,ha.ev hx,Instr.loadAt,Instr.sureAddr,this,LV]) hk
def jU(P:Program):List Field→Option (List (Nat×Nat))
 | []=>some []
 | f::fs=>match az P f.type,jU P fs with
  | some s,some r=>some ((f.offset,s)::r)
  | _,_=>none
def plF(f:Field):Sem (Nat×Nat):=do pure (f.offset,← sizeOf f.type)
theorem I7{w:World}:∀{fs:List Field}{pl:List (Nat×Nat)},jU P fs=some pl→(fs.mapM plF).run P w = .ok pl w
 | [],pl,h=>by simp[jU]at h;subst h;simp
 | f::fs,pl,h=>by
  simp only[jU]at h
  split at h
  ·rename_i s r h1 h2
   simp at h;subst h
   simp[List.mapM_cons,plF,ar h1,I7 h2]
  ·cases h
theorem CE{w:World}{fs:Array Field}{pl:List (Nat×Nat)}(h:jU P fs.toList=some pl):(fs.mapM plF).run P w = .ok pl.toArray w:=by
 rw[Array.mapM_eq_mapM_toList]
 simp[I7 h]
inductive FillsN (pl:List (Nat×Nat)):List Nat→List (Nat×List Nat)→List Nat→Prop
 | nil {ys:List Nat}:FillsN pl ys [] ys
 | cons {pre old post zs out:List Nat} {i:Nat} {rest:List (Nat×List Nat)} (hp:pl[i]?=some (pre.length,old.length)) (hz:zs.length=old.length) (h:FillsN pl (pre++zs++post) rest out):
   FillsN pl (pre++old++post) ((i,zs)::rest) out
theorem QR{pl:List (Nat×Nat)}{k:IntKind}{ys out:List Nat}{ps:List (Nat×List Nat)}(h:FillsN pl ys ps out):
  Instr.fill (pl.toArray[·]?) (ys.map (N k)).toArray (ps.map fun p=>(p.1,LV k p.2))=some (out.map (N k)).toArray:=by
 induction h with
 | nil=>rfl
 | cons hp hz h ih=>
  rename_i pre old post zs out i rest
  have e:=kJ (place:=(pl.toArray[·]?)) (i:=i) (v:=LV k zs) (rest:=rest.map fun p=>(p.1,LV k p.2)) (pre:=pre.map (N k)) (old:=old.map (N k)) (post:=post.map (N k)) (by simpa using hp) (by simpa[LV,Value.cells]using hz)
  simp only[List.map_append,List.map_cons]at ih ⊢
  rw[e]
  simpa[LV,Value.cells]using ih
theorem eI{t:TypeId}{fs:Array Field}{pl:List (Nat×Nat)}{k:IntKind}{z out:List Nat}{is:List Nat}{xs:List Operand}{vs:List (List Nat)}(ht:P.underlying t=some (.struct fs))(hpl:jU P fs.toList=some pl)(hz:cE P t=some (LV k z))
  (hv:evs l xs=some (vs.map (LV k))) (hf:FillsN pl z (is.zip vs) out) (hn:Nat.blt d n.sz=true)
  (hk:Go c n ((d,LV k out)::l) W (wpList P ops Q rest)):Go c n l W (wpList P ops Q (⟨some d,.build t (is.zip xs).toArray,T,pos,after,none⟩::rest)):=
 ax rfl rfl hn (fun a w ha hw=>by
  have he:((is.zip xs).map fun(p:Nat×Operand)=>(p.1,a.eval p.2))=(is.zip vs).map fun p=>(p.1,LV k p.2):=by
   have h1:xs.map a.eval=vs.map (LV k):=ha.evs hv
   have h2:(is.zip xs).map (fun(p:Nat×Operand)=>(p.1,a.eval p.2))=is.zip (xs.map a.eval):=by rw[List.zip_map_right];rfl
   have h3:(is.zip vs).map (fun(p:Nat×List Nat)=>(p.1,LV k p.2))=is.zip (vs.map (LV k)):=by rw[List.zip_map_right];rfl
   rw[h2,h1,h3]
  have hpp:(fs.mapM fun(f:Field)=>(do let s ← sizeOf f.type;pure (f.offset,s):Sem (Nat×Nat))).run P w = .ok pl.toArray w:=CE hpl
  have hff:=QR (k:=k) hf
  rw[← he]at hff
  simp only[execOp,Instr.build,Sem.run_bind,run_underlying ht,cj hz,hpp,Result.andThen_ok,List.map_toArray,Value.cells,LV]
  rw[hff]
  rfl) hk
theorem cA{t:TypeId}{fs:Array Field}{m:Nat}{k:IntKind}{xs ys:List Nat}{x y:Operand}(ht:P.underlying t=some (.struct fs))(hpl:jU P fs.toList=some [(0,m),(m,m)])(hz:cE P t=some (LV k (List.replicate (m+m) 0)))
  (hv:evs l [x,y]=some [LV k xs,LV k ys]) (h1:xs.length=m) (h2:ys.length=m) (hn:Nat.blt d n.sz=true)
  (hk:Go c n ((d,LV k (xs++ys))::l) W (wpList P ops Q rest)):Go c n l W (wpList P ops Q (⟨some d,.build t #[(0,x),(1,y)],T,pos,after,none⟩::rest)):=
 eI (is:=[0,1]) (xs:=[x,y]) (vs:=[xs,ys]) ht hpl hz hv (by
  have e:List.replicate (m+m) 0=[]++List.replicate m 0++List.replicate m 0:=by rw[List.nil_append,List.replicate_append_replicate]
  rw[e]
  refine .cons (by simp) (by simpa using h1) ?_
  rw[List.nil_append,← List.append_nil (xs++List.replicate m 0)]
  refine .cons (by simp[h1]) (by simpa using h2) ?_
  rw[List.append_nil];exact .nil) hn hk
theorem eo{t:TypeId}{fs:Array Field}{m:Nat}{k:IntKind}{xs:List Nat}{x:Operand}(ht:P.underlying t=some (.struct fs))(hpl:jU P fs.toList=some [(0,m),(m,m)])(hz:cE P t=some (LV k (List.replicate (m+m) 0)))
  (hv:evs l [x]=some [LV k xs]) (h1:xs.length=m) (hn:Nat.blt d n.sz=true)
  (hk:Go c n ((d,LV k (xs++List.replicate m 0))::l) W (wpList P ops Q rest)):Go c n l W (wpList P ops Q (⟨some d,.build t #[(0,x)],T,pos,after,none⟩::rest)):=
 eI (is:=[0]) (xs:=[x]) (vs:=[xs]) ht hpl hz hv (by
  have e:List.replicate (m+m) 0=[]++List.replicate m 0++List.replicate m 0:=by rw[List.nil_append,List.replicate_append_replicate]
  rw[e]
  refine .cons (by simp) (by simpa using h1) ?_
  exact .nil) hn hk
theorem rS{t:TypeId}{fs:Array Field}{m:Nat}{k:IntKind}{ys:List Nat}{y:Operand}(ht:P.underlying t=some (.struct fs))(hpl:jU P fs.toList=some [(0,m),(m,m)])(hz:cE P t=some (LV k (List.replicate (m+m) 0)))
  (hv:evs l [y]=some [LV k ys]) (h1:ys.length=m) (hn:Nat.blt d n.sz=true)
  (hk:Go c n ((d,LV k (List.replicate m 0++ys))::l) W (wpList P ops Q rest)):Go c n l W (wpList P ops Q (⟨some d,.build t #[(1,y)],T,pos,after,none⟩::rest)):=
 eI (is:=[1]) (xs:=[y]) (vs:=[ys]) ht hpl hz hv (by
  have e:List.replicate (m+m) 0=List.replicate m 0++List.replicate m 0++[]:=by rw[List.append_nil,List.replicate_append_replicate]
  rw[e]
  refine .cons (by simp) (by simpa using h1) ?_
  rw[List.append_nil];exact .nil) hn hk
theorem jG{t:TypeId}{fs:Array Field}{pl:List (Nat×Nat)}{k:IntKind}{z:List Nat}(ht:P.underlying t=some (.struct fs))(hpl:jU P fs.toList=some pl)(hz:cE P t=some (LV k z))(hn:Nat.blt d n.sz=true)
  (hk:Go c n ((d,LV k z)::l) W (wpList P ops Q rest)):Go c n l W (wpList P ops Q (⟨some d,.build t #[],T,pos,after,none⟩::rest)):=
 eI (is:=[]) (xs:=[]) (vs:=[]) ht hpl hz rfl .nil hn hk
theorem jb(D:Nat){w:World}{t:TypeId}{f0 f1:Field}{k:IntKind}{m:Nat}{E:TypeId}(ht:P.underlying t=some (.struct #[f0,f1]))(hst:P.stoodInHeld t=false)(hn0:(f0.name != "_")=true)(hn1:(f1.name != "_")=true)
  (h0:P.underlying f0.type=some (.array m E)) (h1:P.underlying f1.type=some (.array m E)) (hs0:az P f0.type=some m) (hs1:az P f1.type=some m) (ho0:f0.offset=0) (ho1:f1.offset=m)
  (hE:P.underlying E=some (.int k)) (hz:az P E=some 1) {xs ys us vs:List Nat} (hx:xs.length=m) (hy:ys.length=m) (hu:us.length=m) (hv:vs.length=m):
  (Op.equalIn (D+3) t (LV k (xs++ys)) (LV k (us++vs))).run P w = .ok (decide (xs=us)&&decide (ys=vs)) w:=by
 have hf:P.fieldsOf t = #[f0,f1]:=by unfold Program.fieldsOf;rw[ht]
 have e:=run_equalIn_struct (P:=P) w (D+2) t ((xs++ys).map (N k)).toArray ((us++vs).map (N k)).toArray (by rw[hf];exact ht) hst
 rw[hf]at e
 simp only[LV]
 rw[e]
 have a0:cM P f0.type=true:=by unfold cM;rw[h0]
 have a1:cM P f1.type=true:=by unfold cM;rw[h1]
 have p0:∀(zs ts:List Nat),zs.length=m→(part f0.type ((zs++ts).map (N k)).toArray f0.offset).run P w = .ok (LV k zs) w:=fun zs ts hz=>by
  have he:=((ab.l (ys:=ts) hz).map (N k)).ext
  rw[Nat.zero_add]at he
  simp only[part,Sem.run_bind,cD a0,Result.andThen_ok,if_true,ar hs0,ho0,Nat.zero_add,he,Sem.run_pure,LV]
 have p1:∀(zs ts:List Nat),zs.length=m→ts.length=m→(part f1.type ((zs++ts).map (N k)).toArray f1.offset).run P w = .ok (LV k ts) w:=fun zs ts hz ht=>by
  have he:=((ab.r (xs:=zs) hz ht).map (N k)).ext
  simp only[part,Sem.run_bind,cD a1,Result.andThen_ok,if_true,ar hs1,ho1,he,Sem.run_pure,LV]
 have q0:=eD (w:=w) D h0 hE hz xs us hx hu
 have q1:=eD (w:=w) D h1 hE hz ys vs hy hv
 have n0:f0.name ≠ "_":=by simpa using hn0
 have n1:f1.name ≠ "_":=by simpa using hn1
 simp only[Op.eqFields,if_pos n0,if_pos n1,Sem.run_bind,p0 xs ys hx,p0 us vs hu,p1 xs ys hx hy,p1 us vs hu hv,Result.andThen_ok,q0,q1,Sem.run_ite,Sem.run_pure]
 cases decide (xs=us) <;> cases decide (ys=vs) <;> rfl
theorem Jr{t:TypeId}{f0 f1:Field}{k:IntKind}{m:Nat}{E yt:TypeId}{x y:Operand}{xs ys us vs:List Nat}(hx:ev l x=some (LV k (xs++ys)))(hy:ev l y=some (LV k (us++vs)))(ht:P.underlying t=some (.struct #[f0,f1]))(hst:P.stoodInHeld t=false)(hn0:(f0.name != "_")=true)(hn1:(f1.name != "_")=true)
  (h0:P.underlying f0.type=some (.array m E)) (h1:P.underlying f1.type=some (.array m E)) (hs0:az P f0.type=some m) (hs1:az P f1.type=some m) (ho0:f0.offset=0) (ho1:f1.offset=m)
  (hE:P.underlying E=some (.int k)) (hz:az P E=some 1) (hg:P.eqGuardType P.depth t=false) (l1:xs.length=m) (l2:ys.length=m) (l3:us.length=m) (l4:vs.length=m) (hn:Nat.blt d n.sz=true)
  (hk:Go c n ((d,.bool (decide (xs=us)&&decide (ys=vs)))::l) W (wpList P ops Q rest)):Go c n l W (wpList P ops Q (⟨some d,.binOp .eql t x y yt,T,pos,after,none⟩::rest)):=
 ax rfl rfl hn (fun a w ha _=>by
  have q1:=jb 9997 (w:=w) ht hst hn0 hn1 h0 h1 hs0 hs1 ho0 ho1 hE hz l1 l2 l3 l4
  have q2:=run_eqGuard_agg (P:=P) w .eql t x y ((xs++ys).map (N k)).toArray ((us++vs).map (N k)).toArray hg
  have q3:=run_eql_struct (P:=P) w t ((xs++ys).map (N k)).toArray ((us++vs).map (N k)).toArray
  simp only[LV]at q1 hx hy
  rw[q1]at q3
  simp only[execOp,ha.ev hx,ha.ev hy,Sem.run_bind,q2,Result.andThen_ok,q3,Sem.run_pure]) hk
theorem Jv{t:TypeId}{f0 f1:Field}{k:IntKind}{m:Nat}{E yt:TypeId}{x y:Operand}{xs ys us vs:List Nat}(hx:ev l x=some (LV k (xs++ys)))(hy:ev l y=some (LV k (us++vs)))(ht:P.underlying t=some (.struct #[f0,f1]))(hst:P.stoodInHeld t=false)(hn0:(f0.name != "_")=true)(hn1:(f1.name != "_")=true)
  (h0:P.underlying f0.type=some (.array m E)) (h1:P.underlying f1.type=some (.array m E)) (hs0:az P f0.type=some m) (hs1:az P f1.type=some m) (ho0:f0.offset=0) (ho1:f1.offset=m)
  (hE:P.underlying E=some (.int k)) (hz:az P E=some 1) (hg:P.eqGuardType P.depth t=false) (l1:xs.length=m) (l2:ys.length=m) (l3:us.length=m) (l4:vs.length=m) (hn:Nat.blt d n.sz=true)
  (hk:Go c n ((d,.bool (!(decide (xs=us)&&decide (ys=vs))))::l) W (wpList P ops Q rest)):Go c n l W (wpList P ops Q (⟨some d,.binOp .neq t x y yt,T,pos,after,none⟩::rest)):=
 ax rfl rfl hn (fun a w ha _=>by
  have q1:=jb 9997 (w:=w) ht hst hn0 hn1 h0 h1 hs0 hs1 ho0 ho1 hE hz l1 l2 l3 l4
  have q2:=run_eqGuard_agg (P:=P) w .neq t x y ((xs++ys).map (N k)).toArray ((us++vs).map (N k)).toArray hg
  have q3:=run_neq_struct (P:=P) w t ((xs++ys).map (N k)).toArray ((us++vs).map (N k)).toArray
  simp only[LV]at q1 hx hy
  rw[q1]at q3
  simp only[execOp,ha.ev hx,ha.ev hy,Sem.run_bind,q2,Result.andThen_ok,q3,Sem.run_pure]) hk
theorem M3{r:Bool}{t:TypeId}{f0 f1:Field}{k:IntKind}{m:Nat}{E yt:TypeId}{x y:Operand}{xs ys us vs:List Nat}(hx:ev l x=some (LV k (xs++ys)))(hy:ev l y=some (LV k (us++vs)))(ht:P.underlying t=some (.struct #[f0,f1]))(hst:P.stoodInHeld t=false)(hn0:(f0.name != "_")=true)(hn1:(f1.name != "_")=true)
  (h0:P.underlying f0.type=some (.array m E)) (h1:P.underlying f1.type=some (.array m E)) (hs0:az P f0.type=some m) (hs1:az P f1.type=some m) (ho0:f0.offset=0) (ho1:f1.offset=m)
  (hE:P.underlying E=some (.int k)) (hz:az P E=some 1) (hg:P.eqGuardType P.depth t=false) (hr:(decide (xs=us)&&decide (ys=vs))=r) (l1:xs.length=m) (l2:ys.length=m) (l3:us.length=m) (l4:vs.length=m) (hn:Nat.blt d n.sz=true)
  (hk:Go c n ((d,.bool r)::l) W (wpList P ops Q rest)):Go c n l W (wpList P ops Q (⟨some d,.binOp .eql t x y yt,T,pos,after,none⟩::rest)):=
 Jr hx hy ht hst hn0 hn1 h0 h1 hs0 hs1 ho0 ho1 hE hz hg l1 l2 l3 l4 hn (by rw[hr];exact hk)
theorem CS{r:Bool}{t:TypeId}{f0 f1:Field}{k:IntKind}{m:Nat}{E yt:TypeId}{x y:Operand}{xs ys us vs:List Nat}(hx:ev l x=some (LV k (xs++ys)))(hy:ev l y=some (LV k (us++vs)))(ht:P.underlying t=some (.struct #[f0,f1]))(hst:P.stoodInHeld t=false)(hn0:(f0.name != "_")=true)(hn1:(f1.name != "_")=true)
  (h0:P.underlying f0.type=some (.array m E)) (h1:P.underlying f1.type=some (.array m E)) (hs0:az P f0.type=some m) (hs1:az P f1.type=some m) (ho0:f0.offset=0) (ho1:f1.offset=m)
  (hE:P.underlying E=some (.int k)) (hz:az P E=some 1) (hg:P.eqGuardType P.depth t=false) (hr:(decide (xs=us)&&decide (ys=vs))=r) (l1:xs.length=m) (l2:ys.length=m) (l3:us.length=m) (l4:vs.length=m) (hn:Nat.blt d n.sz=true)
  (hk:Go c n ((d,.bool (!r))::l) W (wpList P ops Q rest)):Go c n l W (wpList P ops Q (⟨some d,.binOp .neq t x y yt,T,pos,after,none⟩::rest)):=
 Jv hx hy ht hst hn0 hn1 h0 h1 hs0 hs1 ho0 ho1 hE hz hg l1 l2 l3 l4 hn (by rw[hr];exact hk)
end
def eN(w:World)(b:Nat)(v:Value)(U:TypeId):Prop:=w.heap[b]?=some (.cells v.cells U (0,0))
structure OldB (c:Cx) (b:Nat) (v:Value) (U:TypeId):Prop where
 has:eN c.w0 b v U
 out:b∉c.S
theorem eN.lt{w:World}{b:Nat}{v:Value}{U:TypeId}(h:eN w b v U):b<w.heap.size:=by
 rcases Nat.lt_or_ge b w.heap.size with h1 | h1
 ·exact h1
 ·unfold eN at h;rw[Array.getElem?_eq_none h1]at h;cases h
theorem OldB.mk0{w:World}{b:Nat}{v:Value}{U:TypeId}(h:eN w b v U):OldB ⟨w,fps []⟩ b v U:=⟨h,by simp[fps]⟩
theorem OldB.now{c:Cx}{b:Nat}{v:Value}{U:TypeId}{W:List Res}(h:OldB c b v U):∀w,SatW c W w→eN w b v U:=fun w hw=>by
 have:=hw.ext.block b h.has.lt h.out
 unfold eN
 rw[this];exact h.has
theorem OldB.shift{c:Cx}{b:Nat}{v:Value}{U:TypeId}{W:List Res}{w0:World}(h:OldB c b v U)(h0:SatW c W w0):OldB ⟨w0,fps W⟩ b v U:=
 ⟨h.now w0 h0,fun hm=>by
  rcases h0.own b hm with h1 | h1
  ·have:=h.has.lt;omega
  ·exact h.out h1⟩
theorem eN.own{c:Cx}{b:Nat}{v:Value}{U:TypeId}{W R:List Res}(h:Find W (.blk b v U) R):∀w,SatW c W w→eN w b v U:=fun _ hw=>hw.holds _ h.mem
section
variable {P:Program} {c:Cx} {n:Nn} {l:Sl} {W:List Res} {ops:Array Oper} {Q:Exit→Act→World→Prop} {rest:List Oper}
variable {d:Nat} {T:TypeId} {pos:String} {after:Array Edge}
theorem ep{x:Operand}{b off m:Nat}{k:IntKind}{ys zs:List Nat}{E U:TypeId}(hx:ev l x=some (pt b off))(ho:OldB c b (LV k ys) U)(hs:cM P E=true)(hz:az P E=some m)
  (hp:ab ys off m zs) (hn:Nat.blt d n.sz=true)
  (hk:Go c n ((d,LV k zs)::l) W (wpList P ops Q rest)):Go c n l W (wpList P ops Q (⟨some d,.load E x,T,pos,after,none⟩::rest)):=
 ax rfl rfl hn (fun a w ha hw=>by
  have hh:w.heap[b]?=some (.cells (ys.map (N k)).toArray U (0,0)):=ho.now w hw
  have hl:zs.length=m:=by obtain⟨_,_,_,_,h⟩:=hp;exact h
  have:=cb (P:=P) (w:=w) (b:=b) (off:=off) (cs:=zs.map (N k)) hs (by simpa[hl]using hz) hh (fun j v hv=>by
   have:=(hp.map (N k)).get j v hv
   simpa using this)
  simp[execOp,ha.ev hx,Instr.loadAt,Instr.sureAddr,this,LV]) hk
end
end Go.Proofs.YtndhfbecpghinaaGreat.L
namespace Go.Proofs.YtndhfbecpghinaaGreat.L
open Go Go.Proofs
abbrev slv(b k:Nat):Value:=.slice (some ⟨b,0,none⟩) k k
theorem nV{kk:IntKind}{m:Nat}:∀(vss:List (List Nat))(i:Nat)(done:List Value),(∀v∈vss,v.length=m)→done.length=i*m →
  Instr.fill (fun i=>some (i*m,m)) (done++List.replicate (vss.length*m) (N kk 0)).toArray ((vss.zipIdx i).map fun p=>(p.2,LV kk p.1))=some (done++vss.flatten.map (N kk)).toArray
 | [],i,done,_,_=>by simp[Instr.fill]
 | v::r,i,done,hv,hd=>by
  have h1:=hv v (List.mem_cons_self ..)
  have ih:=nV (kk:=kk) (m:=m) r (i+1) (done++v.map (N kk)) (fun u hu=>hv u (List.mem_cons_of_mem _ hu)) (by simp[hd,h1,Nat.add_mul])
  have e:=kJ (place:=fun i=>some (i*m,m)) (i:=i) (v:=LV kk v) (rest:=(r.zipIdx (i+1)).map fun p=>(p.2,LV kk p.1)) (pre:=done) (old:=List.replicate m (N kk 0)) (post:=List.replicate (r.length*m) (N kk 0))
   (by simp[hd]) (by simp[LV,Value.cells,h1])
  have hrep:done++List.replicate ((v::r).length*m) (N kk 0)=done++List.replicate m (N kk 0)++List.replicate (r.length*m) (N kk 0):=by
   rw[List.append_assoc,List.replicate_append_replicate]
   congr 2
   rw[List.length_cons,Nat.add_mul,Nat.one_mul,Nat.add_comm]
  rw[hrep,List.zipIdx_cons,List.map_cons,e]
  have hc:(LV kk v).cells.toList=v.map (N kk):=by simp[LV,Value.cells]
  rw[hc,ih]
  simp
section
variable {P:Program} {c:Cx} {n:Nn} {l:Sl} {W:List Res} {ops:Array Oper} {Q:Exit→Act→World→Prop} {rest:List Oper}
variable {d:Nat} {T:TypeId} {pos:String} {after:Array Edge}
theorem lR{a:Act}{kk:IntKind}:∀{ps:List (Nat×Operand)}{i:Nat}{vss:List (List Nat)}(_:SatA n l a)(_:Seq i ps=true)(_:evs l (ps.map (·.2))=some (vss.map (LV kk))),
  (ps.map fun(i,x)=>(i,a.eval x))=(vss.zipIdx i).map fun p=>(p.2,LV kk p.1)
 | [],i,vss,_,_,he=>by
  have:vss=[]:=by
   cases vss with
   | nil=>rfl
   | cons v r=>simp[evs]at he
  subst this;rfl
 | (q,x)::r,i,vss,ha,hs,he=>by
  simp only[Seq,Bool.and_eq_true]at hs
  have hq:=Nat.eq_of_beq_eq_true hs.1
  subst hq
  simp only[List.map_cons,evs]at he
  split at he
  ·rename_i v us hx hr
   cases vss with
   | nil=>simp at he
   | cons v0 vr=>
    simp at he
    obtain⟨h1,h2⟩:=he
    subst h1
    subst h2
    have ih:=lR (ps:=r) (i:=q+1) (vss:=vr) ha hs.2 hr
    simp only[List.map_cons,List.zipIdx_cons,ih,ha.ev hx]
  ·simp at he
theorem Bn{kk:IntKind}{m k:Nat}(hm:0<m):(Array.range (k*m)).map (fun j=>(List.replicate m (N kk 0)).toArray[j%(List.replicate m (N kk 0)).toArray.size]!)=(List.replicate (k*m) (N kk 0)).toArray:=by
 apply Array.ext
 ·simp
 ·intro j h1 h2
  have hj:j%m<m:=Nat.mod_lt _ hm
  simp[hj]
theorem av{t E:TypeId}{k m:Nat}{ps:List (Nat×Operand)}{kk:IntKind}{vss:List (List Nat)}(ht:P.underlying t=some (.slice E))(hz:cE P E=some (LV kk (List.replicate m 0)))(hs:az P E=some m)
  (hm:Nat.blt 0 (k*m)=true) (hq:Seq 0 ps=true) (hl:vss.length=k) (hv:evs l (ps.map (·.2))=some (vss.map (LV kk))) (hlen:∀v∈vss,v.length=m) (hk24:Nat.ble (k*m) 16777216=true) (hn:Nat.blt d n.sz=true)
  (hk:∀b,Go c n ((d,slv b k)::l) (.blk b (LV kk vss.flatten) E::W) (wpList P ops Q rest)):
  Go c n l W (wpList P ops Q (⟨some d,.buildSlice t k ps.toArray,T,pos,after,none⟩::rest)):=
 ft rfl rfl hn (Φ:=fun u V=>∃b,u=slv b k∧V = .blk b (LV kk vss.flatten) E::W)
  (fun a w ha hw=>by
   have hp:=lR ha hq hv
   have hm0:0<k*m:=by simpa[Nat.blt_eq]using hm
   have hmm:0<m:=Nat.pos_of_mul_pos_left hm0
   have hle:¬(16777216<k*m):=by have:=Nat.le_of_ble_eq_true hk24;omega
   have hne:¬(k*m=0):=by omega
   have hfill:=nV (kk:=kk) (m:=m) vss 0 [] hlen (by simp)
   simp only[List.nil_append]at hfill
   rw[hl]at hfill
   have h0:=Bn (kk:=kk) (m:=m) (k:=k) hmm
   refine⟨_,_,_,?_,hw.alloc (o:=.cells (vss.flatten.map (N kk)).toArray E) (r:=.blk w.heap.size (LV kk vss.flatten) E) rfl ?_,_,rfl,rfl⟩
   ·have hz2:(LV kk (List.replicate m 0)).cells=(List.replicate m (N kk 0)).toArray:=by simp[LV,Value.cells]
    simp only[execOp,Instr.buildSlice,Sem.run_bind,run_underlying ht,ar hs,Result.andThen_ok,List.map_toArray,hp]
    simp only[show(2:Nat)^24=16777216 from rfl,gt_iff_lt,if_neg hle,if_neg hne,Sem.run_bind,cj hz,Result.andThen_ok,Sem.run_pure,hz2,h0,hfill]
    simp[newRow,slv]
   ·simp[Res.holds,LV,Value.cells])
  (fun u V ⟨b,hu,hV⟩=>by subst hu;subst hV;exact hk b)
theorem E9{t E:TypeId}{k m:Nat}{ps:List (Nat×Operand)}{kk:IntKind}{vss:List (List Nat)}(ht:P.underlying t=some (.array k E))(hz:cE P t=some (LV kk (List.replicate (k*m) 0)))(hs:az P E=some m)
  (hq:Seq 0 ps=true) (hl:vss.length=k) (hv:evs l (ps.map (·.2))=some (vss.map (LV kk))) (hlen:∀v∈vss,v.length=m) (hn:Nat.blt d n.sz=true)
  (hk:Go c n ((d,LV kk vss.flatten)::l) W (wpList P ops Q rest)):
  Go c n l W (wpList P ops Q (⟨some d,.build t ps.toArray,T,pos,after,none⟩::rest)):=
 ax rfl rfl hn (fun a w ha hw=>by
  have hp:=lR ha hq hv
  have hfill:=nV (kk:=kk) (m:=m) vss 0 [] hlen (by simp)
  simp only[List.nil_append,hl]at hfill
  have hz2:(LV kk (List.replicate (k*m) 0)).cells=(List.replicate (k*m) (N kk 0)).toArray:=by simp[LV,Value.cells]
  simp only[execOp,Instr.build,Sem.run_bind,run_underlying ht,cj hz,ar hs,Result.andThen_ok,List.map_toArray,hp,hz2,hfill]
  rfl) hk
theorem Fb{x y:Operand}{b off len cap i m:Nat}{k:IntKind}{t E:TypeId}(hx:ev l x=some (.slice (some ⟨b,off,none⟩) len cap))(hy:ev l y=some (N k i))(ht:P.underlying t=some (.slice E))(hz:az P E=some m)(hi:i<len)
  (hn:Nat.blt d n.sz=true) (hk:Go c n ((d,pt b (off+i*m))::l) W (wpList P ops Q rest)):Go c n l W (wpList P ops Q (⟨some d,.indexAddr t x y,T,pos,after,none⟩::rest)):=
 ax rfl rfl hn (fun a w ha hw=>by
  simp[execOp,ha.ev hx,ha.ev hy,Instr.indexAt,asIntOf,run_underlying ht,hi,ar hz,Addr.add]) hk
theorem A4{x:Operand}{a0:Option Addr}{len cap:Nat}{t E:TypeId}{ts:List TypeId}(hx:ev l x=some (.slice a0 len cap))(ht:P.underlying t=some (.slice E))
  (hn:Nat.blt d n.sz=true) (hk:Go c n ((d,N .i64 len)::l) W (wpList P ops Q rest)):
  Go c n l W (wpList P ops Q (⟨some d,.call { callee:=.builtin .len,args:=#[x],argTypes:=(t::ts).toArray },T,pos,after,none⟩::rest)):=
 ax rfl rfl hn (fun a w ha hw=>by
  simp[execOp,ha.ev hx,resolve,invoke,builtin,Builtin.len_,run_underlying ht,goInt]) hk
theorem gC{fn:Func}{R:Ending→World→Prop}{t u:Tmp}{b b' m m':Nat}{T T' U U':TypeId}{k k':IntKind}{ys ys':List Nat}{R0 R1:List Res}
  (hres:fn.results = #[.cell t T,.cell u T']) (hv:lk l t=some (pt b 0)) (hu:lk l u=some (pt b' 0)) (hf:Find W (.blk b (LV k ys) U) R0) (hf':Find W (.blk b' (LV k' ys') U') R1) (hs:cM P T=true) (hz:az P T=some m) (hl:ys.length=m)
  (hs':cM P T'=true) (hz':az P T'=some m') (hl':ys'.length=m')
  (hR:∀w,SatW c W w→R (.returned (.tuple #[LV k ys,LV k' ys'])) w) (hD:n.df=[]:=by rfl):Go c n l W (bodyPost P fn R .ret):=
 tW hres hv hu hf hf' hs (by subst hl;simpa using hz) hs' (by subst hl';simpa using hz') hR hD
end
theorem ab.nth{α:Type}{m:Nat}:∀{vss:List (List α)}{i:Nat}{zs:List α},(∀v∈vss,v.length=m)→vss[i]?=some zs→ab vss.flatten (i*m) m zs
 | [],i,zs,_,h=>by simp at h
 | v::r,0,zs,hv,h=>by
  simp at h
  subst h
  rw[Nat.zero_mul,List.flatten_cons]
  exact ab.l (hv v (List.mem_cons_self ..))
 | v::r,i+1,zs,hv,h=>by
  have h1:=hv v (List.mem_cons_self ..)
  have ih:=ab.nth (m:=m) (vss:=r) (i:=i) (zs:=zs) (fun u hu=>hv u (List.mem_cons_of_mem _ hu)) (by simpa using h)
  have:=ab.inr (xs:=v) ih
  rw[h1,Nat.add_comm]at this
  rw[List.flatten_cons,Nat.add_mul,Nat.one_mul]
  exact this
end Go.Proofs.YtndhfbecpghinaaGreat.L
namespace Go.Proofs.YtndhfbecpghinaaGreat.L.R
open Go Go.Proofs.YtndhfbecpghinaaGreat.L
section
variable {P:Program} {c:Cx} {n:Nn} {os:List Oper} {K:Act→World→Prop} {E:En} {W:List Res} {l:Sl} {i d:Nat} {o:Oper} {rest:List Nat}
def OpD(P:Program)(c:Cx)(n:Nn)(W:List Res)(G:Nat→Value)(F:Nat→List Res)(d:Nat)(lr:Sl)(o:Oper):Prop:=
 ∀w0 m,SatW c W w0→Go ⟨w0,fps W⟩ n (lr++m) W (wpList P #[] (fun e a w=>e = .normal∧∃b,SatA n ((d,G b)::(lr++m)) a∧SatW ⟨w0,fps W⟩ (F b++W) w) [o])
theorem Zpd{G:Nat→Value}{F:Nat→List Res}(ho:os[i]?=some o)(h:OpD P c n W G F d (bR os.toArray o l) (noG o))(hr:∀b,QF P c n os K (E++[(i,.alc)]) (F b++W) ((d,G b)::l) rest)
  (hi:ip i E=true:=by rfl) (hd:o.dst=some d:=by rfl) (hn:Nat.blt d n.sz=true:=by rfl) (hg:bO os.toArray l o=some true:=by rfl)
  (hc:io os (E++[(i,.alc)])=true:=by rfl) (hdesc:fX os [i] rest E=true:=by rfl):QF P c n os K E W l (i::rest):=
 nd1 .alc (Φ:=fun u W'=>∃b,u=some (d,G b)∧W'=F b++W) ho hi hc hdesc (fun u W' ⟨v,hu,hW⟩=>by subst hu;exact⟨hd,fun d' hd'=>by rw[hd]at hd';cases hd';exact hn,.inr ⟨rfl,F v,hW⟩⟩) hg
  (fun w0 m hw a w ha hw'=>bE (h w0 m hw a w ha hw') rfl (fun _ _ _ h=>h.1) fun a w ⟨h1,b,h2,h3⟩=>⟨h1,some (d,G b),F b++W,⟨b,rfl,rfl⟩,h2,h3⟩)
  (fun u W' ⟨v,hu,hW⟩=>by subst hu;subst hW;exact hr v)
theorem dO{b k:Nat}{v:Value}{T:TypeId}{L:Sl}:
  Go c n ((d,slv b k)::L) (.blk b v T::W) (wpList P #[] (fun e a w=>e = .normal∧∃b,SatA n ((d,(fun b=>slv b k) b)::L) a∧SatW c ((fun b=>[.blk b v T]) b++W) w) []):=
 fun _ _ ha hw=>wpList_nil ⟨rfl,b,ha,hw⟩
end
end Go.Proofs.YtndhfbecpghinaaGreat.L.R
namespace Go.Proofs.YtndhfbecpghinaaGreat.L
open Go Go.Proofs
set_option maxRecDepth 100000
def wide(m:Nat):Value→Value
 | .slice a n c=>.slice a (n*m) (c*m)
 | v=>v
theorem yV(m:Nat):wide m (.slice none 0 0) = .slice none 0 0:=by simp[wide]
theorem fG{m k:Nat}(hm:0<m){s:Value}{a:Option Addr}{cap n:Nat}(h:wide m s = .slice a n cap)(hn:n=k*m):∃c,s = .slice a k c∧cap=c*m:=by
 cases s with
 | slice a0 n0 c0=>
  simp only[wide,Value.slice.injEq]at h
  obtain⟨rfl,h2,rfl⟩:=h
  have:n0=k:=Nat.eq_of_mul_eq_mul_right hm (h2.trans hn)
  subst this
  exact⟨c0,rfl,rfl⟩
 | _=>simp[wide]at h
theorem lV{P:Program}{w:World}{m k c:Nat}{a:Option Addr}{xs:List Value}(h:Rd w (wide m (.slice a k c)) xs)(hk:xs.length=k*m):(Builtin.firstCells m k (.slice a k c)).run P w = .ok xs.toArray w:=by
 obtain⟨a0,cap,he,h1,h2,h3⟩:=h.shape
 simp only[wide,Value.slice.injEq]at he
 obtain⟨rfl,e2,rfl⟩:=he
 cases a with
 | none=>obtain⟨hx,_⟩:=h2 rfl;subst hx;simp[Builtin.firstCells]
 | some a1=>
  have hl:(loadCells a1 xs.length).run P w = .ok xs.toArray w:=
   run_loadCells_list (P:=P) w a1 xs (fun j v hv=>by
    have:=h.cells j v hv
    simpa[wide,ea]using this)
  rw[hk]at hl
  simp[Builtin.firstCells,hl]
theorem nq{P:Program}{w:World}{t E ty:TypeId}{by' m k j c c1:Nat}{base a1:Option Addr}{z:Value}{xs ys:List Value}(hm:0<m)(ht:P.underlying t=some (.slice E))(hz:cE P E=some z)(hs:az P E=some m)(hb:lG P E=some by')
    (hzc:z.cells.size=m)
    (hS:(Res.sl (wide m (.slice base k c)) xs E).holds w) (hY:Rd w (wide m (.slice a1 j c1)) ys) (hxk:xs.length=k*m) (hyj:ys.length=j*m) (hys:∀v∈ys,v.oneCell'=true) (hj:0<j)
    (hbd:(k+j)*by'≤140737488355328) (h63:k+j<9223372036854775808):
    ∃s' w',(Builtin.append_ #[t,t] ty #[.slice base k c,.slice a1 j c1]).run P w = .ok s' w'∧(Res.sl (wide m s') (xs++ys) E).holds w'∧Ext (Res.sl (wide m (.slice base k c)) xs E).fp w w' ∧
      ((Res.sl (wide m s') (xs++ys) E).fp=(Res.sl (wide m (.slice base k c)) xs E).fp∨((Res.sl (wide m s') (xs++ys) E).fp=[w.heap.size])):=by
  obtain⟨i,hi,hz',hs',hb'⟩:=mL hz hs hb
  have hfY:=fun q=>lV (P:=P) (hY.drew q) hyj
  have hfY0:=lV (P:=P) hY hyj
  have hz0:∀w,(zeroValue E).run P w = .ok z w:=cj hz
  have hty:∀w,(underlying t).run P w = .ok (.slice E) w:=run_underlying ht
  have hti:∀w,(typeInfo E).run P w = .ok i w:=fun w=>by simp[typeInfo,hi]
  have h63i:¬(9223372036854775807<((k:Int)+(j:Int))):=by omega
  have hjm:0<j*m:=Nat.mul_pos hj hm
  by_cases hroom:k+j≤c
  ·
    rcases hS with⟨hs1,hx1⟩ | ⟨b,off,cap',pre,post,fz,hq⟩
    · simp only[wide,Value.slice.injEq]at hs1
      obtain⟨_,_,h3⟩:=hs1
      have:c=0:=by rcases Nat.mul_eq_zero.1 h3 with h | h <;> omega
      omega
    · obtain⟨hv,g1,g2,g3,g4,g5⟩:=hq
      simp only[wide,Value.slice.injEq]at hv
      obtain⟨rfl,hv2,rfl⟩:=hv
      have hroomM:(k+j)*m≤c*m:=Nat.mul_le_mul_right m hroom
      rw[Nat.add_mul,← hxk,← hyj]at hroomM
      have hfit:off+xs.length+ys.length≤(pre++xs++post).toArray.size:=by simp;omega
      have hfz:¬fz.1<fz.2∨(pre++xs++post).length≤fz.1:=by
        by_cases hf:fz.1<fz.2
        · exact .inr (g5 (by omega))
        · exact .inl hf
      have hst:∀(vs:List Value)(i0:Nat)(cur:List Value)(w:World),w.heap[b]?=some (.cells cur.toArray E fz)→cur.length=(pre++xs++post).length→off+xs.length+i0+vs.length≤cur.length→(∀v∈vs,v.oneCell'=true) →
          ∃cur':List Value,(storeCells ⟨b,off+xs.length,none⟩ vs i0).run P w = .ok () (w.setRow b cur'.toArray)∧cur'=cur.take (off+xs.length+i0)++vs++cur.drop (off+xs.length+i0+vs.length):=by
        intro vs
        induction vs with
        | nil=>
          intro i0 cur w hh hl hle h1v
          refine⟨cur,?_,by simp⟩
          rw[setRow_self w b _ E fz hh];rfl
        | cons v r ih=>
          intro i0 cur w hh hl hle h1v
          simp only[List.length_cons]at hle
          have hlt:off+xs.length+i0<cur.length:=by omega
          have hcell:w.cell? ⟨b,off+xs.length+i0,none⟩=some cur[off+xs.length+i0]:=by simp[World.cell?,hh,hlt]
          have hfro:w.frozen? ⟨b,off+xs.length+i0,none⟩=false:=by
            simp only[World.frozen?,hh]
            rcases hfz with h | h
            · simp;omega
            · simp;omega
          have hs1:(store ((⟨b,off+xs.length,none⟩:Addr).add i0) v).run P w = .ok () (w.setRow b (cur.set (off+xs.length+i0) v).toArray):=by
            rw[cv,run_store P w _ v _ (h1v v (by simp)),hcell]
            simp[hfro,setCell_eq_setRow w b _ cur.toArray E fz v hh]
          obtain⟨cur',hr,he⟩:=ih (i0+1) (cur.set (off+xs.length+i0) v) (w.setRow b (cur.set (off+xs.length+i0) v).toArray) (setRow_heap w b _ _ E fz hh) (by simpa using hl) (by simp;omega) (fun u hu=>h1v u (by simp[hu]))
          refine⟨cur',?_,?_⟩
          · simp only[storeCells,Sem.run_bind,hs1,Result.andThen_ok,hr,setRow_setRow]
          · rw[he]
            have e:=list_seg_step cur (off+xs.length+i0) v r (by omega)
            simpa[Nat.add_assoc]using e
      obtain⟨cur',hr,he⟩:=hst ys 0 (pre++xs++post) w g4 rfl (by simp;omega) hys
      have hcur:cur'=pre++(xs++ys)++post.drop ys.length:=by
        rw[he]
        subst g3
        simp only[Nat.add_zero]
        rw[List.take_left' (by simp),show pre.length+xs.length+ys.length=(pre++xs).length+ys.length by simp,List.drop_append]
        simp
      rw[hcur]at hr
      refine⟨.slice (some ⟨b,off,none⟩) (k+j) c,w.setRow b (pre++(xs++ys)++post.drop ys.length).toArray,?_,?_,?_,.inl rfl⟩
      · simp at hr
        rw[hxk]at hr
        simp[Builtin.append_,hty,ar hs,Builtin.lenOf,hfY0,hroom,cv,hr]
      · refine .inr ⟨b,off,c*m,pre,post.drop ys.length,fz,by simp[wide,hxk,hyj,Nat.add_mul],by simpa using hroomM,?_,g3,setRow_heap w b _ _ E fz g4,?_⟩
        · simp;omega
        · intro hf;have:=g5 (by omega);simp at this ⊢;omega
      · exact⟨rfl,rfl,rfl,by simp,fun q _ hq=>setRow_other w b q _ (by simpa[Res.fp,wide]using hq)⟩
  ·
    have hfit:=growslice_fits (need:=k+j) (old:=c) (bytes:=by') (by omega) hbd
    have h48:¬(281474976710656<Builtin.nextslicecap (k+j) c*i.bytes):=by rw[hb'];omega
    have hX:Rd w (wide m (.slice base k c)) xs:=by
      have:=RdW.own (c:=⟨w,(Res.sl (wide m (.slice base k c)) xs E).fp⟩) (W:=[.sl (wide m (.slice base k c)) xs E]) (Find.here)
      refine this w ⟨Ext.refl _ _,by simpa using hS,fun b hb=>.inr (by simpa[fps]using hb),?_⟩
      simp only[fps,List.flatMap_cons,List.flatMap_nil,List.append_nil]
      cases base <;> simp[Res.fp,wide]
    have hfX:=fun q=>lV (P:=P) (hX.drew q) hxk
    have hcut:k+j≤grownCap w (k+j) c E:=by
      simp only[grownCap,Question.cut];omega
    have hzr:∃zs:List Value,Builtin.zeroCells z.cells (grownCap w (k+j) c E-(k+j))=zs.toArray∧zs.length=(grownCap w (k+j) c E-(k+j))*m:=
      ⟨(Builtin.zeroCells z.cells (grownCap w (k+j) c E-(k+j))).toList,by simp,by simp[Builtin.zeroCells,hzc]⟩
    obtain⟨zs,hzs,hzl⟩:=hzr
    have hcm:(grownCap w (k+j) c E-(k+j))*m+(k+j)*m=grownCap w (k+j) c E*m:=by rw[← Nat.add_mul];congr 1;omega
    refine⟨.slice (some ⟨w.heap.size,0,none⟩) (k+j) (grownCap w (k+j) c E),
      { w with drawn:=w.drawn+1,heap:=w.heap.push (.cells (xs++ys++zs).toArray E) },?_,?_,?_,.inr rfl⟩
    · have hfX':(Builtin.firstCells m k (Value.slice base k c)).run P w.drew = .ok xs.toArray w.drew:=by
        have:=hfX (w.drawn+1);simpa using this
      have hfY':(Builtin.firstCells m j (.slice a1 j c1)).run P w.drew = .ok ys.toArray w.drew:=by
        have:=hfY (w.drawn+1);simpa using this
      have hcells:xs.toArray++ys.toArray++Builtin.zeroCells z.cells (grownCap w (k+j) c E-(k+j))=(xs++ys++zs).toArray:=by rw[hzs];simp
      have hres:(Builtin.append_ #[t,t] ty #[Value.slice base k c,.slice a1 j c1]).run P w =
          .ok (.slice (some ⟨w.heap.size,0,none⟩) (k+j) (grownCap w (k+j) c E))
            (w.drew.alloc (.cells (xs.toArray++ys.toArray++Builtin.zeroCells z.cells (grownCap w (k+j) c E-(k+j))) E)):=by
        simp[Builtin.append_,hty,ar hs,Builtin.lenOf,hroom,h63i,h48,hti,Question.forced,hfX',hfY',hz0,newRow,grownCap,-List.append_toArray]
      rw[hcells]at hres
      exact hres
    · have hle:(k+j)*m≤grownCap w (k+j) c E*m:=Nat.mul_le_mul_right m hcut
      rw[Nat.add_mul]at hle hcm
      refine .inr ⟨w.heap.size,0,grownCap w (k+j) c E*m,[],zs,(0,0),by simp[wide,hxk,hyj,Nat.add_mul],by simp[hxk,hyj];exact hle,?_,rfl,?_,by simp⟩
      · simp[hxk,hyj,hzl];omega
      · simp
    · exact⟨rfl,rfl,rfl,by simp,fun q hq _=>by
        show(w.heap.push _)[q]?=_
        rw[Array.getElem?_push,if_neg (by omega)]⟩
section
variable {P:Program} {c:Cx} {n:Nn} {l:Sl} {W:List Res} {ops:Array Oper} {Q:Exit→Act→World→Prop} {rest:List Oper}
variable {d:Nat} {T:TypeId} {pos:String} {after:Array Edge}
theorem kx{x y:Operand}{s y0:Value}{kk:IntKind}{m:Nat}{xss yss:List (List Nat)}{t E:TypeId}{by':Nat}{R:List Res}(hx:ev l x=some s)(hy:ev l y=some y0)(hf:Find W (.sl (wide m s) (xss.flatten.map (N kk)) E) R)(hr:RdW c W (wide m y0) (yss.flatten.map (N kk)))
  (ht:P.underlying t=some (.slice E)) (hz:cE P E=some (LV kk (List.replicate m 0))) (hs:az P E=some m) (hb:lG P E=some by') (hm:0<m)
  (hxl:xss.flatten.length=xss.length*m) (hyl:yss.flatten.length=yss.length*m) (hj:0<yss.length)
  (hbd:(xss.length+yss.length)*by'≤140737488355328) (h63:xss.length+yss.length<9223372036854775808) (hn:Nat.blt d n.sz=true)
  (hk:∀s',Go c n ((d,s')::l) (.sl (wide m s') ((xss++yss).flatten.map (N kk)) E::R) (wpList P ops Q rest)):
  Go c n l W (wpList P ops Q (⟨some d,.call { callee:=.builtin .append,args:=#[x,y],argTypes:=#[t,t] },T,pos,after,none⟩::rest)):=
 ft rfl rfl hn (Φ:=fun u V=>V = .sl (wide m u) ((xss++yss).flatten.map (N kk)) E::R)
  (fun a w ha hw=>by
   have hY:=hr w hw
   have hX:=RdW.own hf w hw
   have hw:=hw.perm hf.perm
   obtain⟨a0,cap0,he0,_⟩:=hX.shape
   obtain⟨c0,hs0,_⟩:=fG (k:=xss.length) hm he0 (by rw[List.length_map];exact hxl)
   subst hs0
   obtain⟨a1,cap1,he1,_⟩:=hY.shape
   obtain⟨c1,hs1,_⟩:=fG (k:=yss.length) hm he1 (by rw[List.length_map];exact hyl)
   subst hs1
   obtain⟨s',w',h2,h3,h4,h5⟩:=nq (P:=P) (ty:=T) hm ht hz hs hb (by simp[LV,Value.cells]) (hw.holds _ (List.mem_cons_self ..)) hY (by rw[List.length_map];exact hxl) (by rw[List.length_map];exact hyl) (by intro v hv;simp only[List.mem_map]at hv;obtain⟨q,_,rfl⟩:=hv;rfl) hj hbd h63
   refine⟨s',w',_,by simp[execOp,ha.ev hx,ha.ev hy,resolve,invoke,builtin,h2],?_,rfl⟩
   have e:(xss++yss).flatten.map (N kk)=xss.flatten.map (N kk)++yss.flatten.map (N kk):=by simp
   rw[e]
   rcases h5 with h5 | h5
   ·exact hw.upd h5 h4 h3
   ·have hlt:=hw.lt
    have hn:=hw.nd
    simp only[fps,List.flatMap_cons]at hn hlt
    obtain⟨n1,n2,n3⟩:=List.nodup_append.1 hn
    refine⟨hw.ext.trans h4 (fun q hq=>hw.own q (by simp only[fps,List.flatMap_cons,List.mem_append];exact .inl hq)),?_,?_,?_⟩
    ·intro r hr
     rcases List.mem_cons.1 hr with rfl | hr
     ·exact h3
     ·exact Res.holds_congr (hw.holds r (List.mem_cons_of_mem _ hr)) fun b hb=>h4.block b (Res.fp_lt (hw.holds r (List.mem_cons_of_mem _ hr)) b hb) fun hb'=>n3 b hb' b (List.mem_flatMap.2 ⟨r,hr,hb⟩) rfl
    ·intro b hb
     simp only[fps,List.flatMap_cons,h5,List.mem_append,List.mem_singleton]at hb
     rcases hb with rfl | hb
     ·exact .inl hw.ext.size
     ·exact hw.own b (by simp only[fps,List.flatMap_cons,List.mem_append];exact .inr hb)
    ·simp only[fps,List.flatMap_cons,h5]
     refine List.nodup_append.2 ⟨by simp,n2,fun p hp q hq=>?_⟩
     simp only[List.mem_singleton]at hp;subst hp
     have:=hlt q (List.mem_append.2 (.inr hq));omega)
  (fun u V hV=>by subst hV;exact hk u)
theorem iD{φ:Act→World→Prop}(m:Nat)(T:TypeId)(hk:Go c n l (.sl (wide m (.slice none 0 0)) [] T::W) φ):Go c n l W φ:=
 jH T (by rw[yV]at hk;exact hk)
theorem RdW.slv{b k m:Nat}{kk:IntKind}{ys:List Nat}{U:TypeId}{R:List Res}(h:Find W (.blk b (LV kk ys) U) R)(hl:ys.length=k*m):RdW c W (wide m (slv b k)) (ys.map (N kk)):=by
 have:=RdW.arrAll (c:=c) h hl
 have e:wide m (L.slv b k)=fi b (k*m) 0 (k*m):=by
  simp[wide,fi]
 rw[e];exact this
theorem hJ{x:Operand}{s:Value}{m k:Nat}{xs:List Value}{t E:TypeId}{ts:List TypeId}(hx:ev l x=some s)(ht:P.underlying t=some (.slice E))(hr:RdW c W (wide m s) xs)(hm:0<m)(hk':xs.length=k*m)
  (hn:Nat.blt d n.sz=true) (hk:Go c n ((d,N .i64 k)::l) W (wpList P ops Q rest)):
  Go c n l W (wpList P ops Q (⟨some d,.call { callee:=.builtin .len,args:=#[x],argTypes:=(t::ts).toArray },T,pos,after,none⟩::rest)):=
 ax rfl rfl hn (fun a w ha hw=>by
  obtain⟨a0,cap,he,h1,h2,h3⟩:=(hr w hw).shape
  obtain⟨c0,hs0,_⟩:=fG (k:=k) hm he hk'
  subst hs0
  simp[execOp,ha.ev hx,resolve,invoke,builtin,Builtin.len_,run_underlying ht,goInt]) hk
theorem fh{x y:Operand}{s:Value}{i m k:Nat}{kk:IntKind}{xs:List Value}{t E:TypeId}(hx:ev l x=some s)(hy:ev l y=some (N kk i))(ht:P.underlying t=some (.slice E))(hz:az P E=some m)(hr:RdW c W (wide m s) xs)(hm:0<m)(hk':xs.length=k*m)(hi:i<k)
  (hn:Nat.blt d n.sz=true) (hk:Go c n ((d,.pointer (some (ea (wide m s) (i*m))))::l) W (wpList P ops Q rest)):Go c n l W (wpList P ops Q (⟨some d,.indexAddr t x y,T,pos,after,none⟩::rest)):=
 ax rfl rfl hn (fun a w ha hw=>by
  obtain⟨a0,cap,he,h1,h2,h3⟩:=(hr w hw).shape
  obtain⟨c0,hs0,_⟩:=fG (k:=k) hm he hk'
  subst hs0
  cases a0 with
  | none=>
   obtain⟨h,_⟩:=h2 rfl;subst h
   have:k*m=0:=by simpa using hk'.symm
   rcases Nat.mul_eq_zero.1 this with h | h <;> omega
  | some a1=>simp[execOp,ha.ev hx,ha.ev hy,Instr.indexAt,asIntOf,run_underlying ht,hi,ar hz,ea,wide]) hk
theorem Gu{w:World}{s:Value}{xs:List Value}(h:Rd w s xs)(hne:0<xs.length)(i j:Nat):(ea s i).add j=ea s (i+j):=by
 obtain⟨a0,cap,rfl,h1,h2,h3⟩:=h.shape
 cases a0 with
 | none=>obtain⟨h,_⟩:=h2 rfl;subst h;simp at hne
 | some a1=>
  have:=h3 a1 rfl
  obtain⟨b,o,sp⟩:=a1
  simp only at this;subst this
  simp only[ea,cv,Nat.add_assoc]
theorem eJ{x:Operand}{s:Value}{kk:IntKind}{i m:Nat}{xss:List (List Nat)}{zs:List Nat}{A:TypeId}(hx:ev l x=some (.pointer (some (ea s (i*m)))))(hs:cM P A=true)(hz:az P A=some m)(hr:RdW c W s (xss.flatten.map (N kk)))
  (hv:∀v∈xss,v.length=m) (hi:xss[i]?=some zs) (hm:0<m)
  (hn:Nat.blt d n.sz=true) (hk:Go c n ((d,LV kk zs)::l) W (wpList P ops Q rest)):
  Go c n l W (wpList P ops Q (⟨some d,.load A x,T,pos,after,none⟩::rest)):=
 ax rfl rfl hn (fun a w ha hw=>by
  have hzl:zs.length=m:=hv zs (List.mem_of_getElem? hi)
  have hne:0<(xss.flatten.map (N kk)).length:=by
   have hmem:=List.mem_of_getElem? hi
   cases hq:xss.flatten with
   | nil=>
    have:=List.flatten_eq_nil_iff.1 hq zs hmem
    subst this;simp at hzl;omega
   | cons a r=>simp
  have hp:=ab.nth hv hi
  have hl:(loadCells (ea s (i*m)) (zs.map (N kk)).length).run P w = .ok (zs.map (N kk)).toArray w:=
   run_loadCells_list (P:=P) w _ (zs.map (N kk)) (fun j v hv=>by
    rw[Gu (hr w hw) hne]
    refine(hr w hw).cells _ v ?_
    rw[List.getElem?_map,Option.map_eq_some_iff]at hv
    obtain⟨u,hu,rfl⟩:=hv
    rw[List.getElem?_map,hp.get j u hu];rfl)
  rw[List.length_map,hzl]at hl
  simp[execOp,ha.ev hx,Instr.loadAt,Instr.sureAddr,loadVar,cD hs,ar hz,hl,LV]) hk
end
section
attribute [local irreducible] Code.wp wpList Af bodyPost L.Go ab
open Num
attribute [local simp] ae
theorem KR{a b:Prop}(k:b)(h:Rm b→a:=by intro k;(first|refine Z01 ?_|refine Z02 ?_|refine Z03 ?_|refine Z04 ?_|refine Z05 ?_|refine Z06 ?_|refine Z07 ?_|refine Z08 ?_|refine Z09 ?_|refine Z10 ?_|refine Z11 ?_|refine Z12 ?_|refine Z13 ?_|refine Z14 ?_|refine Z17 ?_|refine Z18 ?_|refine Z19 ?_|refine Z20 ?_|refine Z21 ?_|refine Z36 ?_|refine Z49 ?_|refine Z50 ?_|refine Z51 ?_|refine Z52 ?_|refine Z62 ?_|refine Z63 ?_);exact k.h):a:=h ⟨k⟩
theorem V4{a b:Prop}(k:b)(h:Rm b→a:=by intro k;(first|refine Z01 ?_|refine Z02 ?_|refine Z17 ?_|refine Z18 ?_|refine Z19 ?_|refine Z20 ?_|refine Z21 ?_|refine Z36 ?_|refine Z49 ?_|refine Z50 ?_|refine Z62 ?_|refine Z63 ?_);exact k.h):a:=h ⟨k⟩
theorem V5{a b:Prop}(k:b)(h:Rm b→a:=by intro k;refine R.Zpp (by rfl) (by intro _ _ _;(first|refine Z20 ?_|refine Z21 ?_|refine Z62 ?_);exact Zq) ?_;exact k.h):a:=h ⟨k⟩
theorem NC{S1 a b:Prop}(s1:S1)(k:b)(h:S1→Rm b→a:=by intro s1 k;refine R.Zpp (by rfl) (by intro _ _ _;refine ah (by rfl) (by rfl) (by rfl) s1 (RdW.own fd) (by rfl) ?_;exact Zq) ?_;exact k.h):a:=h s1 ⟨k⟩
theorem V6{a b:Prop}(k:b)(h:Rm b→a:=by intro k;refine R.Zpn (by rfl) (by intro _ _ _;(first|refine Z84 fun _=>?_|refine Z85 fun _=>?_);exact R.Zpx) ?_;exact k.h):a:=h ⟨k⟩
set_option maxHeartbeats 8000000 in
theorem D1(s1 s2:Value)(m d:List Nat)(k:Nat)(hm:Lt 256 m)(hd:Lt 256 d)(hl1:m.length<1073741824)(h1:1≤d.length)(h2:d.length≤255)(hk1:1≤k)(hk:k≤63):
  Spec Tryz.prog 21 [s1,s2,N .i64 k] (fun w=>Rd w s1 (m.map (N .u8))∧Rd w s2 (d.map (N .u8))) [] (fun v W=>∃x,v = .tuple [x,N .i64 0].toArray∧W=[.sl (wide 12 x) ((j2 (fk m d (128*k)) k).flatten.map (N .u64)) 34]):=by
 refine ad Tryz.func21 rfl rfl rfl fun w hr=>?_
 have hr1:=RdC.mk0 hr.1
 have hr2:=RdC.mk0 hr.2
 have hxl:=FF m d (128*k)
 have hxb:=JY m d (128*k)
 repeat (first|refine y_8 ?_|(refine aw (by rfl) (by rfl) (by rfl) (Bd s1 s2 m d (128*k) hm hd hl1 h1 h2 (by omega) (by omega)) .nil (fun w hw=>⟨RdW.old hr1 w hw,RdW.old hr2 w hw⟩) (by rfl) ?_;rintro _ _ ⟨x,rfl,rfl⟩)|refine KR ?_|refine Z84 fun _=>?_|refine Z85 fun _=>?_)
 generalize fk m d (128*k)=b at *
 refine iD 12 34 ?_
 refine ay (ι:=Nat×Value×Value) (fun q=>q.1≤k) (fun q=>[(9,q.2.1),(10,N .i64 0),(11,q.2.2)]) (fun q=>[.sl (wide 12 q.2.2) ((j2 b q.1).flatten.map (N .u64)) 34,.sl q.2.1 ((b.drop (128*q.1)).map (N .u8)) 5]) (fun q=>k-q.1) (0,x,.slice none 0 0) (by simp) sbq (by simp only[QQ];exact sw) ?_
 rintro⟨i,v,u⟩ hi
 simp only at hi ⊢
 have hdl:(b.drop (128*i)).length=128*k-128*i:=by rw[List.length_drop,hxl]
 have hfs:=sZ b i
 have hdb:Lt 256 (b.drop (128*i)):=fun y hy=>hxb y (List.mem_of_mem_drop hy)
 have hnx:b.drop (128*(i+1))=(b.drop (128*i)).drop 128:=by rw[List.drop_drop];congr 1
 have hfl:=sY b i
 have hfl':=j3 b i
 generalize b.drop (128*i)=e at *
 generalize hL:j2 b i=L at *
 repeat (first|refine KR ?_|refine Z84 fun _=>?_|refine Z85 fun _=>?_)
 refine an (by rfl) (fun h=>?_) (fun h=>?_)
 ·rw[hdl]at h
  have ha:(e.take 64).length=64:=by rw[List.length_take,hdl];omega
  have hc:((e.take 128).drop 64).length=64:=by rw[List.length_drop,List.length_take,hdl];omega
  have hab:Lt 256 (e.take 64):=fun y hy=>hdb y (List.mem_of_mem_take hy)
  have hcb:Lt 256 ((e.take 128).drop 64):=fun y hy=>hdb y (List.mem_of_mem_take (List.mem_of_mem_drop hy))
  have hw1:=fun s=>ie s (e.take 64) hab (by omega)
  have hw2:=fun s=>ie s ((e.take 128).drop 64) hcb (by omega)
  rw[ha]at hw1
  rw[hc]at hw2
  have hv1:=fun s=>Ct s (e.take 64) hab ha
  have hv2:=fun s=>Ct s ((e.take 128).drop 64) hcb hc
  have hfe:=BM e
  have hE:∀y∈[fel e],y.length=12:=fun y hy=>by rw[List.mem_singleton.1 hy];exact BN _
  have hE1:=qI hE
  have hs1:∀(c:Cx)(W:List Res),RdW c W v (e.map (N .u8))→RdW c W (sub v 0 64) ((e.take 64).map (N .u8)):=fun c W h=>RdW.subN h (lo:=0) (hi:=64) (by omega) (by omega)
  have hs2:∀(c:Cx)(W:List Res),RdW c W v (e.map (N .u8))→RdW c W (sub v 64 128) (((e.take 128).drop 64).map (N .u8)):=fun c W h=>RdW.subN h (lo:=64) (hi:=128) (by omega) (by omega)
  have hbd:(L.length+[fel e].length)*96≤140737488355328:=by rw[hfl'];simp;omega
  have hbd2:L.length+[fel e].length<9223372036854775808:=by rw[hfl'];simp;omega
  have hone:0<[fel e].length:=Nat.one_pos
  repeat (first|refine KR ?_|refine Z84 fun _=>?_|refine Z85 fun _=>?_)
  refine R.af [0,1,5,2,6,3,7,4,8,9,10,11,12] (by rfl) ?_
  repeat (first|(refine R.Zpf (by rfl) (by intro _ _ _;(first|(refine cA (by rfl) (by rfl) (by rfl) (by rfl) (by simp;done) (by simp;done) (by rfl) ?_;rw[← hfe])|refine V4 ?_);exact Zq) ?_)|refine V5 ?_|refine NC (hv1 _) ?_|refine NC (hv2 _) ?_|(refine R.Zpd (by rfl) (by intro _ _ _;(refine av (m:=12) (kk:=.u64) (vss:=[fel e]) (by rfl) (by rfl) (by rfl) (by rfl) (by rfl) (by rfl) (by rfl) hE (by rfl) (by rfl) fun _=>?_);exact R.dO) fun _=>?_)|(refine R.TK [4,7,8,9,10,11,12] [8,3,4,9,10,11,12] (by rfl) (by rfl) (by intro _ _ _;(refine aw (by rfl) (by rfl) (by rfl) (hw1 _) .nil (hs1 _ _ (RdW.own fd)) (by rfl) ?_;rintro x1 _ rfl);exact R.wD) (by intro _ _ _;(refine aw (by rfl) (by rfl) (by rfl) (hw2 _) .nil (hs2 _ _ (RdW.own fd)) (by rfl) ?_;rintro x2 _ rfl);exact R.wD) (fun _=>?_) (fun _=>?_))|(refine R.Zpc (by rfl) (by intro _ _ _;(refine aw (by rfl) (by rfl) (by rfl) (hw1 _) .nil (hs1 _ _ (RdW.own fd)) (by rfl) ?_;rintro x1 _ rfl);exact R.wD) fun _=>?_)|(refine R.Zpc (by rfl) (by intro _ _ _;(refine aw (by rfl) (by rfl) (by rfl) (hw2 _) .nil (hs2 _ _ (RdW.own fd)) (by rfl) ?_;rintro x2 _ rfl);exact R.wD) fun _=>?_)|(refine V6 ?_;intro _)|(refine R.Zpn (by rfl) (by intro _ _ _;(refine kx (m:=12) (kk:=.u64) (xss:=L) (yss:=[fel e]) (by rfl) (by rfl) fd (RdW.slv fd hE1) (by rfl) (by rfl) (by rfl) (by rfl) (by decide) hfl hE1 hone hbd hbd2 (by rfl) fun _=>?_;rw[← hfs]);exact R.Zpx) fun _=>?_))
  all_goals
   repeat (first|(refine R.Zpf (by rfl) (by intro _ _ _;(first|(refine cA (by rfl) (by rfl) (by rfl) (by rfl) (by simp;done) (by simp;done) (by rfl) ?_;rw[← hfe])|refine V4 ?_);exact Zq) ?_)|refine V5 ?_|refine NC (hv1 _) ?_|refine NC (hv2 _) ?_|(refine R.Zpd (by rfl) (by intro _ _ _;(refine av (m:=12) (kk:=.u64) (vss:=[fel e]) (by rfl) (by rfl) (by rfl) (by rfl) (by rfl) (by rfl) (by rfl) hE (by rfl) (by rfl) fun _=>?_);exact R.dO) fun _=>?_)|(refine R.TK [4,7,8,9,10,11,12] [8,3,4,9,10,11,12] (by rfl) (by rfl) (by intro _ _ _;(refine aw (by rfl) (by rfl) (by rfl) (hw1 _) .nil (hs1 _ _ (RdW.own fd)) (by rfl) ?_;rintro x1 _ rfl);exact R.wD) (by intro _ _ _;(refine aw (by rfl) (by rfl) (by rfl) (hw2 _) .nil (hs2 _ _ (RdW.own fd)) (by rfl) ?_;rintro x2 _ rfl);exact R.wD) (fun _=>?_) (fun _=>?_))|(refine R.Zpc (by rfl) (by intro _ _ _;(refine aw (by rfl) (by rfl) (by rfl) (hw1 _) .nil (hs1 _ _ (RdW.own fd)) (by rfl) ?_;rintro x1 _ rfl);exact R.wD) fun _=>?_)|(refine R.Zpc (by rfl) (by intro _ _ _;(refine aw (by rfl) (by rfl) (by rfl) (hw2 _) .nil (hs2 _ _ (RdW.own fd)) (by rfl) ?_;rintro x2 _ rfl);exact R.wD) fun _=>?_)|(refine V6 ?_;intro _)|(refine R.Zpn (by rfl) (by intro _ _ _;(refine kx (m:=12) (kk:=.u64) (xss:=L) (yss:=[fel e]) (by rfl) (by rfl) fd (RdW.slv fd hE1) (by rfl) (by rfl) (by rfl) (by rfl) (by decide) hfl hE1 hone hbd hbd2 (by rfl) fun _=>?_;rw[← hfs]);exact R.Zpx) fun _=>?_))
  all_goals refine R.Zp0 ?_
  all_goals
   repeat (first|refine KR ?_|refine Z84 fun _=>?_|refine Z85 fun _=>?_)
   rename_i v9
   refine nE (s:=v) 128 (List.map (N .u8) e).length fd (by rw[List.length_map];omega) (Nat.le_refl _) ?_
   rw[List.take_length,← List.map_drop,← hnx]
   exact ao (i+1,sub v 128 _,v9) (by simp only;omega) (by simp only;omega) sbq sw
 ·rw[hdl]at h
  have hik:i=k:=by omega
  subst hik
  subst hL
  repeat (first|refine KR ?_|refine Z84 fun _=>?_|refine Z85 fun _=>?_)
  exact Ze2 fun _ hw=>aa hw (Wout:=[.sl (wide 12 u) ((j2 b i).flatten.map (N .u64)) 34]) (by exact sw) ⟨_,rfl,rfl⟩
end
end Go.Proofs.YtndhfbecpghinaaGreat.L
namespace Go.Proofs.YtndhfbecpghinaaGreat.Num
theorem RC{a b p q:Nat}(h:a<p):(a+p*b)%(p*q)=a+p*(b%q):=by
 rw[Nat.mod_mul,Nat.add_mul_mod_self_left,Nat.mod_eq_of_lt h,Nat.add_mul_div_left _ _ (Nat.lt_of_le_of_lt (Nat.zero_le _) h),Nat.div_eq_of_lt h,Nat.zero_add]
theorem AT{w:Nat}(hw:w≤63)(X i:Nat):
  ((X/W^i%W) >>> w+(X/W^(i+1)%W) <<< (64-w)%18446744073709551616)%18446744073709551616=X/2^w/W^i%W:=by
 have e1:X/2^w/W^i=X/W^i/2^w:=by rw[Nat.div_div_eq_div_mul,Nat.mul_comm,← Nat.div_div_eq_div_mul]
 have e2:X/W^(i+1)=X/W^i/W:=by rw[Nat.pow_succ,Nat.div_div_eq_div_mul]
 rw[e1,e2,Nat.shiftRight_eq_div_pow,Nat.shiftLeft_eq]
 generalize X/W^i=Y
 have hW:W=2^w*2^(64-w):=by rw[← Nat.pow_add,W_2,show w+(64-w)=64 by omega]
 have hW':(18446744073709551616:Nat)=2^(64-w)*2^w:=by rw[← Nat.pow_add,show 64-w+w=64 by omega]
 have hY:=Nat.mod_add_div Y W
 have ha:=Nat.two_pow_pos w
 have hb:=Nat.two_pow_pos (64-w)
 have h3:Y/W%W*2^(64-w)%18446744073709551616=2^(64-w)*(Y/W%2^w):=by
  rw[hW',Nat.mul_comm (Y/W%W),Nat.mul_mod_mul_left,hW,Nat.mod_mul_right_mod]
 have h4:Y/2^w=Y%W/2^w+2^(64-w)*(Y/W):=by
  conv=>lhs;rw[← hY]
  rw[hW,Nat.mul_assoc,Nat.add_mul_div_left _ _ ha,← hW]
 have h5:Y%W/2^w<2^(64-w):=by
  refine Nat.div_lt_of_lt_mul ?_
  rw[← hW];exact Nat.mod_lt _ mm
 have h6:Y/2^w%W=Y%W/2^w+2^(64-w)*(Y/W%2^w):=by
  rw[h4]
  have:=RC (b:=Y/W) (q:=2^w) h5
  rwa [Nat.mul_comm (2^(64-w)) (2^w),← hW]at this
 rw[h3,h6]
 refine Nat.mod_eq_of_lt ?_
 have h7:Y/W%2^w<2^w:=Nat.mod_lt _ ha
 have h8:=Nat.mul_le_mul_left (2^(64-w)) (show Y/W%2^w+1≤2^w from h7)
 rw[← hW',Nat.mul_add]at h8
 omega
end Go.Proofs.YtndhfbecpghinaaGreat.Num
namespace Go.Proofs.YtndhfbecpghinaaGreat.L.R
open Go Go.Proofs.YtndhfbecpghinaaGreat.L
section
variable {P:Program} {c:Cx} {n:Nn} {os:List Oper} {K:Act→World→Prop} {E:En} {W:List Res} {l:Sl} {i d:Nat} {o:Oper} {rest:List Nat}
def OpX{X:Type}(P:Program)(c:Cx)(n:Nn)(W:List Res)(G:X→Value)(F:X→List Res)(d:Nat)(lr:Sl)(o:Oper):Prop:=
 ∀w0 m,SatW c W w0→Go ⟨w0,fps W⟩ n (lr++m) W (wpList P #[] (fun e a w=>e = .normal∧∃b,SatA n ((d,G b)::(lr++m)) a∧SatW ⟨w0,fps W⟩ (F b++W) w) [o])
structure Mk {X:Type} (P:Program) (c:Cx) (n:Nn) (os:List Oper) (E:En) (W:List Res) (l:Sl) (G:X→Value) (F:X→List Res) (i d:Nat) (o:Oper):Prop where
 ho:os[i]?=some o
 h:OpX P c n W G F d (bR os.toArray o l) (noG o)
 hi:ip i E=true
 hd:o.dst=some d
 hn:Nat.blt d n.sz=true
 hg:bO os.toArray l o=some true
 hc:io os (E++[(i,.alc)])=true
theorem Mk.mk'{X:Type}{G:X→Value}{F:X→List Res}(ho:os[i]?=some o)(h:OpX P c n W G F d (bR os.toArray o l) (noG o))
  (hi:ip i E=true:=by rfl) (hd:o.dst=some d:=by rfl) (hn:Nat.blt d n.sz=true:=by rfl) (hg:bO os.toArray l o=some true:=by rfl)
  (hc:io os (E++[(i,.alc)])=true:=by rfl):Mk P c n os E W l G F i d o:=⟨ho,h,hi,hd,hn,hg,hc⟩
def Mks(P:Program)(c:Cx)(n:Nn)(os:List Oper)(K:Act→World→Prop)(E:En)(W:List Res)(l:Sl)(i:Nat)(nx:List Nat):Prop:=
 ∃(X:Type)(G:X→Value)(F:X→List Res)(d:Nat)(o:Oper),Mk P c n os E W l G F i d o∧∀b,QF P c n os K (E++[(i,.alc)]) (F b++W) ((d,G b)::l) nx
theorem Mks.mk{X:Type}{G:X→Value}{F:X→List Res}{nx:List Nat}(h:Mk P c n os E W l G F i d o)(hr:∀b,QF P c n os K (E++[(i,.alc)]) (F b++W) ((d,G b)::l) nx):Mks P c n os K E W l i nx:=⟨X,G,F,d,o,h,hr⟩
theorem Zpm{is:List Nat}{nx:Nat→List Nat}(hne:is≠[])(h:∀i∈is,Mks P c n os K E W l i (nx i))(hdesc:fX os is rest E=true):QF P c n os K E W l (is++rest):=by
 have hch:∃o:Nat→Oper,∀i∈is,os[i]?=some (o i):=by
  refine⟨fun i=>(os[i]?).getD ⟨none,.move (.const undef),0, "",#[],none⟩,fun i hi=>?_⟩
  obtain⟨X,G,F,d,o,h1,_⟩:=h i hi
  show os[i]?=some ((os[i]?).getD _)
  rw[h1.ho];rfl
 obtain⟨o,ho⟩:=hch
 refine QF.nd (nx:=nx) (o:=o) (kd:=fun _=>.alc)
  (Φ:=fun i u W'=>∃(X:Type)(G:X→Value)(F:X→List Res)(d:Nat),Mk P c n os E W l G F i d (o i)∧(∀b,QF P c n os K (E++[(i,.alc)]) (F b++W) ((d,G b)::l) (nx i))∧∃b,u=some (d,G b)∧W'=F b++W)
  hne ?_ ho ?_ hdesc ?_ ?_ ?_ ?_
 ·intro i hi
  obtain⟨X,G,F,d,o',h1,_⟩:=h i hi
  exact h1.hi
 ·intro i hi
  obtain⟨X,G,F,d,o',h1,_⟩:=h i hi
  exact h1.hc
 ·rintro i hi u W' ⟨X,G,F,d,h1,_,b,rfl,rfl⟩
  exact⟨h1.hd,fun d' hd'=>by have:=h1.hd;rw[hd']at this;cases this;exact h1.hn,.inr ⟨rfl,F b,rfl⟩⟩
 ·intro i hi
  obtain⟨X,G,F,d,o',h1,_⟩:=h i hi
  have e:=h1.ho
  rw[ho i hi]at e;cases e
  exact h1.hg
 ·intro i hi
  obtain⟨X,G,F,d,o',h1,h2⟩:=h i hi
  have e:=h1.ho
  rw[ho i hi]at e;cases e
  exact fun w0 m hw a w ha hw'=>bE (h1.h w0 m hw a w ha hw') rfl (fun _ _ _ h=>h.1) fun a w ⟨q1,b,q2,q3⟩=>⟨q1,some (d,G b),_,⟨X,G,F,d,h1,h2,b,rfl,rfl⟩,q2,q3⟩
 ·rintro i hi u W' ⟨X,G,F,d,_,h2,b,rfl,rfl⟩
  exact h2 b
theorem zI(n1 n2:List Nat){j:Nat}(h1:Mks P c n os K E W l i n1)(h2:Mks P c n os K E W l j n2)(hij:Nat.beq i j=false:=by rfl)(hdesc:fX os [i,j] rest E=true:=by rfl):QF P c n os K E W l (i::j::rest):=by
 have hne:¬j=i:=fun h=>by subst h;rw[Nat.beq_refl]at hij;cases hij
 refine Zpm (is:=[i,j]) (nx:=fun k=>if k=i then n1 else n2) (by simp) (two ?_ ?_) hdesc
 ·simp only[if_true];exact h1
 ·simp only[if_neg hne];exact h2
theorem Wl(n1 n2 n3:List Nat){j k:Nat}(h1:Mks P c n os K E W l i n1)(h2:Mks P c n os K E W l j n2)(h3:Mks P c n os K E W l k n3)(hij:Nat.beq i j=false:=by rfl)(hik:Nat.beq i k=false:=by rfl)(hjk:Nat.beq j k=false:=by rfl)
  (hdesc:fX os [i,j,k] rest E=true:=by rfl):QF P c n os K E W l (i::j::k::rest):=by
 have hne:¬j=i:=fun h=>by subst h;rw[Nat.beq_refl]at hij;cases hij
 have hne2:¬k=i:=fun h=>by subst h;rw[Nat.beq_refl]at hik;cases hik
 have hne3:¬k=j:=fun h=>by subst h;rw[Nat.beq_refl]at hjk;cases hjk
 refine Zpm (is:=[i,j,k]) (nx:=fun q=>if q=i then n1 else if q=j then n2 else n3) (by simp) (fun q hq=>?_) hdesc
 rcases List.mem_cons.1 hq with rfl | hq
 ·simp only[if_true];exact h1
 rcases List.mem_cons.1 hq with rfl | hq
 ·simp only[if_neg hne,if_true];exact h2
 ·have:=List.mem_singleton.1 hq
  subst this
  simp only[if_neg hne2,if_neg hne3];exact h3
theorem FV{j:Nat}(h1:Mks P c n os K E W l i (j::rest))(h2:Mks P c n os K E W l j (i::rest))(hij:Nat.beq i j=false:=by rfl)(hdesc:fX os [i,j] rest E=true:=by rfl):QF P c n os K E W l (i::j::rest):=zI _ _ h1 h2 hij hdesc
theorem TL{j k:Nat}(h1:Mks P c n os K E W l i (j::k::rest))(h2:Mks P c n os K E W l j (i::k::rest))(h3:Mks P c n os K E W l k (i::j::rest))(hij:Nat.beq i j=false:=by rfl)(hik:Nat.beq i k=false:=by rfl)(hjk:Nat.beq j k=false:=by rfl)
  (hdesc:fX os [i,j,k] rest E=true:=by rfl):QF P c n os K E W l (i::j::k::rest):=Wl _ _ _ h1 h2 h3 hij hik hjk hdesc
theorem iH{b:Nat}{v:Value}{T:TypeId}{L:Sl}:
  Go c n ((d,pt b 0)::L) (.blk b v T::W) (wpList P #[] (fun e a w=>e = .normal∧∃b,SatA n ((d,(fun b=>pt b 0) b)::L) a∧SatW c ((fun b=>[.blk b v T]) b++W) w) []):=
 fun _ _ ha hw=>wpList_nil ⟨rfl,b,ha,hw⟩
theorem iI{v:Value}{xs:List Value}{T:TypeId}{L:Sl}:
  Go c n ((d,v)::L) (.sl v xs T::W) (wpList P #[] (fun e a w=>e = .normal∧∃v,SatA n ((d,(fun v=>v) v)::L) a∧SatW c ((fun v=>[.sl v xs T]) v++W) w) []):=
 fun _ _ ha hw=>wpList_nil ⟨rfl,v,ha,hw⟩
end
end Go.Proofs.YtndhfbecpghinaaGreat.L.R
namespace Go.Proofs.YtndhfbecpghinaaGreat.L
open Go
section
variable {P:Program} {c:Cx} {n:Nn} {l:Sl} {W:List Res} {x:Code} {Q:Exit→Act→World→Prop}
theorem nu(S:Nat→Sl)(R:Nat→List Res)(hK:∀a,Go c n (S a) (R a) (Q .normal))(h:(∀a,Go c n (S a) (R a) (Q .normal))→Go c n l W (x.wp P Q)):Go c n l W (x.wp P Q):=h hK
theorem CL(S:Nat→Nat→Sl)(R:Nat→Nat→List Res)(hK:∀a b,Go c n (S a b) (R a b) (Q .normal))(h:(∀a b,Go c n (S a b) (R a b) (Q .normal))→Go c n l W (x.wp P Q)):Go c n l W (x.wp P Q):=h hK
theorem M0(S:Nat→Nat→Nat→Sl)(R:Nat→Nat→Nat→List Res)(hK:∀a b d,Go c n (S a b d) (R a b d) (Q .normal))(h:(∀a b d,Go c n (S a b d) (R a b d) (Q .normal))→Go c n l W (x.wp P Q)):Go c n l W (x.wp P Q):=h hK
end
end Go.Proofs.YtndhfbecpghinaaGreat.L
namespace Go.Proofs.YtndhfbecpghinaaGreat.L
open Go Go.Proofs
set_option maxRecDepth 100000
@[irreducible] def GL(ys:List Nat)(i:Bool):Value:=.agg (ys.map (N .u64)++[Value.bool i]).toArray
theorem dx(ys:List Nat)(i:Bool):GL ys i = .agg (ys.map (N .u64)++[Value.bool i]).toArray:=by unfold GL;rfl
theorem wx(ys:List Nat)(i:Bool):(GL ys i).cells=(ys.map (N .u64)++[Value.bool i]).toArray:=by rw[dx];rfl
inductive FillsV (pl:List (Nat×Nat)):List Value→List (Nat×Value)→List Value→Prop
 | nil {ys:List Value}:FillsV pl ys [] ys
 | cons {pre old post out:List Value} {i:Nat} {v:Value} {rest:List (Nat×Value)} (hp:pl[i]?=some (pre.length,old.length)) (hz:v.cells.size=old.length) (h:FillsV pl (pre++v.cells.toList++post) rest out):
   FillsV pl (pre++old++post) ((i,v)::rest) out
theorem QS{pl:List (Nat×Nat)}{ys out:List Value}{ps:List (Nat×Value)}(h:FillsV pl ys ps out):
  Instr.fill (pl.toArray[·]?) ys.toArray ps=some out.toArray:=by
 induction h with
 | nil=>rfl
 | cons hp hz h ih=>
  rename_i pre old post out i v rest
  have e:=kJ (place:=(pl.toArray[·]?)) (i:=i) (v:=v) (rest:=rest) (pre:=pre) (old:=old) (post:=post) (by simpa using hp) hz
  rw[e]
  exact ih
section
variable {P:Program}
end
section
variable {P:Program} {c:Cx} {n:Nn} {l:Sl} {W:List Res} {ops:Array Oper} {Q:Exit→Act→World→Prop} {rest:List Oper}
variable {d:Nat} {T:TypeId} {pos:String} {after:Array Edge}
def Rs(kk:IntKind):Operand→Option Nat
 | .const (.int k (.ofNat n))=>if k=kk then some n else none
 | _=>none
def LW(kk:IntKind):List (Nat×Operand)→Option (List Nat)
 | []=>some []
 | p::r=>match Rs kk p.2,LW kk r with
  | some n,some ns=>some (n::ns)
  | _,_=>none
theorem LU{kk:IntKind}{o:Operand}{n:Nat}(h:Rs kk o=some n):ev l o=some (N kk n):=by
 unfold Rs at h
 split at h
 ·split at h
  ·rename_i hk
   cases h
   subst hk
   rfl
  ·cases h
 ·cases h
theorem xD{kk:IntKind}:∀{ps:List (Nat×Operand)}{vs:List Nat},LW kk ps=some vs→evs l (ps.map (·.2))=some (vs.map (N kk))
 | [],vs,h=>by
  cases h;rfl
 | p::r,vs,h=>by
  unfold LW at h
  split at h
  ·rename_i n ns h1 h2
   cases h
   simp only[List.map_cons,evs,LU h1,xD h2]
  ·cases h
theorem oy{t E:TypeId}{m:Nat}{ps:List (Nat×Operand)}{kk:IntKind}{vs:List Nat}(ht:P.underlying t=some (.array m E))(hz:cE P t=some (LV kk (List.replicate m 0)))(hs:az P E=some 1)
  (hq:Seq 0 ps=true) (hv:LW kk ps=some vs) (hl:ps.length=vs.length) (hm:Nat.ble vs.length m=true) (hn:Nat.blt d n.sz=true)
  (hk:Go c n ((d,LV kk (vs++List.replicate (m-vs.length) 0))::l) W (wpList P ops Q rest)):
  Go c n l W (wpList P ops Q (⟨some d,.build t ps.toArray,T,pos,after,none⟩::rest)):=bn ht hz hs hq hl hm (xD hv) hn hk
theorem oz{t:TypeId}{fs:Array Field}{pl:List (Nat×Nat)}{z out:List Value}{is:List Nat}{xs:List Operand}{vs:List Value}(ht:P.underlying t=some (.struct fs))(hpl:jU P fs.toList=some pl)(hz:cE P t=some (.agg z.toArray))
  (hv:evs l xs=some vs) (hf:FillsV pl z (is.zip vs) out) (hn:Nat.blt d n.sz=true)
  (hk:Go c n ((d,.agg out.toArray)::l) W (wpList P ops Q rest)):Go c n l W (wpList P ops Q (⟨some d,.build t (is.zip xs).toArray,T,pos,after,none⟩::rest)):=
 ax rfl rfl hn (fun a w ha hw=>by
  have he:((is.zip xs).map fun(p:Nat×Operand)=>(p.1,a.eval p.2))=is.zip vs:=by
   have h1:xs.map a.eval=vs:=ha.evs hv
   have h2:(is.zip xs).map (fun(p:Nat×Operand)=>(p.1,a.eval p.2))=is.zip (xs.map a.eval):=by rw[List.zip_map_right];rfl
   rw[h2,h1]
  have hpp:(fs.mapM fun(f:Field)=>(do let s ← sizeOf f.type;pure (f.offset,s):Sem (Nat×Nat))).run P w = .ok pl.toArray w:=CE hpl
  have hff:=QS hf
  rw[← he]at hff
  simp only[execOp,Instr.build,Sem.run_bind,run_underlying ht,cj hz,hpp,Result.andThen_ok,List.map_toArray,Value.cells]
  rw[hff]
  rfl) hk
theorem tT{t:TypeId}{fs:Array Field}{m:Nat}{xs ys:List Nat}{x y:Operand}(ht:P.underlying t=some (.struct fs))(hpl:jU P fs.toList=some [(0,m),(m,m),(m+m,1)])(hz:cE P t=some (GL (List.replicate (m+m) 0) false))
  (hv:evs l [x,y]=some [LV .u64 xs,LV .u64 ys]) (h1:xs.length=m) (h2:ys.length=m) (hn:Nat.blt d n.sz=true)
  (hk:Go c n ((d,GL (xs++ys) false)::l) W (wpList P ops Q rest)):Go c n l W (wpList P ops Q (⟨some d,.build t #[(0,x),(1,y)],T,pos,after,none⟩::rest)):=
 oz (is:=[0,1]) (xs:=[x,y]) (vs:=[LV .u64 xs,LV .u64 ys]) (z:=List.replicate m (N .u64 0)++List.replicate m (N .u64 0)++[Value.bool false]) (out:=xs.map (N .u64)++ys.map (N .u64)++[Value.bool false]) ht hpl (by
  rw[hz,dx,List.map_replicate,List.replicate_append_replicate]) hv (by
  have e:List.replicate m (N .u64 0)++List.replicate m (N .u64 0)++[Value.bool false]=[]++List.replicate m (N .u64 0)++(List.replicate m (N .u64 0)++[Value.bool false]):=by rw[List.nil_append,List.append_assoc]
  rw[e]
  refine .cons (by simp) (by simpa[LV,Value.cells]using h1) ?_
  have e2:[]++(LV .u64 xs).cells.toList++(List.replicate m (N .u64 0)++[Value.bool false])=xs.map (N .u64)++List.replicate m (N .u64 0)++[Value.bool false]:=by simp[LV,Value.cells]
  rw[e2]
  refine .cons (by simp[h1]) (by simpa[LV,Value.cells]using h2) ?_
  have e3:(LV .u64 ys).cells.toList=ys.map (N .u64):=by simp[LV,Value.cells]
  rw[e3]
  exact .nil) hn (by rw[dx,List.map_append]at hk;exact hk)
theorem rT{t:TypeId}{fs:Array Field}{m:Nat}{x:Operand}{i:Bool}(ht:P.underlying t=some (.struct fs))(hpl:jU P fs.toList=some [(0,m),(m,m),(m+m,1)])(hz:cE P t=some (GL (List.replicate (m+m) 0) false))
  (hv:evs l [x]=some [Value.bool i]) (hn:Nat.blt d n.sz=true)
  (hk:Go c n ((d,GL (List.replicate (m+m) 0) i)::l) W (wpList P ops Q rest)):Go c n l W (wpList P ops Q (⟨some d,.build t #[(2,x)],T,pos,after,none⟩::rest)):=
 oz (is:=[2]) (xs:=[x]) (vs:=[Value.bool i]) (z:=(List.replicate (m+m) 0).map (N .u64)++[Value.bool false]++[]) (out:=(List.replicate (m+m) 0).map (N .u64)++[Value.bool i]++[]) ht hpl (by
  rw[hz,dx];simp) hv (by
  refine .cons (by simp) (by simp[Value.cells]) ?_
  have e3:(Value.bool i).cells.toList=[Value.bool i]:=by simp[Value.cells]
  rw[e3]
  exact .nil) hn (by rw[dx]at hk;simpa using hk)
theorem eK{x y:Operand}{b m:Nat}{ys zs:List Nat}{i j:Bool}{E U:TypeId}{R:List Res}(hx:ev l x=some (pt b 0))(hy:ev l y=some (GL zs j))(hf:Find W (.blk b (GL ys i) U) R)(hz:az P E=some (m+1))(hl:ys.length=m)(hl':zs.length=m)
  (hk:Go c n l (.blk b (GL zs j) U::R) (wpList P ops Q rest)):Go c n l W (wpList P ops Q (⟨none,.store E x y,T,pos,after,none⟩::rest)):=by
 rw[dx]at hy hf hk
 exact rY hx hy hf hz (by simp[hl]) (by simp[hl']) (by
  intro v hv
  simp only[List.mem_append,List.mem_map,List.mem_singleton]at hv
  rcases hv with⟨_,_,rfl⟩ | rfl <;> rfl) hk
theorem dI{x:Operand}{b m:Nat}{ys:List Nat}{i:Bool}{E U:TypeId}{R:List Res}(hx:ev l x=some (pt b 0))(hf:Find W (.blk b (GL ys i) U) R)(hs:cM P E=true)(hz:az P E=some (m+1))(hl:ys.length=m)
  (hn:Nat.blt d n.sz=true) (hk:Go c n ((d,GL ys i)::l) W (wpList P ops Q rest)):Go c n l W (wpList P ops Q (⟨some d,.load E x,T,pos,after,none⟩::rest)):=by
 rw[dx]at hf hk
 exact t6 hx hf hs hz (by simp[hl]) hn hk
theorem cO{x:Operand}{b off m:Nat}{ys zs:List Nat}{i:Bool}{E U:TypeId}{R:List Res}(hx:ev l x=some (pt b off))(hf:Find W (.blk b (GL ys i) U) R)(hs:cM P E=true)(hz:az P E=some m)
  (hp:ab ys off m zs) (hn:Nat.blt d n.sz=true)
  (hk:Go c n ((d,LV .u64 zs)::l) W (wpList P ops Q rest)):Go c n l W (wpList P ops Q (⟨some d,.load E x,T,pos,after,none⟩::rest)):=
 ax rfl rfl hn (fun a w ha hw=>by
  have hh:w.heap[b]?=some (.cells (GL ys i).cells U (0,0)):=hw.holds _ hf.mem
  rw[wx]at hh
  have hl:zs.length=m:=by obtain⟨_,_,_,_,h⟩:=hp;exact h
  have:=cb (P:=P) (w:=w) (b:=b) (off:=off) (cs:=zs.map (N .u64)) hs (by simpa[hl]using hz) hh (fun j v hv=>by
   have:=((hp.map (N .u64)).inl (ys:=[Value.bool i])).get j v hv
   simpa using this)
  simp[execOp,ha.ev hx,Instr.loadAt,Instr.sureAddr,this,LV]) hk
theorem v4{x:Operand}{b off:Nat}{ys:List Nat}{i:Bool}{E U:TypeId}{R:List Res}(hx:ev l x=some (pt b off))(hf:Find W (.blk b (GL ys i) U) R)(hs:kv P E=true)(hl:ys.length=off)(hn:Nat.blt d n.sz=true)
  (hk:Go c n ((d,.bool i)::l) W (wpList P ops Q rest)):Go c n l W (wpList P ops Q (⟨some d,.load E x,T,pos,after,none⟩::rest)):=
 ax rfl rfl hn (fun a w ha hw=>by
  have hh:w.heap[b]?=some (.cells (GL ys i).cells U (0,0)):=hw.holds _ hf.mem
  rw[wx]at hh
  have hc:w.cell? ⟨b,off,none⟩=some (.bool i):=by
   rw[cell_of_row w b off _ U _ hh];simp[← hl]
  simp[execOp,ha.ev hx,Instr.loadAt,Instr.sureAddr,cI hs hc]) hk
theorem aQ{fn:Func}{R:Ending→World→Prop}{t:Tmp}{b m:Nat}{T U:TypeId}{ys:List Nat}{i:Bool}{R0:List Res}
  (hres:fn.results = #[.cell t T]) (hv:lk l t=some (pt b 0)) (hf:Find W (.blk b (GL ys i) U) R0) (hs:cM P T=true) (hz:az P T=some (m+1)) (hl:ys.length=m)
  (hR:∀w,SatW c W w→R (.returned (GL ys i)) w) (hD:n.df=[]:=by rfl):Go c n l W (bodyPost P fn R .ret):=by
 rw[dx]at hf
 exact CO hres hv hf hs (by rw[hz];simp[hl]) (by rw[dx]at hR;exact hR) hD
end
abbrev AV(vs:List Value):Value:=.agg vs.toArray
theorem FQ(ys:List Nat)(i:Bool):GL ys i=AV (ys.map (N .u64)++[Value.bool i]):=dx ys i
theorem qE{m:Nat}{zs:List Value}(hzs:zs.length=m):∀(vss:List (List Value))(i:Nat)(done:List Value),(∀v∈vss,v.length=m)→done.length=i*m →
  Instr.fill (fun i=>some (i*m,m)) (done++(List.replicate vss.length zs).flatten).toArray ((vss.zipIdx i).map fun p=>(p.2,AV p.1))=some (done++vss.flatten).toArray
 | [],i,done,_,_=>by simp[Instr.fill]
 | v::r,i,done,hv,hd=>by
  have h1:=hv v (List.mem_cons_self ..)
  have ih:=qE hzs r (i+1) (done++v) (fun u hu=>hv u (List.mem_cons_of_mem _ hu)) (by simp[hd,h1,Nat.add_mul])
  have e:=kJ (place:=fun i=>some (i*m,m)) (i:=i) (v:=AV v) (rest:=(r.zipIdx (i+1)).map fun p=>(p.2,AV p.1)) (pre:=done) (old:=zs) (post:=(List.replicate r.length zs).flatten)
   (by simp[hd,hzs]) (by simp[Value.cells,h1,hzs])
  have hrep:done++(List.replicate (v::r).length zs).flatten=done++zs++(List.replicate r.length zs).flatten:=by
   rw[List.length_cons,List.replicate_succ,List.flatten_cons,List.append_assoc]
  rw[hrep,List.zipIdx_cons,List.map_cons,e]
  have hc:(AV v).cells.toList=v:=by simp[Value.cells]
  rw[hc,ih]
  simp
section
variable {P:Program} {c:Cx} {n:Nn} {l:Sl} {W:List Res} {ops:Array Oper} {Q:Exit→Act→World→Prop} {rest:List Oper}
variable {d:Nat} {T:TypeId} {pos:String} {after:Array Edge}
theorem oU{a:Act}:∀{ps:List (Nat×Operand)}{i:Nat}{vss:List (List Value)}(_:SatA n l a)(_:Seq i ps=true)(_:evs l (ps.map (·.2))=some (vss.map (AV))),
  (ps.map fun(i,x)=>(i,a.eval x))=(vss.zipIdx i).map fun p=>(p.2,AV p.1)
 | [],i,vss,_,_,he=>by
  have:vss=[]:=by
   cases vss with
   | nil=>rfl
   | cons v r=>simp[evs]at he
  subst this;rfl
 | (q,x)::r,i,vss,ha,hs,he=>by
  simp only[Seq,Bool.and_eq_true]at hs
  have hq:=Nat.eq_of_beq_eq_true hs.1
  subst hq
  simp only[List.map_cons,evs]at he
  split at he
  ·rename_i v us hx hr
   cases vss with
   | nil=>simp at he
   | cons v0 vr=>
    simp at he
    obtain⟨h1,h2⟩:=he
    subst h1
    subst h2
    have ih:=oU (ps:=r) (i:=q+1) (vss:=vr) ha hs.2 hr
    simp only[List.map_cons,List.zipIdx_cons,ih,ha.ev hx]
  ·simp at he
theorem zx{m k:Nat}{zs:List Value}(hz:zs.length=m)(hm:0<m):(Array.range (k*m)).map (fun j=>zs.toArray[j%zs.toArray.size]!)=((List.replicate k zs).flatten).toArray:=by
 have hl:((List.replicate k zs).flatten).length=k*m:=by simp[hz]
 apply Array.ext
 ·simp[hz]
 ·intro j h1 h2
  have hj:j%m<m:=Nat.mod_lt _ hm
  have hjk:j<k*m:=by simpa using h1
  have hd:j/m<k:=(Nat.div_lt_iff_lt_mul hm).2 hjk
  have hp:=ab.nth (vss:=List.replicate k zs) (i:=j/m) (zs:=zs) (fun v hv=>by rw[List.eq_of_mem_replicate hv,hz]) (by rw[List.getElem?_replicate,if_pos hd])
  have e:=hp.get (j%m) (zs[j%m]'(by omega)) (by rw[List.getElem?_eq_getElem])
  have e2:j/m*m+j%m=j:=by rw[Nat.mul_comm];exact Nat.div_add_mod j m
  rw[e2]at e
  have e3:((List.replicate k zs).flatten)[j]'(by rw[hl];exact hjk)=zs[j%m]'(by omega):=by
   rw[List.getElem?_eq_getElem (by rw[hl];exact hjk)]at e
   exact Option.some.inj e
  simp only[Array.getElem_map,Array.getElem_range,List.getElem_toArray,List.size_toArray,hz]
  rw[e3]
  simp[hz,hj]
theorem rV{t E:TypeId}{k m:Nat}{ps:List (Nat×Operand)}{zs:List Value}{vss:List (List Value)}(ht:P.underlying t=some (.slice E))(hz:cE P E=some (AV zs))(hs:az P E=some m)(hzl:zs.length=m)
  (hm:Nat.blt 0 (k*m)=true) (hq:Seq 0 ps=true) (hl:vss.length=k) (hv:evs l (ps.map (·.2))=some (vss.map (AV))) (hlen:∀v∈vss,v.length=m) (hk24:Nat.ble (k*m) 16777216=true) (hn:Nat.blt d n.sz=true)
  (hk:∀b,Go c n ((d,slv b k)::l) (.blk b (AV vss.flatten) E::W) (wpList P ops Q rest)):
  Go c n l W (wpList P ops Q (⟨some d,.buildSlice t k ps.toArray,T,pos,after,none⟩::rest)):=
 ft rfl rfl hn (Φ:=fun u V=>∃b,u=slv b k∧V = .blk b (AV vss.flatten) E::W)
  (fun a w ha hw=>by
   have hp:=oU ha hq hv
   have hm0:0<k*m:=by simpa[Nat.blt_eq]using hm
   have hmm:0<m:=Nat.pos_of_mul_pos_left hm0
   have hle:¬(16777216<k*m):=by have:=Nat.le_of_ble_eq_true hk24;omega
   have hne:¬(k*m=0):=by omega
   have hfill:=qE hzl vss 0 [] hlen (by simp)
   simp only[List.nil_append]at hfill
   rw[hl]at hfill
   have h0:=zx (k:=k) hzl hmm
   refine⟨_,_,_,?_,hw.alloc (o:=.cells (vss.flatten).toArray E) (r:=.blk w.heap.size (AV vss.flatten) E) rfl ?_,_,rfl,rfl⟩
   ·have hz2:(AV zs).cells=zs.toArray:=by simp[Value.cells]
    simp only[execOp,Instr.buildSlice,Sem.run_bind,run_underlying ht,ar hs,Result.andThen_ok,List.map_toArray,hp]
    simp only[show(2:Nat)^24=16777216 from rfl,gt_iff_lt,if_neg hle,if_neg hne,Sem.run_bind,cj hz,Result.andThen_ok,Sem.run_pure,hz2,h0,hfill]
    simp[newRow,slv]
   ·simp[Res.holds,Value.cells])
  (fun u V ⟨b,hu,hV⟩=>by subst hu;subst hV;exact hk b)
theorem l9{x:Operand}{s:Value}{i m:Nat}{xss:List (List Value)}{zs:List Value}{A:TypeId}(hx:ev l x=some (.pointer (some (ea s (i*m)))))(hs:cM P A=true)(hz:az P A=some m)(hr:RdW c W s (xss.flatten))
  (hv:∀v∈xss,v.length=m) (hi:xss[i]?=some zs) (hm:0<m)
  (hn:Nat.blt d n.sz=true) (hk:Go c n ((d,AV zs)::l) W (wpList P ops Q rest)):
  Go c n l W (wpList P ops Q (⟨some d,.load A x,T,pos,after,none⟩::rest)):=
 ax rfl rfl hn (fun a w ha hw=>by
  have hzl:zs.length=m:=hv zs (List.mem_of_getElem? hi)
  have hne:0<(xss.flatten).length:=by
   have hmem:=List.mem_of_getElem? hi
   cases hq:xss.flatten with
   | nil=>
    have:=List.flatten_eq_nil_iff.1 hq zs hmem
    subst this;simp at hzl;omega
   | cons a r=>simp
  have hp:=ab.nth hv hi
  have hl:(loadCells (ea s (i*m)) (zs).length).run P w = .ok (zs).toArray w:=
   run_loadCells_list (P:=P) w _ (zs) (fun j v hv=>by
    rw[Gu (hr w hw) hne]
    refine(hr w hw).cells _ v ?_
    exact hp.get j v hv)
  rw[hzl]at hl
  simp[execOp,ha.ev hx,Instr.loadAt,Instr.sureAddr,loadVar,cD hs,ar hz,hl]) hk
theorem dM{x y:Operand}{s y0:Value}{m:Nat}{zs:List Value}{xss yss:List (List Value)}{t E:TypeId}{by':Nat}{R:List Res}(hx:ev l x=some s)(hy:ev l y=some y0)(hf:Find W (.sl (wide m s) (xss.flatten) E) R)(hr:RdW c W (wide m y0) (yss.flatten))
  (ht:P.underlying t=some (.slice E)) (hz:cE P E=some (AV zs)) (hs:az P E=some m) (hb:lG P E=some by') (hzl:zs.length=m) (hone:∀v∈yss.flatten,v.oneCell'=true) (hm:0<m)
  (hxl:xss.flatten.length=xss.length*m) (hyl:yss.flatten.length=yss.length*m) (hj:0<yss.length)
  (hbd:(xss.length+yss.length)*by'≤140737488355328) (h63:xss.length+yss.length<9223372036854775808) (hn:Nat.blt d n.sz=true)
  (hk:∀s',Go c n ((d,s')::l) (.sl (wide m s') ((xss++yss).flatten) E::R) (wpList P ops Q rest)):
  Go c n l W (wpList P ops Q (⟨some d,.call { callee:=.builtin .append,args:=#[x,y],argTypes:=#[t,t] },T,pos,after,none⟩::rest)):=
 ft rfl rfl hn (Φ:=fun u V=>V = .sl (wide m u) ((xss++yss).flatten) E::R)
  (fun a w ha hw=>by
   have hY:=hr w hw
   have hX:=RdW.own hf w hw
   have hw:=hw.perm hf.perm
   obtain⟨a0,cap0,he0,_⟩:=hX.shape
   obtain⟨c0,hs0,_⟩:=fG (k:=xss.length) hm he0 hxl
   subst hs0
   obtain⟨a1,cap1,he1,_⟩:=hY.shape
   obtain⟨c1,hs1,_⟩:=fG (k:=yss.length) hm he1 hyl
   subst hs1
   obtain⟨s',w',h2,h3,h4,h5⟩:=nq (P:=P) (ty:=T) hm ht hz hs hb (by simp[Value.cells,hzl]) (hw.holds _ (List.mem_cons_self ..)) hY hxl hyl hone hj hbd h63
   refine⟨s',w',_,by simp[execOp,ha.ev hx,ha.ev hy,resolve,invoke,builtin,h2],?_,rfl⟩
   have e:(xss++yss).flatten=xss.flatten++yss.flatten:=by simp
   rw[e]
   rcases h5 with h5 | h5
   ·exact hw.upd h5 h4 h3
   ·have hlt:=hw.lt
    have hn:=hw.nd
    simp only[fps,List.flatMap_cons]at hn hlt
    obtain⟨n1,n2,n3⟩:=List.nodup_append.1 hn
    refine⟨hw.ext.trans h4 (fun q hq=>hw.own q (by simp only[fps,List.flatMap_cons,List.mem_append];exact .inl hq)),?_,?_,?_⟩
    ·intro r hr
     rcases List.mem_cons.1 hr with rfl | hr
     ·exact h3
     ·exact Res.holds_congr (hw.holds r (List.mem_cons_of_mem _ hr)) fun b hb=>h4.block b (Res.fp_lt (hw.holds r (List.mem_cons_of_mem _ hr)) b hb) fun hb'=>n3 b hb' b (List.mem_flatMap.2 ⟨r,hr,hb⟩) rfl
    ·intro b hb
     simp only[fps,List.flatMap_cons,h5,List.mem_append,List.mem_singleton]at hb
     rcases hb with rfl | hb
     ·exact .inl hw.ext.size
     ·exact hw.own b (by simp only[fps,List.flatMap_cons,List.mem_append];exact .inr hb)
    ·simp only[fps,List.flatMap_cons,h5]
     refine List.nodup_append.2 ⟨by simp,n2,fun p hp q hq=>?_⟩
     simp only[List.mem_singleton]at hp;subst hp
     have:=hlt q (List.mem_append.2 (.inr hq));omega)
  (fun u V hV=>by subst hV;exact hk u)
theorem RdW.slvV{b k m:Nat}{vs:List Value}{U:TypeId}{R:List Res}(h:Find W (.blk b (AV vs) U) R)(hl:vs.length=k*m):RdW c W (wide m (L.slv b k)) vs:=by
 have:=RdW.arr (c:=c) (lo:=0) (hi:=k*m) h (Nat.zero_le _) (Nat.le_refl _) (by simpa using hl)
 rw[List.drop_zero,List.take_of_length_le (by omega)]at this
 have e:wide m (L.slv b k)=fi b (k*m) 0 (k*m):=by simp[wide,fi]
 rw[e];exact this
end
section
variable {P:Program} {c:Cx} {n:Nn} {l:Sl} {W:List Res} {ops:Array Oper} {Q:Exit→Act→World→Prop} {rest:List Oper}
variable {d:Nat} {T:TypeId} {pos:String} {after:Array Edge}
theorem SM{x y:Operand}{b off m:Nat}{pre zs us post:List Value}{E U:TypeId}{R:List Res}(hx:ev l x=some (pt b off))(hy:ev l y=some (.agg us.toArray))(hf:Find W (.blk b (.agg (pre++zs++post).toArray) U) R)(hz:az P E=some m)
  (h0:pre.length=off) (hl:zs.length=m) (hl':us.length=m) (h1:∀v∈us,v.oneCell'=true)
  (hk:Go c n l (.blk b (.agg (pre++us++post).toArray) U::R) (wpList P ops Q rest)):Go c n l W (wpList P ops Q (⟨none,.store E x y,T,pos,after,none⟩::rest)):=
 tV rfl rfl (fun a w ha hw=>by
  have hw:=hw.perm hf.perm
  have hh:w.heap[b]?=some (.cells (pre++zs++post).toArray U (0,0)):=hw.holds _ (List.mem_cons_self ..)
  refine⟨w.setRow b (pre++us++post).toArray,?_,cc hw rfl rfl hh (fun w' h=>h)⟩
  have hst:=en (P:=P) (off:=off) (vs:=us) hh (by simp[h0,hl,hl']) h1
  have e:(pre++zs++post).take off++us++(pre++zs++post).drop (off+us.length)=pre++us++post:=by
   subst h0
   have a1:(pre++zs++post).take pre.length=pre:=by rw[List.append_assoc];exact List.take_left
   have a2:(pre++zs++post).drop (pre.length+us.length)=post:=by
    rw[hl',← hl,← List.length_append];exact List.drop_left
   rw[a1,a2]
  rw[e]at hst
  simp[execOp,ha.ev hx,ha.ev hy,Instr.storeAt,Instr.sureAddr,storeVar,ar hz,Value.cells,hl',hst]) hk
theorem UQ{kk:IntKind}(us:List Nat):∀v∈us.map (N kk),v.oneCell'=true:=by
 intro v hv
 obtain⟨u,_,rfl⟩:=List.mem_map.1 hv
 rfl
theorem wc{x y:Operand}{b off m:Nat}{pre zs us post:List Nat}{i:Bool}{E U:TypeId}{R:List Res}(hx:ev l x=some (pt b off))(hy:ev l y=some (LV .u64 us))(hf:Find W (.blk b (GL (pre++zs++post) i) U) R)(hz:az P E=some m)
  (h0:pre.length=off) (hl:zs.length=m) (hl':us.length=m)
  (hk:Go c n l (.blk b (GL (pre++us++post) i) U::R) (wpList P ops Q rest)):Go c n l W (wpList P ops Q (⟨none,.store E x y,T,pos,after,none⟩::rest)):=by
 rw[dx]at hf hk
 have e1:∀z:List Nat,(pre++z++post).map (N .u64)++[Value.bool i]=pre.map (N .u64)++z.map (N .u64)++(post.map (N .u64)++[Value.bool i]):=fun z=>by simp
 rw[e1]at hf hk
 exact SM hx hy hf hz (by simpa using h0) (by simpa using hl) (by simpa using hl') (UQ us) hk
theorem nF{x y:Operand}{b off m:Nat}{pre zs us:List Nat}{i:Bool}{E U:TypeId}{R:List Res}(hx:ev l x=some (pt b off))(hy:ev l y=some (LV .u64 us))(hf:Find W (.blk b (GL (pre++zs) i) U) R)(hz:az P E=some m)
  (h0:pre.length=off) (hl:zs.length=m) (hl':us.length=m)
  (hk:Go c n l (.blk b (GL (pre++us) i) U::R) (wpList P ops Q rest)):Go c n l W (wpList P ops Q (⟨none,.store E x y,T,pos,after,none⟩::rest)):=
 wc (post:=[]) hx hy (by rw[List.append_nil];exact hf) hz h0 hl hl' (by rw[List.append_nil];exact hk)
end
section
variable {α:Type}
theorem ab.t0{xs ys zs:List α}{m:Nat}(h:xs.length=m):ab (xs++(ys++zs)) 0 m xs:=ab.l h
theorem ab.t1{xs ys zs:List α}{m:Nat}(h:xs.length=m)(h2:ys.length=m):ab (xs++(ys++zs)) m m ys:=⟨xs,zs,by simp,h,h2⟩
theorem ab.t2{xs ys zs:List α}{m:Nat}(h:xs.length=m)(h2:ys.length=m)(h3:zs.length=m):ab (xs++(ys++zs)) (m+m) m zs:=⟨xs++ys,[],by simp,by simp[h,h2],h3⟩
end
section
variable {P:Program}
theorem I8{w:World}{t A E:TypeId}{f0 f1 f2 g0 g1:Field}{m:Nat}(ht:P.underlying t=some (.struct #[f0,f1,f2]))(hst:P.stoodInHeld t=false)(hn0:(f0.name != "_")=true)(hn1:(f1.name != "_")=true)(hn2:(f2.name != "_")=true)
  (k0:f0.type=A) (k1:f1.type=A) (k2:f2.type=A) (hs:az P A=some (m+m)) (ho0:f0.offset=0) (ho1:f1.offset=m+m) (ho2:f2.offset=m+m+(m+m))
  (hA:P.underlying A=some (.struct #[g0,g1])) (hstA:P.stoodInHeld A=false) (gn0:(g0.name != "_")=true) (gn1:(g1.name != "_")=true)
  (h0:P.underlying g0.type=some (.array m E)) (h1:P.underlying g1.type=some (.array m E)) (hs0:az P g0.type=some m) (hs1:az P g1.type=some m) (go0:g0.offset=0) (go1:g1.offset=m)
  (hE:P.underlying E=some (.int .u64)) (hz:az P E=some 1) {a b e f g h a' b' e' f' g' h':List Nat} (la:a.length=m) (lb:b.length=m) (le:e.length=m) (lf:f.length=m) (lg:g.length=m) (lh:h.length=m) (la':a'.length=m) (lb':b'.length=m) (le':e'.length=m) (lf':f'.length=m) (lg':g'.length=m) (lh':h'.length=m):
  (Op.equalIn 10000 t (LV .u64 ((a++b)++((e++f)++(g++h)))) (LV .u64 ((a'++b')++((e'++f')++(g'++h'))))).run P w = .ok (((decide (a=a')&&decide (b=b'))&&(decide (e=e')&&decide (f=f')))&&(decide (g=g')&&decide (h=h'))) w:=by
 have hf:P.fieldsOf t = #[f0,f1,f2]:=by unfold Program.fieldsOf;rw[ht]
 have q:=run_equalIn_struct (P:=P) w 9999 t (((a++b)++((e++f)++(g++h))).map (N .u64)).toArray (((a'++b')++((e'++f')++(g'++h'))).map (N .u64)).toArray (by rw[hf];exact ht) hst
 rw[hf]at q
 simp only[LV]
 rw[q]
 have a0:cM P A=true:=by unfold cM;rw[hA]
 have pp:∀(fl:Field)(k:fl.type=A)(vs zs:List Nat)(off:Nat)(ho:fl.offset=off),ab vs off (m+m) zs→(part fl.type (vs.map (N .u64)).toArray fl.offset).run P w = .ok (LV .u64 zs) w:=fun fl k vs zs off ho hp=>by
  have he:=(hp.map (N .u64)).ext
  simp only[part,Sem.run_bind,k,cD a0,Result.andThen_ok,if_true,ar hs,ho,he,Sem.run_pure,LV]
 have r0:=jb 9996 (w:=w) (k:=.u64) (t:=A) hA hstA gn0 gn1 h0 h1 hs0 hs1 go0 go1 hE hz la lb la' lb'
 have r1:=jb 9996 (w:=w) (k:=.u64) (t:=A) hA hstA gn0 gn1 h0 h1 hs0 hs1 go0 go1 hE hz le lf le' lf'
 have r2:=jb 9996 (w:=w) (k:=.u64) (t:=A) hA hstA gn0 gn1 h0 h1 hs0 hs1 go0 go1 hE hz lg lh lg' lh'
 rw[← k0]at r0
 rw[← k1]at r1
 rw[← k2]at r2
 have n0:f0.name ≠ "_":=by simpa using hn0
 have n1:f1.name ≠ "_":=by simpa using hn1
 have n2:f2.name ≠ "_":=by simpa using hn2
 have l1:(a++b).length=m+m:=by simp[la,lb]
 have l2:(e++f).length=m+m:=by simp[le,lf]
 have l3:(g++h).length=m+m:=by simp[lg,lh]
 have l1':(a'++b').length=m+m:=by simp[la',lb']
 have l2':(e'++f').length=m+m:=by simp[le',lf']
 have l3':(g'++h').length=m+m:=by simp[lg',lh']
 simp only[Op.eqFields,if_pos n0,if_pos n1,if_pos n2,Sem.run_bind,pp _ k0 _ _ _ ho0 (ab.t0 l1),pp _ k0 _ _ _ ho0 (ab.t0 l1'),pp _ k1 _ _ _ ho1 (ab.t1 l1 l2),pp _ k1 _ _ _ ho1 (ab.t1 l1' l2'),pp _ k2 _ _ _ ho2 (ab.t2 l1 l2 l3),pp _ k2 _ _ _ ho2 (ab.t2 l1' l2' l3'),Result.andThen_ok,r0,r1,r2,Sem.run_ite,Sem.run_pure]
 cases decide (a=a') <;> cases decide (b=b') <;> cases decide (e=e') <;> cases decide (f=f') <;> cases decide (g=g') <;> cases decide (h=h') <;> rfl
end
section
variable {P:Program} {c:Cx} {n:Nn} {l:Sl} {W:List Res} {ops:Array Oper} {Q:Exit→Act→World→Prop} {rest:List Oper}
variable {d:Nat} {T:TypeId} {pos:String} {after:Array Edge}
theorem tS{t:TypeId}{fs:Array Field}{m:Nat}{k:IntKind}{xs ys zs:List Nat}{x y z:Operand}(ht:P.underlying t=some (.struct fs))(hpl:jU P fs.toList=some [(0,m),(m,m),(m+m,m)])(hz:cE P t=some (LV k (List.replicate (m+(m+m)) 0)))
  (hv:evs l [x,y,z]=some [LV k xs,LV k ys,LV k zs]) (h1:xs.length=m) (h2:ys.length=m) (h3:zs.length=m) (hn:Nat.blt d n.sz=true)
  (hk:Go c n ((d,LV k (xs++(ys++zs)))::l) W (wpList P ops Q rest)):Go c n l W (wpList P ops Q (⟨some d,.build t #[(0,x),(1,y),(2,z)],T,pos,after,none⟩::rest)):=
 eI (is:=[0,1,2]) (xs:=[x,y,z]) (vs:=[xs,ys,zs]) ht hpl hz hv (by
  have e:List.replicate (m+(m+m)) 0=[]++List.replicate m 0++(List.replicate m 0++List.replicate m 0):=by rw[List.nil_append,List.replicate_append_replicate,List.replicate_append_replicate]
  rw[e]
  refine .cons (by simp) (by simpa using h1) ?_
  have e2:[]++xs++(List.replicate m 0++List.replicate m 0)=xs++List.replicate m 0++List.replicate m 0:=by simp
  rw[e2]
  refine .cons (by simp[h1]) (by simpa using h2) ?_
  have e3:xs++ys++List.replicate m 0=(xs++ys)++List.replicate m 0++[]:=by simp
  rw[e3]
  refine .cons (by simp[h1,h2]) (by simpa using h3) ?_
  rw[List.append_nil,List.append_assoc];exact .nil) hn hk
theorem CQ{r:Bool}{t A E yt:TypeId}{f0 f1 f2 g0 g1:Field}{m:Nat}{x y:Operand}{a b e f g h a' b' e' f' g' h':List Nat}
  (hr:(((decide (a=a')&&decide (b=b'))&&(decide (e=e')&&decide (f=f')))&&(decide (g=g')&&decide (h=h')))=r)
  (hx:ev l x=some (LV .u64 ((a++b)++((e++f)++(g++h))))) (hy:ev l y=some (LV .u64 ((a'++b')++((e'++f')++(g'++h'))))) (ht:P.underlying t=some (.struct #[f0,f1,f2])) (hst:P.stoodInHeld t=false) (hn0:(f0.name != "_")=true) (hn1:(f1.name != "_")=true) (hn2:(f2.name != "_")=true)
  (k0:f0.type=A) (k1:f1.type=A) (k2:f2.type=A) (hs:az P A=some (m+m)) (ho0:f0.offset=0) (ho1:f1.offset=m+m) (ho2:f2.offset=m+m+(m+m))
  (hA:P.underlying A=some (.struct #[g0,g1])) (hstA:P.stoodInHeld A=false) (gn0:(g0.name != "_")=true) (gn1:(g1.name != "_")=true)
  (h0:P.underlying g0.type=some (.array m E)) (h1:P.underlying g1.type=some (.array m E)) (hs0:az P g0.type=some m) (hs1:az P g1.type=some m) (go0:g0.offset=0) (go1:g1.offset=m)
  (hE:P.underlying E=some (.int .u64)) (hz:az P E=some 1) (hg:P.eqGuardType P.depth t=false)
  (la:a.length=m) (lb:b.length=m) (le:e.length=m) (lf:f.length=m) (lg:g.length=m) (lh:h.length=m) (la':a'.length=m) (lb':b'.length=m) (le':e'.length=m) (lf':f'.length=m) (lg':g'.length=m) (lh':h'.length=m) (hn:Nat.blt d n.sz=true)
  (hk:Go c n ((d,.bool r)::l) W (wpList P ops Q rest)):Go c n l W (wpList P ops Q (⟨some d,.binOp .eql t x y yt,T,pos,after,none⟩::rest)):=
 ax rfl rfl hn (fun w0 w ha _=>by
  have q1:=I8 (w:=w) ht hst hn0 hn1 hn2 k0 k1 k2 hs ho0 ho1 ho2 hA hstA gn0 gn1 h0 h1 hs0 hs1 go0 go1 hE hz la lb le lf lg lh la' lb' le' lf' lg' lh'
  rw[hr]at q1
  have q2:=run_eqGuard_agg (P:=P) w .eql t x y (((a++b)++((e++f)++(g++h))).map (N .u64)).toArray (((a'++b')++((e'++f')++(g'++h'))).map (N .u64)).toArray hg
  have q3:=run_eql_struct (P:=P) w t (((a++b)++((e++f)++(g++h))).map (N .u64)).toArray (((a'++b')++((e'++f')++(g'++h'))).map (N .u64)).toArray
  simp only[LV]at q1 hx hy
  rw[q1]at q3
  simp only[execOp,ha.ev hx,ha.ev hy,Sem.run_bind,q2,Result.andThen_ok,q3,Sem.run_pure]) hk
theorem AX{t:TypeId}{fs:Array Field}{pl:List (Nat×Nat)}{m:Nat}(ht:P.underlying t=some (.struct fs))(hpl:jU P fs.toList=some pl)(hz:cE P t=some (GL (List.replicate m 0) false))(hn:Nat.blt d n.sz=true)
  (hk:Go c n ((d,GL (List.replicate m 0) false)::l) W (wpList P ops Q rest)):Go c n l W (wpList P ops Q (⟨some d,.build t #[],T,pos,after,none⟩::rest)):=
 oz (is:=[]) (xs:=[]) (vs:=[]) (z:=(List.replicate m 0).map (N .u64)++[Value.bool false]) (out:=(List.replicate m 0).map (N .u64)++[Value.bool false]) ht hpl (by rw[hz,dx]) rfl .nil hn (by rw[dx]at hk;exact hk)
theorem bH{fn:Func}{R:Ending→World→Prop}{t u:Tmp}{b m:Nat}{T U:TypeId}{ys:List Nat}{i:Bool}{v:Value}{R0:List Res}
  (hres:fn.results = #[.cell t T,.tmp u]) (hv:lk l t=some (pt b 0)) (hu:lk l u=some v) (hf:Find W (.blk b (GL ys i) U) R0) (hs:cM P T=true) (hz:az P T=some (m+1)) (hl:ys.length=m)
  (hR:∀w,SatW c W w→R (.returned (.tuple #[GL ys i,v])) w) (hD:n.df=[]:=by rfl):Go c n l W (bodyPost P fn R .ret):=by
 rw[dx]at hf
 exact yu hres hv hu hf hs (by rw[hz];simp[hl]) (by rw[dx]at hR;exact hR) hD
end
section
variable {P:Program}
theorem ES{w:World}{t A E:TypeId}{f0 f1 f2:Field}{m:Nat}(ht:P.underlying t=some (.struct #[f0,f1,f2]))(hst:P.stoodInHeld t=false)(hn0:(f0.name != "_")=true)(hn1:(f1.name != "_")=true)(hn2:(f2.name != "_")=true)
  (k0:f0.type=A) (k1:f1.type=A) (k2:f2.type=A) (hs:az P A=some m) (ho0:f0.offset=0) (ho1:f1.offset=m) (ho2:f2.offset=m+m)
  (hA:P.underlying A=some (.array m E)) (hE:P.underlying E=some (.int .u64)) (hz:az P E=some 1) {a e g a' e' g':List Nat} (la:a.length=m) (le:e.length=m) (lg:g.length=m) (la':a'.length=m) (le':e'.length=m) (lg':g'.length=m):
  (Op.equalIn 10000 t (LV .u64 (a++(e++g))) (LV .u64 (a'++(e'++g')))).run P w = .ok ((decide (a=a')&&decide (e=e'))&&decide (g=g')) w:=by
 have hf:P.fieldsOf t = #[f0,f1,f2]:=by unfold Program.fieldsOf;rw[ht]
 have q:=run_equalIn_struct (P:=P) w 9999 t ((a++(e++g)).map (N .u64)).toArray ((a'++(e'++g')).map (N .u64)).toArray (by rw[hf];exact ht) hst
 rw[hf]at q
 simp only[LV]
 rw[q]
 have a0:cM P A=true:=by unfold cM;rw[hA]
 have pp:∀(fl:Field)(k:fl.type=A)(vs zs:List Nat)(off:Nat)(ho:fl.offset=off),ab vs off m zs→(part fl.type (vs.map (N .u64)).toArray fl.offset).run P w = .ok (LV .u64 zs) w:=fun fl k vs zs off ho hp=>by
  have he:=(hp.map (N .u64)).ext
  simp only[part,Sem.run_bind,k,cD a0,Result.andThen_ok,if_true,ar hs,ho,he,Sem.run_pure,LV]
 have r0:=eD (w:=w) 9997 hA hE hz a a' la la'
 have r1:=eD (w:=w) 9997 hA hE hz e e' le le'
 have r2:=eD (w:=w) 9997 hA hE hz g g' lg lg'
 rw[← k0]at r0
 rw[← k1]at r1
 rw[← k2]at r2
 have n0:f0.name ≠ "_":=by simpa using hn0
 have n1:f1.name ≠ "_":=by simpa using hn1
 have n2:f2.name ≠ "_":=by simpa using hn2
 simp only[Op.eqFields,if_pos n0,if_pos n1,if_pos n2,Sem.run_bind,pp _ k0 _ _ _ ho0 (ab.t0 la),pp _ k0 _ _ _ ho0 (ab.t0 la'),pp _ k1 _ _ _ ho1 (ab.t1 la le),pp _ k1 _ _ _ ho1 (ab.t1 la' le'),pp _ k2 _ _ _ ho2 (ab.t2 la le lg),pp _ k2 _ _ _ ho2 (ab.t2 la' le' lg'),Result.andThen_ok,r0,r1,r2,Sem.run_ite,Sem.run_pure]
 cases decide (a=a') <;> cases decide (e=e') <;> cases decide (g=g') <;> rfl
variable {c:Cx} {n:Nn} {l:Sl} {W:List Res} {ops:Array Oper} {Q:Exit→Act→World→Prop} {rest:List Oper}
variable {d:Nat} {T:TypeId} {pos:String} {after:Array Edge}
theorem CP{r:Bool}{t A E yt:TypeId}{f0 f1 f2:Field}{m:Nat}{x y:Operand}{a e g a' e' g':List Nat}(hr:((decide (a=a')&&decide (e=e'))&&decide (g=g'))=r)
  (hx:ev l x=some (LV .u64 (a++(e++g)))) (hy:ev l y=some (LV .u64 (a'++(e'++g')))) (ht:P.underlying t=some (.struct #[f0,f1,f2])) (hst:P.stoodInHeld t=false) (hn0:(f0.name != "_")=true) (hn1:(f1.name != "_")=true) (hn2:(f2.name != "_")=true)
  (k0:f0.type=A) (k1:f1.type=A) (k2:f2.type=A) (hs:az P A=some m) (ho0:f0.offset=0) (ho1:f1.offset=m) (ho2:f2.offset=m+m)
  (hA:P.underlying A=some (.array m E)) (hE:P.underlying E=some (.int .u64)) (hz:az P E=some 1) (hg:P.eqGuardType P.depth t=false)
  (la:a.length=m) (le:e.length=m) (lg:g.length=m) (la':a'.length=m) (le':e'.length=m) (lg':g'.length=m) (hn:Nat.blt d n.sz=true)
  (hk:Go c n ((d,.bool r)::l) W (wpList P ops Q rest)):Go c n l W (wpList P ops Q (⟨some d,.binOp .eql t x y yt,T,pos,after,none⟩::rest)):=
 ax rfl rfl hn (fun w0 w ha _=>by
  have q1:=ES (w:=w) ht hst hn0 hn1 hn2 k0 k1 k2 hs ho0 ho1 ho2 hA hE hz la le lg la' le' lg'
  rw[hr]at q1
  have q2:=run_eqGuard_agg (P:=P) w .eql t x y ((a++(e++g)).map (N .u64)).toArray ((a'++(e'++g')).map (N .u64)).toArray hg
  have q3:=run_eql_struct (P:=P) w t ((a++(e++g)).map (N .u64)).toArray ((a'++(e'++g')).map (N .u64)).toArray
  simp only[LV]at q1 hx hy
  rw[q1]at q3
  simp only[execOp,ha.ev hx,ha.ev hy,Sem.run_bind,q2,Result.andThen_ok,q3,Sem.run_pure]) hk
end
section
variable {P:Program} {c:Cx} {n:Nn} {l:Sl} {W:List Res} {ops:Array Oper} {Q:Exit→Act→World→Prop} {rest:List Oper}
variable {d:Nat} {T:TypeId} {pos:String} {after:Array Edge}
theorem SD{o:Oper}{W':List Res}(hd:o.dst=none)(hg:o.guard=none)
  (h:∀a w,SatA n l a→SatW c W w→∃v w',(execOp a.eval o).run P w = .ok (.value v) w'∧SatW c W' w')
  (hk:Go c n l W' (wpList P ops Q rest)):Go c n l W (wpList P ops Q (o::rest)):=by
 intro a w ha hw
 obtain⟨v,w',hr,hw'⟩:=h a w ha hw
 refine wpList_plain hg fun K hK=>?_
 show o.upon P a K Q ((execOp a.eval o).run P w)
 rw[hr]
 show K (a.put o.dst v) w'
 rw[hd]
 exact hK _ _ (hk _ _ ha hw')
theorem yo{x:Operand}{b m lo hi:Nat}{kk:IntKind}{cs:List Nat}{t E U:TypeId}{R:List Res}(hx:ev l x=some (fi b m lo hi))(hf:Find W (.blk b (LV kk cs) U) R)
  (ht:P.underlying t=some (.slice E)) (hz:cE P E=some (N kk 0)) (hm:cs.length=m) (h1:lo≤hi) (h2:hi≤m)
  (hk:Go c n l (.blk b (LV kk (cs.take lo++List.replicate (hi-lo) 0++cs.drop hi)) U::R) (wpList P ops Q rest)):
  Go c n l W (wpList P ops Q (⟨none,.call { callee:=.builtin .clear,args:=#[x],argTypes:=#[t] },T,pos,after,none⟩::rest)):=
 SD rfl rfl (W':=.blk b (LV kk (cs.take lo++List.replicate (hi-lo) 0++cs.drop hi)) U::R)
  (fun a w ha hw=>by
   have hw:=hw.perm hf.perm
   have hh:w.heap[b]?=some (.cells (cs.map (N kk)).toArray U (0,0)):=hw.holds _ (List.mem_cons_self ..)
   by_cases he:hi-lo=0
   ·have e1:cs.take lo++List.replicate (hi-lo) 0++cs.drop hi=cs:=by
     rw[he,List.replicate_zero,List.append_nil,show hi=lo by omega,List.take_append_drop]
    rw[e1]
    refine⟨.tuple #[],w,?_,hw⟩
    simp[execOp,ha.ev hx,resolve,invoke,builtin,Builtin.clear_,run_underlying ht,fi,he]
   ·have hml:¬m=lo:=by omega
    have hzc:(Builtin.zeroCells (N kk 0).cells (hi-lo)).toList=List.replicate (hi-lo) (N kk 0):=by
     apply List.ext_getElem
     ·simp[Builtin.zeroCells,Value.cells]
     ·intro j h1' h2'
      simp[Builtin.zeroCells,Value.cells,Nat.mod_one]
    have hst:=en (P:=P) (off:=lo) (vs:=List.replicate (hi-lo) (N kk 0)) hh (by simp;omega) (fun v hv=>by rw[List.eq_of_mem_replicate hv];rfl)
    have e2:(cs.map (N kk)).take lo++List.replicate (hi-lo) (N kk 0)++(cs.map (N kk)).drop (lo+(List.replicate (hi-lo) (N kk 0)).length)=(cs.take lo++List.replicate (hi-lo) 0++cs.drop hi).map (N kk):=by
     rw[List.length_replicate,show lo+(hi-lo)=hi by omega]
     simp[List.map_append,List.map_take,List.map_drop]
    rw[e2]at hst
    refine⟨.tuple #[],w.setRow b ((cs.take lo++List.replicate (hi-lo) 0++cs.drop hi).map (N kk)).toArray,?_,cc hw (r':=.blk b (LV kk (cs.take lo++List.replicate (hi-lo) 0++cs.drop hi)) U) rfl rfl hh (fun w' h=>by simp only[Res.holds,LV,Value.cells];rw[h])⟩
    have hn0:hi-lo≠0:=he
    obtain⟨k,hk⟩:∃k,hi-lo=k+1:=⟨hi-lo-1,by omega⟩
    rw[hk]at hst hzc
    simp[execOp,ha.ev hx,resolve,invoke,builtin,Builtin.clear_,run_underlying ht,fi,if_neg hml,hk,cj hz,hzc,hst]) hk
end
end Go.Proofs.YtndhfbecpghinaaGreat.L
namespace Go.Proofs.YtndhfbecpghinaaGreat.L.Kf
open Pr
section aH
variable {n:Nat} [NeZero n]
def κ(n:Nat)[NeZero n](a:Nat):Fin n:=Fin.ofNat n a
theorem iO(x:Fin n):κ n x.val=x:=Fin.ext (Nat.mod_eq_of_lt x.isLt)
theorem dQ(a:Nat):(κ n a).val=a%n:=rfl
theorem sB{a b:Nat}:κ n a=κ n b↔a%n=b%n:=Fin.ext_iff
theorem mf(a:Nat):κ n (a%n)=κ n a:=Fin.ext (Nat.mod_mod a n)
theorem fL(a b:Nat):κ n (a+b)=κ n a+κ n b:=Fin.ext (by rw[Fin.val_add,dQ,dQ,dQ,← Nat.add_mod])
theorem go(a b:Nat):κ n (a*b)=κ n a*κ n b:=Fin.ext (by rw[Fin.val_mul,dQ,dQ,dQ,← Nat.mul_mod])
theorem κ_0:κ n 0=0:=rfl
theorem κ_1:κ n 1=1:=rfl
theorem κ_n:κ n n=0:=Fin.ext (by rw[dQ,Nat.mod_self];rfl)
theorem Bo{a b:Nat}(h:b≤a):κ n (a-b)=κ n a-κ n b:=by
 have h1:=fL (n:=n) (a-b) b
 rw[Nat.sub_add_cancel h]at h1
 rw[h1];grind
theorem wr{a:Nat}(h:a≤n):κ n (n-a) = - κ n a:=by
 rw[Bo h,κ_n];grind
theorem f4(a:Fin n)(k:Nat):a^(k+1)=a^k*a:=rfl
theorem Cn(a:Fin n):a^0=1:=rfl
theorem wt(a:Nat):∀k,κ n (a^k)=κ n a^k
 | 0=>rfl
 | k+1=>by rw[Nat.pow_succ,go,wt a k,f4]
theorem Nv(x:Fin n)(k:Nat):(x^k).val=x.val^k%n:=by
 rw[← dQ,wt,iO]
theorem nh(a:Fin n)(i:Nat):∀k,a^(i+k)=a^i*a^k
 | 0=>by rw[Cn];grind
 | k+1=>by rw[← Nat.add_assoc,f4,nh a i k,f4];grind
theorem rx(a:Fin n)(i:Nat):∀k,a^(i*k)=(a^i)^k
 | 0=>rfl
 | k+1=>by rw[Nat.mul_add,Nat.mul_one,nh,rx a i k,f4]
theorem FM{k:Nat}(h:0<k):(0:Fin n)^k=0:=by
 obtain⟨j,rfl⟩:∃j,k=j+1:=⟨k-1,by omega⟩
 rw[f4];grind
end aH
section field
variable {n:Nat} [NeZero n] (hp:aU n)
include hp
theorem cH:(1:Fin n)≠0:=by
 intro h
 have:=congrArg Fin.val h
 have h1:(κ n 1).val=0:=this
 rw[dQ,Nat.mod_eq_of_lt hp.1]at h1
 exact absurd h1 (by decide)
omit hp in
theorem dvd_zero{a:Nat}:κ n a=0↔n∣a:=by
 rw[← κ_0,sB,Nat.zero_mod]
 exact⟨Nat.dvd_of_mod_eq_zero,Nat.mod_eq_zero_of_dvd⟩
theorem cR{a b:Fin n}(h:a*b=0):a=0∨b=0:=by
 rw[← iO a,← iO b,← go,dvd_zero]at h
 rcases hp.dvd_mul h with h1 | h1
 ·exact .inl (by rw[← iO a];exact(dvd_zero).2 h1)
 ·exact .inr (by rw[← iO b];exact(dvd_zero).2 h1)
theorem La{a b c:Fin n}(hc:c≠0)(h:a*c=b*c):a=b:=by
 have:(a-b)*c=0:=by grind
 rcases cR hp this with h1 | h1
 ·grind
 ·exact absurd h1 hc
theorem kI{a:Fin n}(h:a≠0):a^(n-1)=1:=by
 have h1:¬n∣a.val:=fun hd=>h (by rw[← iO a];exact(dvd_zero).2 hd)
 have h2:=z9 hp h1
 refine Fin.ext ?_
 rw[Nv,h2]
 show 1=1%n
 rw[Nat.mod_eq_of_lt hp.1]
theorem w4(a:Fin n):a^n=a:=by
 have h1:=hp.1
 by_cases h:a=0
 ·subst h;exact FM (by omega)
 ·have h2:=kI hp h
  have h3:=f4 a (n-1)
  rw[h2,Nat.sub_add_cancel (by omega)]at h3
  rw[h3];grind
omit hp
def inv(a:Fin n):Fin n:=a^(n-2)
include hp
theorem kO{a:Fin n}(h:a≠0):a*inv a=1:=by
 have h1:=hp.1
 have h2:=kI hp h
 rw[show n-1=n-2+1 by omega,f4]at h2
 rw[inv];grind
theorem Ak{a b:Fin n}(h:a*b=1):inv a=b:=by
 have ha:a≠0:=by
  rintro rfl
  exact cH hp (by grind)
 have h1:=kO hp ha
 refine La hp ha ?_
 grind
theorem Jh{a b:Fin n}(h:a*a=b*b):a=b∨a = -b:=by
 have:(a-b)*(a+b)=0:=by grind
 rcases cR hp this with h1 | h1
 ·exact .inl (by grind)
 ·exact .inr (by grind)
end field
end Go.Proofs.YtndhfbecpghinaaGreat.L.Kf
namespace Go.Proofs.YtndhfbecpghinaaGreat.L.Kf
open Pr
abbrev P3(n:Nat):Prop:=aU n∧n%4=3
section roots
variable {n:Nat} [NeZero n]
def rt(a:Fin n):Fin n:=a^((n+1)/4)
def isq(a:Fin n):Bool:=rt a*rt a==a
def sg(a:Fin n):Nat:=a.val%2
def evn(a:Fin n):Fin n:=if sg a=1 then -a else a
variable (hp:P3 n)
include hp
theorem Ba:(2:Fin n)≠0:=by
 have h3:=hp.2
 intro h
 have:κ n 2=0:=h
 rw[dvd_zero]at this
 have:=Nat.le_of_dvd (by decide) this
 omega
theorem OC(a:Fin n):rt a*rt a=a^((n-1)/2)*a:=by
 have h3:=hp.2
 rw[rt,← nh,← f4]
 congr 1;omega
theorem xo(x:Fin n):(x*x)^((n-1)/2)=x^(n-1):=by
 have h3:=hp.2
 have:x*x=x^2:=by rw[f4,f4,Cn];grind
 rw[this,← rx]
 congr 1;omega
theorem yc{a x:Fin n}(h:x*x=a):rt a*rt a=a:=by
 rw[OC hp,← h,xo hp]
 by_cases hx:x=0
 ·subst hx;grind
 ·rw[kI hp.1 hx];grind
theorem ca{a:Fin n}:isq a=true↔∃x,x*x=a:=by
 rw[isq,beq_iff_eq]
 exact⟨fun h=>⟨_,h⟩,fun⟨x,h⟩=>yc hp h⟩
theorem Hv{a:Fin n}(ha:a≠0):a^((n-1)/2)=1∨a^((n-1)/2) = -1:=by
 have h3:=hp.2
 have h1:a^((n-1)/2)*a^((n-1)/2)=1*1:=by
  rw[← nh,show(n-1)/2+(n-1)/2=n-1 by omega,kI hp.1 ha];grind
 exact Jh hp.1 h1
theorem Jk(a:Fin n):isq a=true∨isq (-a)=true:=by
 by_cases ha:a=0
 ·subst ha;left;exact(ca hp).2 ⟨0,by grind⟩
 ·have h1:=OC hp a
  rcases Hv hp ha with h | h
  ·left;rw[h]at h1;exact(ca hp).2 ⟨rt a,by grind⟩
  ·right;rw[h]at h1;exact(ca hp).2 ⟨rt a,by grind⟩
omit hp in
theorem Cf:∀k:Nat,(-1:Fin n)^(2*k+1) = -1
 | 0=>by rw[f4,Cn];grind
 | k+1=>by rw[show 2*(k+1)+1=2*k+1+1+1 by omega,f4,f4,Cf k];grind
theorem AB(x:Fin n):x*x ≠ -1:=by
 have h3:=hp.2
 intro h
 have hx:x≠0:=by
  rintro rfl
  exact cH hp.1 (by grind)
 have h1:=xo hp x
 rw[h,kI hp.1 hx,show(n-1)/2=2*(n/4)+1 by omega,Cf]at h1
 exact Ba hp (by grind)
theorem JF{x y:Fin n}(h:x*x+y*y=0):x=0∧y=0:=by
 by_cases hy:y=0
 ·subst hy
  have:x*x=0:=by grind
  rcases cR hp.1 this with h1 | h1 <;> exact⟨h1,rfl⟩
 ·exfalso
  have h1:=kO hp.1 hy
  refine AB hp (x*inv y) ?_
  have:(x*inv y)*(x*inv y)=(x*x)*(inv y*inv y):=by grind
  rw[this,show x*x = -(y*y) by grind]
  have:-(y*y)*(inv y*inv y) = -((y*inv y)*(y*inv y)):=by grind
  rw[this,h1];grind
theorem Im{a:Fin n}(ha:a≠0)(h1:isq a=true)(h2:isq (-a)=true):False:=by
 obtain⟨x,hx⟩:=(ca hp).1 h1
 obtain⟨y,hy⟩:=(ca hp).1 h2
 have:=JF hp (x:=x) (y:=y) (by grind)
 exact ha (by rw[← hx,this.1];grind)
theorem fP{a:Fin n}(ha:a≠0):isq (-a) = !isq a:=by
 cases h1:isq a
 ·rcases Jk hp a with h | h
  ·rw[h1]at h;exact absurd h (by decide)
  ·rw[h];rfl
 ·cases h2:isq (-a)
  ·rfl
  ·exact(Im hp ha h1 h2).elim
theorem B6{a b:Fin n}(ha:a≠0)(hb:b≠0):isq (a*b)=(isq a==isq b):=by
 have hm:∀x y:Fin n,isq x=true→isq y=true→isq (x*y)=true:=by
  intro x y hx hy
  obtain⟨s,hs⟩:=(ca hp).1 hx
  obtain⟨t,ht⟩:=(ca hp).1 hy
  exact(ca hp).2 ⟨s*t,by grind⟩
 have hab:a*b≠0:=fun h=>by
  rcases cR hp.1 h with h | h
  ·exact ha h
  ·exact hb h
 have e1:-a*b = -(a*b):=by grind
 have e2:a * -b = -(a*b):=by grind
 have e3:-a * -b=a*b:=by grind
 cases h1:isq a <;> cases h2:isq b
 ·rw[← e3,hm _ _ (by rw[fP hp ha,h1];rfl) (by rw[fP hp hb,h2];rfl)];rfl
 ·have:=hm (-a) b (by rw[fP hp ha,h1];rfl) h2
  rw[e1,fP hp hab]at this
  cases h:isq (a*b)
  ·rfl
  ·rw[h]at this;exact absurd this (by decide)
 ·have:=hm a (-b) h1 (by rw[fP hp hb,h2];rfl)
  rw[e2,fP hp hab]at this
  cases h:isq (a*b)
  ·rfl
  ·rw[h]at this;exact absurd this (by decide)
 ·rw[hm a b h1 h2];rfl
omit hp in
theorem Nu{a:Fin n}(ha:a≠0):(-a).val=n-a.val:=by
 have h0:a.val≠0:=fun h=>ha (Fin.ext h)
 have:=a.isLt
 rw[← iO a,← wr (by omega),dQ,dQ,Nat.mod_eq_of_lt this,Nat.mod_eq_of_lt (by omega)]
theorem I9{a:Fin n}(ha:a≠0):sg a+sg (-a)=1:=by
 have h3:=hp.2
 have h:=Nu ha
 have:=a.isLt
 rw[sg,sg,h];omega
omit hp
include hp
omit hp
theorem QO(a:Fin n):evn a*evn a=a*a:=by
 rw[evn];split <;> grind
end roots
structure K2 (n:Nat) where
 re:Fin n
 im:Fin n
deriving DecidableEq
namespace K2
variable {n:Nat} [NeZero n]
omit [NeZero n] in
theorem ext'{a b:K2 n}(h1:a.re=b.re)(h2:a.im=b.im):a=b:=by
 cases a;cases b;cases h1;cases h2;rfl
def zero:K2 n:=⟨0,0⟩
def one:K2 n:=⟨1,0⟩
def add(a b:K2 n):K2 n:=⟨a.re+b.re,a.im+b.im⟩
def neg(a:K2 n):K2 n:=⟨-a.re,-a.im⟩
def sub(a b:K2 n):K2 n:=⟨a.re-b.re,a.im-b.im⟩
def mul(a b:K2 n):K2 n:=⟨a.re*b.re-a.im*b.im,a.re*b.im+a.im*b.re⟩
def conj(a:K2 n):K2 n:=⟨a.re,-a.im⟩
def gp(a:K2 n)(k:Fin n):K2 n:=⟨a.re*k,a.im*k⟩
def bW(a:K2 n):Fin n:=a.re*a.re+a.im*a.im
def inv(a:K2 n):K2 n:=gp (conj a) (Kf.inv (bW a))
def pw(a:K2 n):Nat→K2 n
 | 0=>one
 | k+1=>mul (pw a k) a
def sgn(a:K2 n):Nat:=if a.re=0 then sg a.im else sg a.re
theorem mul_comm'(a b:K2 n):mul a b=mul b a:=ext' (by simp only[mul];grind) (by simp only[mul];grind)
theorem mul_assoc'(a b c:K2 n):mul (mul a b) c=mul a (mul b c):=ext' (by simp only[mul];grind) (by simp only[mul];grind)
theorem mul_one'(a:K2 n):mul a one=a:=ext' (by simp only[mul,one];grind) (by simp only[mul,one];grind)
theorem aR(a:K2 n):mul one a=a:=ext' (by simp only[mul,one];grind) (by simp only[mul,one];grind)
theorem mul_add'(a b c:K2 n):mul a (add b c)=add (mul a b) (mul a c):=ext' (by simp only[mul,add];grind) (by simp only[mul,add];grind)
theorem aj(a:K2 n):mul a zero=zero:=ext' (by simp only[mul,zero];grind) (by simp only[mul,zero];grind)
theorem add_zero'(a:K2 n):add a zero=a:=ext' (by simp only[add,zero];grind) (by simp only[add,zero];grind)
theorem add_comm'(a b:K2 n):add a b=add b a:=ext' (by simp only[add];grind) (by simp only[add];grind)
theorem add_assoc'(a b c:K2 n):add (add a b) c=add a (add b c):=ext' (by simp only[add];grind) (by simp only[add];grind)
theorem i7(a b:K2 n):bW (mul a b)=bW a*bW b:=by simp only[bW,mul];grind
theorem bv(a:K2 n):neg (neg a)=a:=ext' (by simp only[neg];grind) (by simp only[neg];grind)
theorem oR(a b:K2 n):mul (neg a) (neg b)=mul a b:=ext' (by simp only[mul,neg];grind) (by simp only[mul,neg];grind)
theorem dP(a:K2 n)(i:Nat):∀k,pw a (i+k)=mul (pw a i) (pw a k)
 | 0=>by rw[pw,mul_one',Nat.add_zero]
 | k+1=>by rw[← Nat.add_assoc,pw,dP a i k,pw,mul_assoc']
theorem bN(a:K2 n)(i:Nat):∀k,pw a (i*k)=pw (pw a i) k
 | 0=>rfl
 | k+1=>by rw[Nat.mul_add,Nat.mul_one,dP,bN a i k,pw]
theorem ef(a b:K2 n):∀k,pw (mul a b) k=mul (pw a k) (pw b k)
 | 0=>by simp only[pw,mul_one']
 | k+1=>by
  rw[pw,ef a b k,pw,pw]
  generalize pw a k=x;generalize pw b k=y
  exact ext' (by simp only[mul];grind) (by simp only[mul];grind)
theorem ek:∀k,pw (one:K2 n) k=one
 | 0=>rfl
 | k+1=>by rw[pw,ek k,mul_one']
theorem AM(a:K2 n):pw a 1=a:=aR a
theorem nk(x:Fin n):∀k,pw ⟨x,0⟩ k=⟨x^k,0⟩
 | 0=>rfl
 | k+1=>by rw[pw,nk x k,f4];exact ext' (by simp only[mul];grind) (by simp only[mul];grind)
variable (hp:P3 n)
include hp
theorem oh{a:K2 n}(h:bW a=0):a=zero:=by
 have:=JF hp h
 exact ext' this.1 this.2
theorem pL{a:K2 n}(h:a≠zero):bW a≠0:=fun hc=>h (oh hp hc)
theorem aW{a b:K2 n}(h:mul a b=zero):a=zero∨b=zero:=by
 have h1:bW a*bW b=0:=by rw[← i7,h];simp only[bW,zero];grind
 rcases cR hp.1 h1 with h2 | h2
 ·exact .inl (oh hp h2)
 ·exact .inr (oh hp h2)
theorem aI{a:K2 n}(h:a≠zero):mul a (inv a)=one:=by
 have h1:=kO hp.1 (pL hp h)
 generalize hN:Kf.inv (bW a)=N at h1
 simp only[inv,hN]
 simp only[bW]at h1
 refine ext' ?_ ?_
 ·simp only[mul,gp,conj,one];grind
 ·simp only[mul,gp,conj,one];grind
theorem Bw{a b c:K2 n}(hc:c≠zero)(h:mul a c=mul b c):a=b:=by
 have h1:mul (mul a c) (inv c)=mul (mul b c) (inv c):=by rw[h]
 rwa [mul_assoc',mul_assoc',aI hp hc,mul_one',mul_one']at h1
theorem Ji{a b:K2 n}(h:mul a a=mul b b):a=b∨a=neg b:=by
 have:mul (sub a b) (add a b)=zero:=by
  have e1:=congrArg re h
  have e2:=congrArg im h
  simp only[mul]at e1 e2
  refine ext' ?_ ?_
  ·simp only[mul,sub,add,zero];grind
  ·simp only[mul,sub,add,zero];grind
 rcases aW hp this with h1 | h1
 ·left
  have e1:=congrArg re h1
  have e2:=congrArg im h1
  simp only[sub,zero]at e1 e2
  exact ext' (by grind) (by grind)
 ·right
  have e1:=congrArg re h1
  have e2:=congrArg im h1
  simp only[add,zero]at e1 e2
  exact ext' (by simp only[neg];grind) (by simp only[neg];grind)
theorem CF{a:K2 n}(ha:a≠zero):sgn a+sgn (neg a)=1:=by
 by_cases h:a.re=0
 ·have him:a.im≠0:=fun hc=>ha (ext' h hc)
  have e1:sgn a=sg a.im:=if_pos h
  have e2:sgn (neg a)=sg (-a.im):=if_pos (show -a.re=0 by rw[h];grind)
  rw[e1,e2]
  exact I9 hp him
 ·have e1:sgn a=sg a.re:=if_neg h
  have e2:sgn (neg a)=sg (-a.re):=if_neg (show ¬ -a.re=0 from fun hc=>h (by grind))
  rw[e1,e2]
  exact I9 hp h
omit hp
theorem Jc:sgn (zero:K2 n)=0:=by simp only[sgn,zero,if_true];rfl
theorem bk:neg (zero:K2 n)=zero:=ext' (by simp only[neg,zero];grind) (by simp only[neg,zero];grind)
def dk(a:K2 n):K2 n:=if sgn a=1 then neg a else a
theorem AS(a:K2 n):sgn a<2:=by
 simp only[sgn];split <;> exact Nat.mod_lt _ (by decide)
include hp
theorem yd(a:K2 n):sgn (dk a)=0:=by
 rw[dk]
 have:=AS a
 split
 ·rename_i h
  by_cases ha:a=zero
  ·subst ha;exact absurd h (by rw[Jc];decide)
  ·have:=CF hp ha;omega
 ·omega
omit hp
theorem BL(a:K2 n):mul (dk a) (dk a)=mul a a:=by
 rw[dk];split
 ·exact oR a a
 ·rfl
include hp
end K2
end Go.Proofs.YtndhfbecpghinaaGreat.L.Kf
namespace Go.Proofs.YtndhfbecpghinaaGreat.L.Kf
open Pr
namespace K2
variable {n:Nat} [NeZero n]
def ch:Nat→Nat→Nat
 | _,0=>1
 | 0,_+1=>0
 | m+1,k+1=>ch m k+ch m (k+1)
theorem uE(m:Nat):ch m 0=1:=by cases m <;> rfl
theorem sS:∀{m k:Nat},m<k→ch m k=0
 | 0,0,h=>absurd h (by decide)
 | 0,_+1,_=>rfl
 | m+1,0,h=>absurd h (by omega)
 | m+1,k+1,h=>by rw[ch,sS (by omega),sS (by omega)]
theorem pD:∀m,ch m m=1
 | 0=>rfl
 | m+1=>by rw[ch,pD m,sS (by omega)]
theorem uF:∀m k,(k+1)*ch (m+1) (k+1)=(m+1)*ch m k
 | 0,0=>rfl
 | 0,k+1=>by rw[sS (by omega),sS (m:=0) (by omega)];omega
 | m+1,0=>by
  have h0:ch (m+1+1) (0+1)=ch (m+1) 0+ch (m+1) (0+1):=rfl
  have:=uF m 0
  rw[uE]at this
  rw[h0,uE]
  omega
 | m+1,j+1=>by
  have h1:=uF m j
  have h2:=uF m (j+1)
  rw[ch]
  have h3:ch (m+1) (j+1)=ch m j+ch m (j+1):=rfl
  generalize ch (m+1) (j+1+1)=a at *
  generalize ch m (j+1)=b at *
  generalize ch m j=c at *
  generalize ch (m+1) (j+1)=d at *
  subst h3
  grind
omit [NeZero n] in
theorem zU(hp:aU n){k:Nat}(h0:0<k)(hk:k<n):n∣ch n k:=by
 obtain⟨j,rfl⟩:∃j,k=j+1:=⟨k-1,by omega⟩
 have h:=uF (n-1) j
 rw[Nat.sub_add_cancel (by omega)]at h
 rcases hp.dvd_mul (a:=j+1) (b:=ch n (j+1)) ⟨_,h⟩with h1 | h1
 ·have:=Nat.le_of_dvd (by omega) h1
  omega
 ·exact h1
def nm(c:Nat)(a:K2 n):K2 n:=gp a (κ n c)
def sm(f:Nat→K2 n):Nat→K2 n
 | 0=>zero
 | k+1=>add (sm f k) (f k)
theorem jE{f:Nat→K2 n}:∀{R},(∀k,k<R→f k=zero)→sm f R=zero
 | 0,_=>rfl
 | R+1,h=>by rw[sm,jE fun k hk=>h k (by omega),h R (by omega),add_zero']
theorem gZ{f g:Nat→K2 n}:∀{R},(∀k,k<R→f k=g k)→sm f R=sm g R
 | 0,_=>rfl
 | R+1,h=>by rw[sm,sm,gZ fun k hk=>h k (by omega),h R (by omega)]
theorem dG(f:Nat→K2 n):∀R,sm f (R+1)=add (f 0) (sm (fun k=>f (k+1)) R)
 | 0=>by rw[sm,sm,sm,add_comm']
 | R+1=>by rw[sm,dG f R,sm,add_assoc']
theorem rJ(f g:Nat→K2 n):∀R,sm (fun k=>add (f k) (g k)) R=add (sm f R) (sm g R)
 | 0=>(add_zero' _).symm
 | R+1=>by
  rw[sm,rJ f g R,sm,sm]
  generalize sm f R=a;generalize sm g R=b
  exact ext' (by simp only[add];grind) (by simp only[add];grind)
theorem rK(a:K2 n)(f:Nat→K2 n):∀R,mul a (sm f R)=sm (fun k=>mul a (f k)) R
 | 0=>aj a
 | R+1=>by rw[sm,mul_add',rK a f R,sm]
theorem RI(b c:Nat)(a:K2 n):nm (b+c) a=add (nm b a) (nm c a):=by
 simp only[nm,fL]
 exact ext' (by simp only[gp,add];grind) (by simp only[gp,add];grind)
theorem AD(a:K2 n):nm 1 a=a:=by
 simp only[nm,κ_1]
 exact ext' (by simp only[gp];grind) (by simp only[gp];grind)
theorem UK{c:Nat}(h:κ n c=0)(a:K2 n):nm c a=zero:=by
 simp only[nm,h]
 exact ext' (by simp only[gp,zero];grind) (by simp only[gp,zero];grind)
theorem RJ(c:Nat)(a b:K2 n):mul a (nm c b)=nm c (mul b a):=
 ext' (by simp only[gp,nm,mul];grind) (by simp only[gp,nm,mul];grind)
theorem qi(X:K2 n):∀m R,m<R→pw (add X one) m=sm (fun k=>nm (ch m k) (pw X k)) R
 | 0,R,h=>by
  obtain⟨r,rfl⟩:∃r,R=r+1:=⟨R-1,by omega⟩
  rw[dG,jE (f:=fun k=>nm (ch 0 (k+1)) (pw X (k+1))) fun k _=>UK rfl _,add_zero']
  show one=nm 1 one
  rw[AD]
 | m+1,R,h=>by
  obtain⟨r,rfl⟩:∃r,R=r+1:=⟨R-1,by omega⟩
  have h1:=qi X m r (by omega)
  have h2:=qi X m (r+1) (by omega)
  rw[dG]at h2
  rw[pw,mul_add',mul_one',dG]
  have e1:mul (pw (add X one) m) X=sm (fun k=>nm (ch m k) (pw X (k+1))) r:=by
   rw[mul_comm',h1,rK]
   exact gZ fun k _=>by rw[RJ,pw]
  have e2:sm (fun k=>nm (ch (m+1) (k+1)) (pw X (k+1))) r=add (sm (fun k=>nm (ch m k) (pw X (k+1))) r) (sm (fun k=>nm (ch m (k+1)) (pw X (k+1))) r):=by
   rw[← rJ]
   exact gZ fun k _=>by rw[ch,RI]
  rw[e1,e2,h2,uE,uE]
  generalize sm (fun k=>nm (ch m k) (pw X (k+1))) r=a
  generalize sm (fun k=>nm (ch m (k+1)) (pw X (k+1))) r=b
  generalize nm 1 (pw X 0)=c
  exact ext' (by simp only[add];grind) (by simp only[add];grind)
theorem wq{k:Nat}(h:0<k):pw (zero:K2 n) k=zero:=by
 obtain⟨j,rfl⟩:∃j,k=j+1:=⟨k-1,by omega⟩
 rw[pw,aj]
theorem Hc(hp:aU n)(X:K2 n):pw (add X one) n=add (pw X n) one:=by
 have h1:=hp.1
 obtain⟨m,hm⟩:∃m,n=m+1:=⟨n-1,by omega⟩
 have h:=qi X n (n+1) (by omega)
 rw[h,sm,pD,AD,add_comm']
 congr 1
 have:∀N,N=m+1→sm (fun k=>nm (ch n k) (pw X k)) N=one:=by
  rintro N rfl
  rw[dG,jE (f:=fun k=>nm (ch n (k+1)) (pw X (k+1))) fun k hk=>UK ((dvd_zero).2 (zU hp (by omega) (by omega))) _,add_zero',uE,AD]
  rfl
 exact this n hm
variable (hp:P3 n)
include hp
theorem qL(X Y:K2 n):pw (add X Y) n=add (pw X n) (pw Y n):=by
 by_cases hY:Y=zero
 ·subst hY
  rw[add_zero',wq hp.1.pos,add_zero']
 ·have e1:add X Y=mul (add (mul X (inv Y)) one) Y:=by
   rw[mul_comm',mul_add',mul_one',mul_comm' X,← mul_assoc',aI hp hY,aR]
  have e2:mul (mul X (inv Y)) Y=X:=by
   rw[mul_assoc',mul_comm' (inv Y),aI hp hY,mul_one']
  rw[e1,ef,Hc hp.1,mul_comm',mul_add',mul_one',mul_comm' (pw Y n),← ef,e2]
theorem Uo(a:K2 n):pw a n=conj a:=by
 have h3:=hp.2
 have e:a=add ⟨a.re,0⟩ (mul ⟨a.im,0⟩ ⟨0,1⟩):=ext' (by simp only[add,mul];grind) (by simp only[add,mul];grind)
 have hu:pw (⟨0,1⟩:K2 n) n=⟨0,-1⟩:=by
  have h4:pw (⟨0,1⟩:K2 n) 4=one:=by
   simp only[pw,one]
   exact ext' (by simp only[mul];grind) (by simp only[mul];grind)
  have:∀N,N=4*(n/4)+3→pw (⟨0,1⟩:K2 n) N=⟨0,-1⟩:=by
   rintro N rfl
   rw[dP,bN,h4,ek,aR]
   simp only[pw,one]
   exact ext' (by simp only[mul];grind) (by simp only[mul];grind)
  exact this n (by omega)
 conv=>lhs;rw[e]
 rw[qL hp,ef,nk,nk,w4 hp.1,w4 hp.1,hu]
 exact ext' (by simp only[add,mul,conj];grind) (by simp only[add,mul,conj];grind)
omit hp
def hv(n:Nat)[NeZero n]:Fin n:=κ n ((n+1)/2)
def fsq(a:Fin n):Fin n×Bool:=if rt a*rt a=a then(evn (rt a),true)else(0,false)
def f8(a:K2 n)(m:Fin n):K2 n×Bool:=
 if(fsq ((a.re+m)*hv n)).1=0 then
  (dk ⟨0,(fsq (-a.re)).1⟩,(fsq (-a.re)).2&&decide (mul (dk ⟨0,(fsq (-a.re)).1⟩) (dk ⟨0,(fsq (-a.re)).1⟩)=a))
 else(dk ⟨(fsq ((a.re+m)*hv n)).1,a.im*hv n*Kf.inv (fsq ((a.re+m)*hv n)).1⟩,(fsq ((a.re+m)*hv n)).2&&decide (mul (dk ⟨(fsq ((a.re+m)*hv n)).1,a.im*hv n*Kf.inv (fsq ((a.re+m)*hv n)).1⟩) (dk ⟨(fsq ((a.re+m)*hv n)).1,a.im*hv n*Kf.inv (fsq ((a.re+m)*hv n)).1⟩)=a))
def cK(a:K2 n):K2 n×Bool:=
 if(fsq (bW a)).2 then
  if(f8 a (fsq (bW a)).1).2 then((f8 a (fsq (bW a)).1).1,true)
  else if(f8 a (-(fsq (bW a)).1)).2 then((f8 a (-(fsq (bW a)).1)).1,true)
  else(zero,false)
 else(zero,false)
def P5(a:K2 n)(r:K2 n×Bool):Prop:=(r.2=true∧mul r.1 r.1=a∧sgn r.1=0)∨(r.2=false∧r.1=zero∧∀w,mul w w≠a)
include hp
theorem LG:2*hv n=1:=by
 have h3:=hp.2
 have h:κ n (2*((n+1)/2))=1:=by
  rw[show 2*((n+1)/2)=n+1 by omega,fL,κ_n,κ_1];grind
 rw[go]at h
 exact h
theorem pF{a x:Fin n}(h:x*x=a):(fsq a).2=true∧(fsq a).1*(fsq a).1=a:=by
 have h1:=yc hp h
 rw[fsq,if_pos h1]
 exact⟨rfl,by show evn (rt a)*evn (rt a)=a;rw[QO,h1]⟩
omit hp
include hp
theorem r5{a:K2 n}{m:Fin n}(h:(f8 a m).2=true):mul (f8 a m).1 (f8 a m).1=a∧sgn (f8 a m).1=0:=by
 rw[f8]at h ⊢
 split
 ·rename_i hc
  rw[if_pos hc]at h
  simp only[Bool.and_eq_true,decide_eq_true_eq]at h
  exact⟨h.2,yd hp _⟩
 ·rename_i hc
  rw[if_neg hc]at h
  simp only[Bool.and_eq_true,decide_eq_true_eq]at h
  exact⟨h.2,yd hp _⟩
theorem JR{a w:K2 n}(h:mul w w=a):(f8 a (w.re*w.re+w.im*w.im)).2=true:=by
 have h2:=LG hp
 generalize hv n=v at h2
 obtain⟨s,t⟩:=w
 have e1:a.re=s*s-t*t:=by rw[← h];rfl
 have e2:a.im=s*t+t*s:=by rw[← h];rfl
 have e3:(a.re+(s*s+t*t))*hv n=s*s:=by
  have h2:=LG hp
  rw[e1]
  generalize hv n=v at h2
  grind
 have hx:=pF hp (x:=s) (a:=s*s) rfl
 simp only[f8]
 rw[e3]
 generalize hX:(fsq (s*s)).1=X at hx
 by_cases h0:X=0
 ·rw[if_pos h0]
  have hs:s=0:=by
   have:s*s=0:=by rw[← hx.2,h0];grind
   rcases cR hp.1 this with h | h <;> exact h
  have hy:=pF hp (x:=t) (a:=-a.re) (by rw[e1,hs];grind)
  generalize (fsq (-a.re)).1=Y at hy
  simp only[Bool.and_eq_true,decide_eq_true_eq]
  refine⟨hy.1,?_⟩
  rw[BL]
  have hy2:=hy.2
  rw[e1]at hy2
  subst hs
  refine ext' ?_ ?_
  ·rw[e1];simp only[mul];grind
  ·rw[e2];simp only[mul];grind
 ·rw[if_neg h0]
  simp only[Bool.and_eq_true,decide_eq_true_eq]
  refine⟨hx.1,?_⟩
  rw[BL]
  have hi:=kO hp.1 h0
  have hv2:=LG hp
  have hx2:=hx.2
  generalize Kf.inv X=I at hi
  generalize hv n=v at hv2
  have hy:a.im*v*I=s*t*I:=by rw[e2];grind
  rw[hy]
  refine ext' ?_ ?_
  ·rw[e1];simp only[mul]
   have:s*t*I*(s*t*I)=(s*s)*(t*t)*(I*I):=by grind
   rw[this,← hx2]
   have:X*X*(t*t)*(I*I)=t*t*((X*I)*(X*I)):=by grind
   rw[this,hi];grind
  ·rw[e2];simp only[mul]
   have:X*(s*t*I)=s*t*(X*I):=by grind
   rw[this]
   have:s*t*I*X=s*t*(X*I):=by grind
   rw[this,hi];grind
theorem jF(a:K2 n):P5 a (cK a):=by
 have key:∀w,mul w w=a→(fsq (bW a)).2=true∧((f8 a (fsq (bW a)).1).2=true∨(f8 a (-(fsq (bW a)).1)).2=true):=by
  intro w hw
  have hN:(w.re*w.re+w.im*w.im)*(w.re*w.re+w.im*w.im)=bW a:=by rw[← hw,i7];rfl
  have h1:=pF hp hN
  refine⟨h1.1,?_⟩
  have ht:=JR hp hw
  rcases Jh hp.1 (h1.2.trans hN.symm)with h | h
  ·left;rw[h];exact ht
  ·right;rw[h,show -(-(w.re*w.re+w.im*w.im))=w.re*w.re+w.im*w.im by grind];exact ht
 rw[cK]
 split
 ·split
  ·rename_i h
   exact .inl ⟨rfl,r5 hp h⟩
  ·rename_i hn1
   split
   ·rename_i h
    exact .inl ⟨rfl,r5 hp h⟩
   ·rename_i hn2
    refine .inr ⟨rfl,rfl,fun w hw=>?_⟩
    rcases(key w hw).2 with h | h
    ·exact hn1 h
    ·exact hn2 h
 ·rename_i hn
  exact .inr ⟨rfl,rfl,fun w hw=>hn (key w hw).1⟩
omit hp
def gv(a:K2 n):Bool:=(cK a).2
include hp
theorem eY{a:K2 n}:gv a=true↔∃w,mul w w=a:=by
 rcases jF hp a with⟨h1,h2,_⟩ | ⟨h1,_,h2⟩
 ·exact⟨fun _=>⟨_,h2⟩,fun _=>h1⟩
 ·exact⟨fun h=>(by rw[gv,h1]at h;exact absurd h (by decide)),fun⟨w,hw⟩=>absurd hw (h2 w)⟩
theorem fC(a:K2 n):gv a=isq (bW a):=by
 have h1:gv a=true→isq (bW a)=true:=by
  intro h
  obtain⟨w,rfl⟩:=(eY hp).1 h
  rw[i7]
  exact(ca hp).2 ⟨_,rfl⟩
 have h2:isq (bW a)=true→gv a=true:=by
  intro h
  obtain⟨m,hm⟩:=(ca hp).1 h
  have hv2:=LG hp
  refine(eY hp).2 ?_
  by_cases hi:a.im=0
  ·rcases Jk hp a.re with hr | hr
   ·obtain⟨x,hx⟩:=(ca hp).1 hr
    exact⟨⟨x,0⟩,ext' (by simp only[mul];grind) (by simp only[mul];grind)⟩
   ·obtain⟨x,hx⟩:=(ca hp).1 hr
    exact⟨⟨0,x⟩,ext' (by simp only[mul];grind) (by simp only[mul];grind)⟩
  ·have hN:bW a=a.re*a.re+a.im*a.im:=rfl
   rw[hN]at hm
   generalize hv n=v at hv2
   have key:∀x m':Fin n,m'*m'=a.re*a.re+a.im*a.im→x*x=(a.re+m')*v→∃w,mul w w=a:=by
    intro x m' hm' hx
    have hx0:x≠0:=by
     rintro rfl
     have h0:m' = -a.re:=by
      have:2*((a.re+m')*v)=0:=by rw[← hx];grind
      have:(a.re+m')*(2*v)=0:=by grind
      rw[hv2]at this;grind
     have:a.im*a.im=0:=by rw[h0]at hm';grind
     rcases cR hp.1 this with h | h <;> exact hi h
    have hI:=kO hp.1 hx0
    generalize Kf.inv x=I at hI
    refine⟨⟨x,a.im*v*I⟩,ext' ?_ ?_⟩
    ·simp only[mul]
     have h5:(a.im*v)*(a.im*v)=(x*x)*(x*x)-a.re*(x*x):=by
      rw[hx]
      have:a.im*a.im=m'*m'-a.re*a.re:=by grind
      have e:(a.im*v)*(a.im*v)=(a.im*a.im)*(v*v):=by grind
      rw[e,this]
      have:2*v*v=v:=by rw[hv2];grind
      grind
     have h6:a.im*v*I*(a.im*v*I)=(a.im*v)*(a.im*v)*(I*I):=by grind
     rw[h6,h5]
     have h7:((x*x)*(x*x)-a.re*(x*x))*(I*I)=(x*x)*((x*I)*(x*I))-a.re*((x*I)*(x*I)):=by grind
     rw[h7,hI];grind
    ·simp only[mul]
     have:x*(a.im*v*I)+a.im*v*I*x=a.im*(2*v)*(x*I):=by grind
     rw[this,hv2,hI];grind
   rcases Jk hp ((a.re+m)*v)with hr | hr
   ·obtain⟨x,hx⟩:=(ca hp).1 hr
    exact key x m hm hx
   ·
    have hne:(a.re+m)*v≠0:=by
     intro h0
     have h00:(a.re+m)*(2*v)=0:=by grind
     rw[hv2]at h00
     have hme:m = -a.re:=by grind
     have:a.im*a.im=0:=by rw[hme]at hm;grind
     rcases cR hp.1 this with h | h <;> exact hi h
    have hne2:(a.re-m)*v≠0:=by
     intro h0
     have h00:(a.re-m)*(2*v)=0:=by grind
     rw[hv2]at h00
     have hme:m=a.re:=by grind
     have:a.im*a.im=0:=by rw[hme]at hm;grind
     rcases cR hp.1 this with h | h <;> exact hi h
    have hprod:-((a.re+m)*v)*((a.re-m)*v)=(a.im*v)*(a.im*v):=by
     have:a.im*a.im=m*m-a.re*a.re:=by grind
     have e:(a.im*v)*(a.im*v)=(a.im*a.im)*(v*v):=by grind
     rw[e,this];grind
    have hsq:isq ((a.im*v)*(a.im*v))=true:=(ca hp).2 ⟨_,rfl⟩
    rw[← hprod,B6 hp (fun h=>hne (by grind)) hne2,hr]at hsq
    have hr2:isq ((a.re-m)*v)=true:=by
     cases h:isq ((a.re-m)*v)
     ·rw[h]at hsq;exact absurd hsq (by decide)
     ·rfl
    obtain⟨x,hx⟩:=(ca hp).1 hr2
    exact key x (-m) (by grind) (by rw[hx];grind)
 cases h:gv a
 ·cases k:isq (bW a)
  ·rfl
  ·rw[h2 k]at h;exact absurd h (by decide)
 ·rw[h1 h]
end K2
end Go.Proofs.YtndhfbecpghinaaGreat.L.Kf
namespace Go.Proofs.YtndhfbecpghinaaGreat.L.Kf.K2
open Pr
variable {n:Nat} [NeZero n]
theorem SW{a:K2 n}{m:Fin n}{s:Fin n×Bool}{o:K2 n}(hs:s=fsq ((a.re+m)*hv n))(h:s.1=0)(ho:o=⟨s.1,(fsq (-a.re)).1⟩):
  f8 a m=(dk o,(fsq (-a.re)).2&&decide (mul (dk o) (dk o)=a)):=by
 subst hs
 subst ho
 rw[h,f8,if_pos h]
theorem SX{a:K2 n}{m:Fin n}{s:Fin n×Bool}{o:K2 n}(hs:s=fsq ((a.re+m)*hv n))(h:¬s.1=0)(ho:o=⟨s.1,a.im*hv n*Kf.inv s.1⟩):
  f8 a m=(dk o,s.2&&decide (mul (dk o) (dk o)=a)):=by
 subst hs
 subst ho
 rw[f8,if_neg h]
theorem GH{a:K2 n}{g:Nat}(hg:g=sgn a)(h:g=1):dk a=neg a:=if_pos (hg.symm.trans h)
theorem GG{a:K2 n}{g:Nat}(hg:g=sgn a)(h:¬g=1):dk a=a:=if_neg fun e=>h (hg.trans e)
theorem MR{a:K2 n}{s:Fin n×Bool}(hs:s=fsq (bW a))(h:s.2=false):cK a=(zero,false):=by
 subst hs
 rw[cK,if_neg (by rw[h];decide)]
theorem MT{a:K2 n}{s:Fin n×Bool}{t:K2 n×Bool}(hs:s=fsq (bW a))(h:s.2=true)(ht:t=f8 a s.1)(h1:t.2=true):cK a=(t.1,true):=by
 subst hs
 subst ht
 rw[cK,if_pos h,if_pos h1]
theorem MU{a:K2 n}{s:Fin n×Bool}{t v:K2 n×Bool}(hs:s=fsq (bW a))(h:s.2=true)(ht:t=f8 a s.1)(h1:t.2=false)(hv:v=f8 a (-s.1))(h2:v.2=true):cK a=(v.1,true):=by
 subst hs
 subst ht
 subst hv
 rw[cK,if_pos h,if_neg (by rw[h1];decide),if_pos h2]
theorem MV{a:K2 n}{s:Fin n×Bool}{t v:K2 n×Bool}(hs:s=fsq (bW a))(h:s.2=true)(ht:t=f8 a s.1)(h1:t.2=false)(hv:v=f8 a (-s.1))(h2:v.2=false):cK a=(zero,false):=by
 subst hs
 subst ht
 subst hv
 rw[cK,if_pos h,if_neg (by rw[h1];decide),if_neg (by rw[h2];decide)]
theorem qX(a:K2 n):gv a=(cK a).2:=rfl
end Go.Proofs.YtndhfbecpghinaaGreat.L.Kf.K2
namespace Go.Proofs.YtndhfbecpghinaaGreat.L.Kf
open Pr
namespace K2
variable {n:Nat} [NeZero n]
instance mulA:Std.Associative (α:=K2 n) mul:=⟨mul_assoc'⟩
instance mulC:Std.Commutative (α:=K2 n) mul:=⟨mul_comm'⟩
instance addA:Std.Associative (α:=K2 n) add:=⟨add_assoc'⟩
instance addC:Std.Commutative (α:=K2 n) add:=⟨add_comm'⟩
theorem db(a b:K2 n):mul (neg a) b=neg (mul a b):=ext' (by simp only[mul,neg];grind) (by simp only[mul,neg];grind)
theorem eZ(a b:K2 n):mul a (neg b)=neg (mul a b):=ext' (by simp only[mul,neg];grind) (by simp only[mul,neg];grind)
theorem add_neg'(a:K2 n):add a (neg a)=zero:=ext' (by simp only[add,neg,zero];grind) (by simp only[add,neg,zero];grind)
theorem dE(a b:K2 n):neg (add a b)=add (neg a) (neg b):=ext' (by simp only[add,neg];grind) (by simp only[add,neg];grind)
theorem aZ(a:K2 n):sub a a=zero:=ext' (by simp only[sub,zero];grind) (by simp only[sub,zero];grind)
theorem sub_eq(a b:K2 n):sub a b=add a (neg b):=ext' (by simp only[sub,add,neg];grind) (by simp only[sub,add,neg];grind)
theorem aE{a b:K2 n}(h:sub a b=zero):a=b:=by
 have e1:=congrArg re h
 have e2:=congrArg im h
 simp only[sub,zero]at e1 e2
 exact ext' (by grind) (by grind)
theorem aP{a b:K2 n}(h:add a b=zero):a=neg b:=by
 have e1:=congrArg re h
 have e2:=congrArg im h
 simp only[add,zero]at e1 e2
 exact ext' (by simp only[neg];grind) (by simp only[neg];grind)
theorem aM(a:K2 n):add zero a=a:=by rw[add_comm',add_zero']
theorem aG(a:K2 n):mul zero a=zero:=by rw[mul_comm',aj]
theorem cQ(a b c:K2 n):mul (add a b) c=add (mul a c) (mul b c):=by rw[mul_comm',mul_add',mul_comm' c a,mul_comm' c b]
theorem mX{a:K2 n}:neg a=zero↔a=zero:=⟨fun h=>by rw[← bv a,h,bk],fun h=>by rw[h,bk]⟩
theorem Jn{a b w s x:K2 n}(ht:mul (add (mul w w) w) s=one)(hx:mul a x=neg (mul b (add one s))):
  add (add (mul (mul (mul w x) (mul w x)) (mul w x)) (mul a (mul w x))) b=mul (mul (mul w w) w) (add (add (mul (mul x x) x) (mul a x)) b):=by
 have e1:mul (mul (mul w x) (mul w x)) (mul w x)=mul (mul (mul w w) w) (mul (mul x x) x):=by ac_rfl
 have e2:mul a (mul w x)=mul w (mul a x):=by ac_rfl
 rw[mul_add',mul_add',e1,e2,hx,add_assoc',add_assoc']
 congr 1
 apply aE
 have key:sub (add (mul w (neg (mul b (add one s)))) b) (add (mul (mul (mul w w) w) (neg (mul b (add one s)))) (mul (mul (mul w w) w) b))=mul (mul b (sub one w)) (sub one (mul (add (mul w w) w) s)):=
  ext' (by simp only[mul,add,sub,neg,one];grind) (by simp only[mul,add,sub,neg,one];grind)
 rw[key,ht,aZ,aj]
theorem Sx{a b s ia:K2 n}(ha:mul a ia=one):mul a (mul (neg (mul b ia)) (add one s))=neg (mul b (add one s)):=by
 have e:mul a (mul (mul b ia) (add one s))=mul (mul a ia) (mul b (add one s)):=by ac_rfl
 rw[db,eZ,e,ha,aR]
variable (hp:P3 n)
include hp
theorem j8{a:K2 n}(h:a≠zero):mul (inv a) a=one:=by rw[mul_comm'];exact aI hp h
theorem bQ{a b:K2 n}(ha:a≠zero)(hb:b≠zero):mul a b≠zero:=fun h=>(aW hp h).elim ha hb
theorem dy{a b x:K2 n}(ha:a≠zero)(h:mul x a=b):mul b (inv a)=x:=by
 rw[← h,mul_assoc',aI hp ha,mul_one']
theorem pK{x c:K2 n}(h3:(n-1)%3=0)(hc:c≠zero)(hn:bW c^((n-1)/3)≠1)(h:mul (mul x x) x=c):False:=by
 have hx:x≠zero:=by
  intro h0
  subst h0
  rw[aj]at h
  exact hc h.symm
 apply hn
 rw[← h,i7,i7]
 have e:bW x*bW x*bW x=bW x^3:=by
  rw[show(3:Nat)=0+1+1+1 from rfl,f4,f4,f4,Cn];grind
 rw[e,← rx,show 3*((n-1)/3)=n-1 by omega]
 exact kI hp.1 (pL hp hx)
theorem qY{a b:K2 n}(ha:a≠zero)(hb:b≠zero):gv (mul a b)=(gv a==gv b):=by
 rw[fC hp,fC hp,fC hp,i7,B6 hp (pL hp ha) (pL hp hb)]
theorem B5(a:K2 n):gv (mul a a)=true:=(eY hp).2 ⟨a,rfl⟩
omit hp
theorem ye(hp:P3 n){a:K2 n}(ha:a≠zero):sgn (neg a)=1-sgn a:=by
 have:=CF hp ha
 omega
end K2
end Go.Proofs.YtndhfbecpghinaaGreat.L.Kf
namespace Go.Proofs.YtndhfbecpghinaaGreat.L.Kf
open Pr
namespace K2
variable {n:Nat} [NeZero n]
def ofN:Nat→K2 n
 | 0=>zero
 | k+1=>add (ofN k) one
def ofZ:Int→K2 n
 | .ofNat k=>ofN k
 | .negSucc k=>neg (ofN (k+1))
theorem lq(k:Nat):(ofN (k+1):K2 n)=add (ofN k) one:=rfl
theorem dZ(a b:Nat):(ofN (a+b):K2 n)=add (ofN a) (ofN b):=by
 induction b with
 | zero=>exact(add_zero' _).symm
 | succ b ih=>rw[← Nat.add_assoc,lq,lq,ih,add_assoc']
theorem fQ(a b:Nat):(ofN (a*b):K2 n)=mul (ofN a) (ofN b):=by
 induction b with
 | zero=>exact(aj _).symm
 | succ b ih=>rw[Nat.mul_succ,dZ,ih,lq,mul_add',mul_one']
theorem mZ(a b:Nat):(ofZ (Int.subNatNat a b):K2 n)=add (ofN a) (neg (ofN b)):=by
 rcases Nat.le_total b a with h | h
 ·obtain⟨k,rfl⟩:∃k,a=b+k:=⟨a-b,by omega⟩
  have e:Int.subNatNat (b+k) b=Int.ofNat k:=by rw[Int.subNatNat_eq_coe];show(_:Int)=(k:Int);omega
  rw[e,dZ]
  show ofN k=_
  rw[add_comm' (ofN b),add_assoc',add_neg',add_zero']
 ·rcases Nat.eq_or_lt_of_le h with h | h
  ·subst h
   have e:Int.subNatNat a a=Int.ofNat 0:=by rw[Int.subNatNat_eq_coe];show(_:Int)=(0:Int);omega
   rw[e,add_neg'];rfl
  ·obtain⟨k,rfl⟩:∃k,b=a+(k+1):=⟨b-a-1,by omega⟩
   have e:Int.subNatNat a (a+(k+1))=Int.negSucc k:=by rw[Int.subNatNat_eq_coe,Int.negSucc_eq];omega
   rw[e,dZ,dE,← add_assoc',add_neg',aM]
   rfl
theorem vx(a b:Int):(ofZ (a+b):K2 n)=add (ofZ a) (ofZ b):=by
 cases a with
 | ofNat a=>cases b with
  | ofNat b=>exact dZ a b
  | negSucc b=>exact mZ a (b+1)
 | negSucc a=>cases b with
  | ofNat b=>exact(mZ b (a+1)).trans (add_comm' _ _)
  | negSucc b=>
   show neg (ofN (a+b+1+1))=add (neg (ofN (a+1))) (neg (ofN (b+1)))
   rw[← dE,← dZ,show a+b+1+1=a+1+(b+1) by omega]
theorem vz(a:Int):(ofZ (-a):K2 n)=neg (ofZ a):=by
 cases a with
 | ofNat a=>cases a with
  | zero=>exact bk.symm
  | succ a=>rfl
 | negSucc a=>exact(bv _).symm
theorem rn(a:Nat):(ofZ (Int.negOfNat a):K2 n)=neg (ofN a):=by
 cases a with
 | zero=>exact bk.symm
 | succ a=>rfl
theorem vy(a b:Int):(ofZ (a*b):K2 n)=mul (ofZ a) (ofZ b):=by
 cases a with
 | ofNat a=>cases b with
  | ofNat b=>exact fQ a b
  | negSucc b=>
   show ofZ (Int.negOfNat (a*(b+1)))=mul (ofN a) (neg (ofN (b+1)))
   rw[rn,fQ,eZ]
 | negSucc a=>cases b with
  | ofNat b=>
   show ofZ (Int.negOfNat ((a+1)*b))=mul (neg (ofN (a+1))) (ofN b)
   rw[rn,fQ,db]
  | negSucc b=>
   show ofN ((a+1)*(b+1))=mul (neg (ofN (a+1))) (neg (ofN (b+1)))
   rw[fQ,db,eZ,bv]
inductive Ex where
 | v (i:Nat)
 | c (k:Int)
 | a (x y:Ex)
 | s (x y:Ex)
 | m (x y:Ex)
 | n (x:Ex)
def Ex.ev(vs:List (K2 n)):Ex→K2 n
 | .v i=>vs.getD i zero
 | .c k=>ofZ k
 | .a x y=>add (x.ev vs) (y.ev vs)
 | .s x y=>sub (x.ev vs) (y.ev vs)
 | .m x y=>mul (x.ev vs) (y.ev vs)
 | .n x=>neg (x.ev vs)
abbrev Mo:=List Nat
abbrev Po:=List (Mo×Int)
def ppw(a:K2 n):Nat→K2 n
 | 0=>one
 | k+1=>mul (ppw a k) a
theorem Ms(a:K2 n)(j k:Nat):ppw a (j+k)=mul (ppw a j) (ppw a k):=by
 induction k with
 | zero=>exact(mul_one' _).symm
 | succ k ih=>
  show mul (ppw a (j+k)) a=mul (ppw a j) (mul (ppw a k) a)
  rw[ih,mul_assoc']
def mev(vs:List (K2 n))(i:Nat):Mo→K2 n
 | []=>one
 | e::es=>mul (ppw (vs.getD i zero) e) (mev vs (i+1) es)
def pev(vs:List (K2 n)):Po→K2 n
 | []=>zero
 | t::p=>add (mul (ofZ t.2) (mev vs 0 t.1)) (pev vs p)
def ra:Mo→Mo→Mo
 | [],q=>q
 | a::p,[]=>a::p
 | a::p,b::q=>(a+b)::ra p q
theorem mT(vs:List (K2 n)):∀(p q:Mo)(i:Nat),mev vs i (ra p q)=mul (mev vs i p) (mev vs i q)
 | [],q,i=>(aR _).symm
 | a::p,[],i=>(mul_one' _).symm
 | a::p,b::q,i=>by
  show mul (ppw _ (a+b)) (mev vs (i+1) (ra p q))=mul (mul _ _) (mul _ _)
  rw[Ms,mT vs p q (i+1)]
  ac_rfl
def q7:Mo→Mo→Nat
 | [],[]=>1
 | [],_::_=>0
 | _::_,[]=>2
 | a::p,b::q=>if Nat.beq a b then q7 p q else if Nat.ble a b then 0 else 2
theorem mN:∀{p q:Mo},q7 p q=1→p=q
 | [],[],_=>rfl
 | [],_::_,h=>absurd h (by show ¬(0:Nat)=1;decide)
 | _::_,[],h=>absurd h (by show ¬(2:Nat)=1;decide)
 | a::p,b::q,h=>by
  unfold q7 at h
  by_cases hab:Nat.beq a b=true
  ·rw[if_pos hab]at h
   rw[Nat.eq_of_beq_eq_true hab,mN h]
  ·rw[if_neg hab]at h
   split at h <;> exact absurd h (by decide)
def cons(t:Mo×Int)(p:Po):Po:=if t.2=0 then p else t::p
theorem my(vs:List (K2 n))(t:Mo×Int)(p:Po):pev vs (cons t p)=add (mul (ofZ t.2) (mev vs 0 t.1)) (pev vs p):=by
 unfold cons
 split
 ·rename_i h
  rw[h,show(ofZ 0:K2 n)=zero from rfl,aG,aM]
 ·rfl
def FX(t:Mo×Int)(p:Po)(ih:Po→Po):Po→Po
 | []=>t::p
 | s::q=>match q7 t.1 s.1 with
  | 0=>t::ih (s::q)
  | 1=>cons (t.1,t.2+s.2) (ih q)
  | _=>s::FX t p ih q
def dj:Po→Po→Po
 | [],q=>q
 | t::p,q=>FX t p (fun r=>dj p r) q
theorem qd(q:Po):dj [] q=q:=rfl
theorem uA(t:Mo×Int)(p:Po):dj (t::p) []=t::p:=rfl
theorem uB(t s:Mo×Int)(p q:Po):dj (t::p) (s::q)=match q7 t.1 s.1 with
  | 0=>t::dj p (s::q)
  | 1=>cons (t.1,t.2+s.2) (dj p q)
  | _=>s::dj (t::p) q:=rfl
theorem gs(vs:List (K2 n)):∀(p q:Po),pev vs (dj p q)=add (pev vs p) (pev vs q):=by
 intro p
 induction p with
 | nil=>intro q;rw[qd];exact(aM _).symm
 | cons t p ih=>
  intro q
  induction q with
  | nil=>rw[uA];exact(add_zero' _).symm
  | cons s q ihq=>
   rw[uB]
   split
   ·show add _ (pev vs (dj p (s::q)))=add (add _ _) (pev vs (s::q))
    rw[ih];ac_rfl
   ·rename_i h
    rw[my,ih,vx,cQ]
    show _=add (add _ _) (add (mul (ofZ s.2) (mev vs 0 s.1)) _)
    rw[← mN h]
    ac_rfl
   ·show add _ (pev vs (dj (t::p) q))=add (pev vs (t::p)) (add _ _)
    rw[ihq];ac_rfl
def rm(t:Mo×Int):Po→Po
 | []=>[]
 | s::q=>(ra t.1 s.1,t.2*s.2)::rm t q
theorem mW(vs:List (K2 n))(t:Mo×Int):∀q:Po,pev vs (rm t q)=mul (mul (ofZ t.2) (mev vs 0 t.1)) (pev vs q)
 | []=>(aj _).symm
 | s::q=>by
  show add (mul (ofZ (t.2*s.2)) (mev vs 0 (ra t.1 s.1))) (pev vs (rm t q))=mul _ (add (mul (ofZ s.2) (mev vs 0 s.1)) (pev vs q))
  rw[mW vs t q,mT,vy,mul_add']
  congr 1
  ac_rfl
def rl:Po→Po→Po
 | [],_=>[]
 | t::p,q=>dj (rm t q) (rl p q)
theorem mV(vs:List (K2 n)):∀p q:Po,pev vs (rl p q)=mul (pev vs p) (pev vs q)
 | [],q=>(aG _).symm
 | t::p,q=>by
  show pev vs (dj (rm t q) (rl p q))=mul (add _ _) _
  rw[gs,mW,mV vs p q,cQ]
def iM:Po→Po
 | []=>[]
 | t::p=>(t.1,-t.2)::iM p
theorem gz(vs:List (K2 n)):∀p:Po,pev vs (iM p)=neg (pev vs p)
 | []=>bk.symm
 | t::p=>by
  show add (mul (ofZ (-t.2)) (mev vs 0 t.1)) (pev vs (iM p))=neg (add _ _)
  rw[gz vs p,vz,db,dE]
def r7:Nat→Mo
 | 0=>[1]
 | i+1=>0::r7 i
theorem nI(vs:List (K2 n)):∀i j:Nat,mev vs j (r7 i)=vs.getD (j+i) zero
 | 0,j=>by
  show mul (mul one (vs.getD j zero)) one=_
  rw[mul_one',aR];rfl
 | i+1,j=>by
  show mul one (mev vs (j+1) (r7 i))=_
  rw[aR,nI vs i (j+1),show j+1+i=j+(i+1) by omega]
def nf:Ex→Po
 | .v i=>[(r7 i,1)]
 | .c k=>cons ([],k) []
 | .a x y=>dj (nf x) (nf y)
 | .s x y=>dj (nf x) (iM (nf y))
 | .m x y=>rl (nf x) (nf y)
 | .n x=>iM (nf x)
theorem fb(vs:List (K2 n)):∀x:Ex,pev vs (nf x)=x.ev vs
 | .v i=>by
  show add (mul (ofZ 1) (mev vs 0 (r7 i))) zero=vs.getD i zero
  rw[nI,Nat.zero_add,show(ofZ 1:K2 n)=add zero one from rfl,aM,aR,add_zero']
 | .c k=>by
  show pev vs (cons ([],k) [])=ofZ k
  rw[my]
  show add (mul (ofZ k) one) zero=ofZ k
  rw[mul_one',add_zero']
 | .a x y=>by
  show pev vs (dj (nf x) (nf y))=add _ _
  rw[gs,fb vs x,fb vs y]
 | .s x y=>by
  show pev vs (dj (nf x) (iM (nf y)))=sub _ _
  rw[gs,gz,fb vs x,fb vs y,sub_eq]
 | .m x y=>by
  show pev vs (rl (nf x) (nf y))=mul _ _
  rw[mV,fb vs x,fb vs y]
 | .n x=>by
  show pev vs (iM (nf x))=neg _
  rw[gz,fb vs x]
def chk(x y:Ex):Bool:=(dj (nf x) (iM (nf y))).isEmpty
theorem aH{x y:Ex}(h:chk x y=true)(vs:List (K2 n)):x.ev vs=y.ev vs:=by
 have e:dj (nf x) (iM (nf y))=[]:=List.isEmpty_iff.1 h
 have e2:=gs vs (nf x) (iM (nf y))
 rw[e,gz,fb,fb,← sub_eq]at e2
 exact aE e2.symm
theorem gw{x y c u v:K2 n}(e:sub x y=mul c (sub u v))(h:u=v):x=y:=by
 subst h
 rw[aZ,aj]at e
 exact aE e
theorem vc{x y c u v d r s:K2 n}(e:sub x y=add (mul c (sub u v)) (mul d (sub r s)))(h:u=v)(h2:r=s):x=y:=by
 subst h
 subst h2
 rw[aZ,aZ,aj,aj,add_zero']at e
 exact aE e
theorem UE{x y c u v d r s g k l:K2 n}(e:sub x y=add (add (mul c (sub u v)) (mul d (sub r s))) (mul g (sub k l)))(h:u=v)(h2:r=s)(h3:k=l):x=y:=by
 subst h
 subst h2
 subst h3
 rw[aZ,aZ,aZ,aj,aj,aj,add_zero',add_zero']at e
 exact aE e
theorem WM{x y c u v d r s g k l t w z:K2 n}(e:sub x y=add (add (add (mul c (sub u v)) (mul d (sub r s))) (mul g (sub k l))) (mul t (sub w z)))(h:u=v)(h2:r=s)(h3:k=l)(h4:w=z):x=y:=by
 subst h
 subst h2
 subst h3
 subst h4
 rw[aZ,aZ,aZ,aZ,aj,aj,aj,aj,add_zero',add_zero',add_zero']at e
 exact aE e
theorem tD:(ofZ 0:K2 n)=zero:=rfl
theorem dN:(ofZ 1:K2 n)=one:=by show add zero one=one;rw[aM]
end K2
end Go.Proofs.YtndhfbecpghinaaGreat.L.Kf
namespace Go.Proofs.YtndhfbecpghinaaGreat.L.Kf
open Pr
namespace K2
variable {n:Nat} [NeZero n]
theorem ge(hp:P3 n){y:K2 n}(h:y≠zero):add y y≠zero:=by
 intro e
 apply h
 have e1:=congrArg re e
 have e2:=congrArg im e
 have two:∀a:Fin n,a+a=0→a=0:=fun a ha=>(cR hp.1 (show(2:Fin n)*a=0 by grind)).resolve_left (Ba hp)
 exact ext' (two _ e1) (two _ e2)
theorem jv(hp:P3 n):(one:K2 n)≠zero:=fun e=>cH hp.1 (congrArg re e)
attribute [local irreducible] add mul sub neg zero one inv
abbrev Pt(n:Nat):=Option (K2 n×K2 n)
def cx(l a b:K2 n):K2 n:=sub (sub (mul l l) a) b
def cy(l a y b:K2 n):K2 n:=sub (mul l (sub a (cx l a b))) y
def q3(a b:K2 n):K2 n:=add (add (mul a a) (mul a b)) (mul b b)
def f6(x y:K2 n):K2 n:=mul (q3 x x) (inv (add y y))
def ec(x1 y1 x2 y2:K2 n):K2 n:=mul (sub y2 y1) (inv (sub x2 x1))
def pa:Pt n→Pt n→Pt n
 | none,q=>q
 | some p,none=>some p
 | some p,some q=>
  if p.1=q.1 then if p.2=q.2∧p.2≠zero then some (cx (f6 p.1 p.2) p.1 q.1,cy (f6 p.1 p.2) p.1 p.2 q.1)else none
  else some (cx (ec p.1 p.2 q.1 q.2) p.1 q.1,cy (ec p.1 p.2 q.1 q.2) p.1 p.2 q.1)
def pn:Pt n→Pt n
 | none=>none
 | some p=>some (p.1,neg p.2)
def Onc(b:K2 n):Pt n→Prop
 | none=>True
 | some p=>mul p.2 p.2=add (mul (mul p.1 p.1) p.1) b
structure Slp (l x1 y1 x2 y2:K2 n):Prop where
 a:y1=add y2 (mul l (sub x1 x2))
 b:mul l (add y1 y2)=q3 x1 x2
theorem bL{k:Nat}{b x y:K2 k}(h:Onc b (some (x,y))):mul y y=add (mul (mul x x) x) b:=h
theorem bF{k:Nat}{a b c d:K2 k}(h:a=c)(h2:b=d):(some (a,b):Pt k)=some (c,d):=by rw[h,h2]
theorem bB(p:Pt n):pa p none=p:=by cases p <;> rfl
theorem ID(p:Pt n):pn (pn p)=p:=by
 cases p with
 | none=>rfl
 | some p=>show some (p.1,neg (neg p.2))=some p;rw[bv]
theorem vn(hp:P3 n){a x y:K2 n}(ha:a≠zero)(h:mul a (sub x y)=zero):x=y:=aE ((aW hp h).resolve_left ha)
theorem cF{b:K2 n}{p:Pt n}(h:Onc b p):Onc b (pn p):=by
 cases p with
 | none=>trivial
 | some p=>show mul (neg p.2) (neg p.2)=_;rw[db,eZ,bv];exact h
theorem cC(hp:P3 n){l x1 y1 x2 y2:K2 n}(h:Slp l x1 y1 x2 y2)(hne:x1≠x2∨add y1 y2≠zero):pa (some (x1,y1)) (some (x2,y2))=some (cx l x1 x2,cy l x1 y1 x2):=by
 by_cases hx:x1=x2
 ·subst hx
  have hy:y1=y2:=by
   have:=h.a
   rwa [aZ,aj,add_zero']at this
  subst hy
  have h2:add y1 y1≠zero:=hne.resolve_left fun h=>h rfl
  have hy0:y1≠zero:=fun e=>h2 (by rw[e,add_zero'])
  have ht:f6 x1 y1=l:=dy hp h2 h.b
  show(if x1=x1 then if y1=y1∧y1≠zero then _ else _ else _)=_
  rw[if_pos rfl,if_pos ⟨rfl,hy0⟩,ht]
 ·have hd:sub x2 x1≠zero:=fun e=>hx (aE e).symm
  have hc:ec x1 y1 x2 y2=l:=dy hp hd (gw (aH (x:=(.s (.m (.v 4) (.s (.v 2) (.v 0))) (.s (.v 3) (.v 1)))) (y:=(.m (.c 1) (.s (.v 1) (.a (.v 3) (.m (.v 4) (.s (.v 0) (.v 2))))))) (by decide +kernel) [x1,y1,x2,y2,l]) (h.a))
  show(if x1=x2 then _ else _)=_
  rw[if_neg hx,hc]
theorem cY(hp:P3 n){x1 y1 x2 y2:K2 n}(hx:x1=x2)(hy:add y1 y2=zero):pa (some (x1,y1)) (some (x2,y2))=none:=by
 subst hx
 show(if x1=x1 then if y1=y2∧y1≠zero then _ else _ else _)=_
 rw[if_pos rfl,if_neg]
 rintro⟨rfl,h⟩
 exact ge hp h hy
theorem cq(hp:P3 n){b x1 y1 x2 y2:K2 n}(hP:mul y1 y1=add (mul (mul x1 x1) x1) b)(hQ:mul y2 y2=add (mul (mul x2 x2) x2) b):
  (x1=x2∧add y1 y2=zero)∨∃l,Slp l x1 y1 x2 y2∧(x1≠x2∨add y1 y2≠zero):=by
 by_cases hx:x1=x2
 ·subst hx
  have e:mul (sub y1 y2) (add y1 y2)=ofZ 0:=vc (aH (x:=(.s (.m (.s (.v 1) (.v 2)) (.a (.v 1) (.v 2))) (.c 0))) (y:=(.a (.m (.c 1) (.s (.m (.v 1) (.v 1)) (.a (.m (.m (.v 0) (.v 0)) (.v 0)) (.v 3)))) (.m (.c (-1)) (.s (.m (.v 2) (.v 2)) (.a (.m (.m (.v 0) (.v 0)) (.v 0)) (.v 3)))))) (by decide +kernel) [x1,y1,y2,b]) (hP) (hQ)
  by_cases hs:add y1 y2=zero
  ·exact .inl ⟨rfl,hs⟩
  ·have hy:y1=y2:=aE ((aW hp e).resolve_right hs)
   subst hy
   refine .inr ⟨mul (q3 x1 x1) (inv (add y1 y1)),⟨?_,?_⟩,.inr hs⟩
   ·rw[aZ,aj,add_zero']
   ·rw[mul_assoc',j8 hp hs,mul_one']
 ·have hd:sub x1 x2≠zero:=fun e=>hx (aE e)
  have hi:=j8 hp hd
  rw[← dN]at hi
  generalize inv (sub x1 x2)=i at hi
  refine .inr ⟨mul (sub y1 y2) i,⟨?_,?_⟩,.inl hx⟩
  ·exact gw (aH (x:=(.s (.v 1) (.a (.v 3) (.m (.m (.s (.v 1) (.v 3)) (.v 4)) (.s (.v 0) (.v 2)))))) (y:=(.m (.n (.s (.v 1) (.v 3))) (.s (.m (.v 4) (.s (.v 0) (.v 2))) (.c 1)))) (by decide +kernel) [x1,y1,x2,y2,i,b]) (hi)
  ·refine vn hp hd ?_
   rw[← tD]
   exact UE (aH (x:=(.s (.m (.s (.v 0) (.v 2)) (.s (.m (.m (.s (.v 1) (.v 3)) (.v 4)) (.a (.v 1) (.v 3))) (.a (.a (.m (.v 0) (.v 0)) (.m (.v 0) (.v 2))) (.m (.v 2) (.v 2))))) (.c 0))) (y:=(.a (.a (.m (.m (.s (.v 1) (.v 3)) (.a (.v 1) (.v 3))) (.s (.m (.v 4) (.s (.v 0) (.v 2))) (.c 1))) (.m (.c 1) (.s (.m (.v 1) (.v 1)) (.a (.m (.m (.v 0) (.v 0)) (.v 0)) (.v 5))))) (.m (.c (-1)) (.s (.m (.v 3) (.v 3)) (.a (.m (.m (.v 2) (.v 2)) (.v 2)) (.v 5)))))) (by decide +kernel) [x1,y1,x2,y2,i,b]) (hi) (hP) (hQ)
theorem xM{b l x1 y1 x2 y2:K2 n}(h:Slp l x1 y1 x2 y2)(hP:mul y1 y1=add (mul (mul x1 x1) x1) b):mul (cy l x1 y1 x2) (cy l x1 y1 x2)=add (mul (mul (cx l x1 x2) (cx l x1 x2)) (cx l x1 x2)) b:=by
 obtain⟨rfl,hb⟩:=h
 exact vc (aH (x:=(.s (.m (.s (.m (.v 3) (.s (.v 0) (.s (.s (.m (.v 3) (.v 3)) (.v 0)) (.v 1)))) (.a (.v 2) (.m (.v 3) (.s (.v 0) (.v 1))))) (.s (.m (.v 3) (.s (.v 0) (.s (.s (.m (.v 3) (.v 3)) (.v 0)) (.v 1)))) (.a (.v 2) (.m (.v 3) (.s (.v 0) (.v 1)))))) (.a (.m (.m (.s (.s (.m (.v 3) (.v 3)) (.v 0)) (.v 1)) (.s (.s (.m (.v 3) (.v 3)) (.v 0)) (.v 1))) (.s (.s (.m (.v 3) (.v 3)) (.v 0)) (.v 1))) (.v 4)))) (y:=(.a (.m (.a (.m (.m (.c 1) (.v 3)) (.v 3)) (.a (.m (.c (-1)) (.v 1)) (.m (.c (-2)) (.v 0)))) (.s (.m (.v 3) (.a (.a (.v 2) (.m (.v 3) (.s (.v 0) (.v 1)))) (.v 2))) (.a (.a (.m (.v 0) (.v 0)) (.m (.v 0) (.v 1))) (.m (.v 1) (.v 1))))) (.m (.c 1) (.s (.m (.a (.v 2) (.m (.v 3) (.s (.v 0) (.v 1)))) (.a (.v 2) (.m (.v 3) (.s (.v 0) (.v 1))))) (.a (.m (.m (.v 0) (.v 0)) (.v 0)) (.v 4)))))) (by decide +kernel) [x1,x2,y2,l,b]) (hb) (hP)
theorem Slp.symm{l x1 y1 x2 y2:K2 n}(h:Slp l x1 y1 x2 y2):Slp l x2 y2 x1 y1:=by
 refine⟨?_,?_⟩
 ·exact gw (aH (x:=(.s (.v 3) (.a (.v 1) (.m (.v 4) (.s (.v 2) (.v 0)))))) (y:=(.m (.c (-1)) (.s (.v 1) (.a (.v 3) (.m (.v 4) (.s (.v 0) (.v 2))))))) (by decide +kernel) [x1,y1,x2,y2,l]) (h.a)
 ·rw[add_comm' y2 y1,h.b]
  exact aH (x:=(.a (.a (.m (.v 0) (.v 0)) (.m (.v 0) (.v 1))) (.m (.v 1) (.v 1)))) (y:=(.a (.a (.m (.v 1) (.v 1)) (.m (.v 1) (.v 0))) (.m (.v 0) (.v 0)))) (by decide +kernel) [x1,x2]
theorem jq(l x1 x2:K2 n):cx l x1 x2=cx l x2 x1:=aH (x:=(.s (.s (.m (.v 0) (.v 0)) (.v 1)) (.v 2))) (y:=(.s (.s (.m (.v 0) (.v 0)) (.v 2)) (.v 1))) (by decide +kernel) [l,x1,x2]
theorem mB{l x1 y1 x2 y2:K2 n}(h:Slp l x1 y1 x2 y2):cy l x1 y1 x2=cy l x2 y2 x1:=gw (aH (x:=(.s (.s (.m (.v 4) (.s (.v 0) (.s (.s (.m (.v 4) (.v 4)) (.v 0)) (.v 2)))) (.v 1)) (.s (.m (.v 4) (.s (.v 2) (.s (.s (.m (.v 4) (.v 4)) (.v 2)) (.v 0)))) (.v 3)))) (y:=(.m (.c (-1)) (.s (.v 1) (.a (.v 3) (.m (.v 4) (.s (.v 0) (.v 2))))))) (by decide +kernel) [x1,y1,x2,y2,l]) (h.a)
theorem di(hp:P3 n){b:K2 n}{p q:Pt n}(hP:Onc b p)(hQ:Onc b q):Onc b (pa p q):=by
 cases p with
 | none=>exact hQ
 | some p=>cases q with
  | none=>exact hP
  | some q=>
   obtain⟨x1,y1⟩:=p
   obtain⟨x2,y2⟩:=q
   rcases cq hp hP hQ with⟨h1,h2⟩ | ⟨l,h,hn⟩
   ·rw[cY hp h1 h2];trivial
   ·rw[cC hp h hn];exact xM h hP
theorem dr(hp:P3 n){b:K2 n}{p q:Pt n}(hP:Onc b p)(hQ:Onc b q):pa p q=pa q p:=by
 cases p with
 | none=>exact(bB q).symm
 | some p=>cases q with
  | none=>rfl
  | some q=>
   obtain⟨x1,y1⟩:=p
   obtain⟨x2,y2⟩:=q
   rcases cq hp hP hQ with⟨h1,h2⟩ | ⟨l,h,hn⟩
   ·rw[cY hp h1 h2,cY hp h1.symm (by rw[add_comm'];exact h2)]
   ·rw[cC hp h hn,cC hp h.symm (hn.imp (fun e=>Ne.symm e) (fun e=>by rw[add_comm'];exact e)),jq,mB h]
theorem vD(hp:P3 n)(p:Pt n):pa p (pn p)=none:=by
 cases p with
 | none=>rfl
 | some p=>exact cY hp rfl (add_neg' p.2)
theorem m7(hp:P3 n)(p:Pt n):pa (pn p) p=none:=by
 cases p with
 | none=>rfl
 | some p=>exact cY hp rfl (by rw[add_comm',add_neg'])
theorem Slp.opp{l x1 y1 x2 y2:K2 n}(h:Slp l x1 y1 x2 y2):Slp (neg l) x1 (neg y1) x2 (neg y2):=⟨gw (aH (x:=(.s (.n (.v 1)) (.a (.n (.v 3)) (.m (.n (.v 4)) (.s (.v 0) (.v 2)))))) (y:=(.m (.c (-1)) (.s (.v 1) (.a (.v 3) (.m (.v 4) (.s (.v 0) (.v 2))))))) (by decide +kernel) [x1,y1,x2,y2,l]) (h.a),gw (aH (x:=(.s (.m (.n (.v 4)) (.a (.n (.v 1)) (.n (.v 3)))) (.a (.a (.m (.v 0) (.v 0)) (.m (.v 0) (.v 2))) (.m (.v 2) (.v 2))))) (y:=(.m (.c 1) (.s (.m (.v 4) (.a (.v 1) (.v 3))) (.a (.a (.m (.v 0) (.v 0)) (.m (.v 0) (.v 2))) (.m (.v 2) (.v 2)))))) (by decide +kernel) [x1,y1,x2,y2,l]) (h.b)⟩
theorem QB(l x1 x2:K2 n):cx (neg l) x1 x2=cx l x1 x2:=aH (x:=(.s (.s (.m (.n (.v 0)) (.n (.v 0))) (.v 1)) (.v 2))) (y:=(.s (.s (.m (.v 0) (.v 0)) (.v 1)) (.v 2))) (by decide +kernel) [l,x1,x2]
theorem QC(l x1 y1 x2:K2 n):cy (neg l) x1 (neg y1) x2=neg (cy l x1 y1 x2):=aH (x:=(.s (.m (.n (.v 0)) (.s (.v 1) (.s (.s (.m (.n (.v 0)) (.n (.v 0))) (.v 1)) (.v 3)))) (.n (.v 2)))) (y:=(.n (.s (.m (.v 0) (.s (.v 1) (.s (.s (.m (.v 0) (.v 0)) (.v 1)) (.v 3)))) (.v 2)))) (by decide +kernel) [l,x1,y1,x2]
theorem Cj(hp:P3 n){b:K2 n}{p q:Pt n}(hP:Onc b p)(hQ:Onc b q):pa (pn p) (pn q)=pn (pa p q):=by
 cases p with
 | none=>rfl
 | some p=>cases q with
  | none=>rfl
  | some q=>
   obtain⟨x1,y1⟩:=p
   obtain⟨x2,y2⟩:=q
   show pa (some (x1,neg y1)) (some (x2,neg y2))=_
   rcases cq hp hP hQ with⟨h1,h2⟩ | ⟨l,h,hn⟩
   ·rw[cY hp h1 h2,cY hp h1 (by rw[← dE,h2,bk])];rfl
   ·rw[cC hp h hn,cC hp h.opp (hn.imp id fun e h=>e (mX.1 (by rw[dE];exact h))),QB,QC];rfl
theorem Slp.back{l x1 y1 x2 y2:K2 n}(h:Slp l x1 y1 x2 y2):Slp (neg l) (cx l x1 x2) (cy l x1 y1 x2) x2 (neg y2):=by
 obtain⟨rfl,hb⟩:=h
 exact⟨aH (x:=(.s (.m (.v 3) (.s (.v 0) (.s (.s (.m (.v 3) (.v 3)) (.v 0)) (.v 1)))) (.a (.v 2) (.m (.v 3) (.s (.v 0) (.v 1)))))) (y:=(.a (.n (.v 2)) (.m (.n (.v 3)) (.s (.s (.s (.m (.v 3) (.v 3)) (.v 0)) (.v 1)) (.v 1))))) (by decide +kernel) [x1,x2,y2,l],gw (aH (x:=(.s (.m (.n (.v 3)) (.a (.s (.m (.v 3) (.s (.v 0) (.s (.s (.m (.v 3) (.v 3)) (.v 0)) (.v 1)))) (.a (.v 2) (.m (.v 3) (.s (.v 0) (.v 1))))) (.n (.v 2)))) (.a (.a (.m (.s (.s (.m (.v 3) (.v 3)) (.v 0)) (.v 1)) (.s (.s (.m (.v 3) (.v 3)) (.v 0)) (.v 1))) (.m (.s (.s (.m (.v 3) (.v 3)) (.v 0)) (.v 1)) (.v 1))) (.m (.v 1) (.v 1))))) (y:=(.m (.c 1) (.s (.m (.v 3) (.a (.a (.v 2) (.m (.v 3) (.s (.v 0) (.v 1)))) (.v 2))) (.a (.a (.m (.v 0) (.v 0)) (.m (.v 0) (.v 1))) (.m (.v 1) (.v 1)))))) (by decide +kernel) [x1,x2,y2,l]) (hb)⟩
theorem Le(l x1 x2:K2 n):cx (neg l) (cx l x1 x2) x2=x1:=aH (x:=(.s (.s (.m (.n (.v 0)) (.n (.v 0))) (.s (.s (.m (.v 0) (.v 0)) (.v 1)) (.v 2))) (.v 2))) (y:=(.v 1)) (by decide +kernel) [l,x1,x2]
theorem Lf{l x1 y1 x2 y2:K2 n}(_:Slp l x1 y1 x2 y2):cy (neg l) (cx l x1 x2) (cy l x1 y1 x2) x2=y1:=aH (x:=(.s (.m (.n (.v 0)) (.s (.s (.s (.m (.v 0) (.v 0)) (.v 1)) (.v 3)) (.s (.s (.m (.n (.v 0)) (.n (.v 0))) (.s (.s (.m (.v 0) (.v 0)) (.v 1)) (.v 3))) (.v 3)))) (.s (.m (.v 0) (.s (.v 1) (.s (.s (.m (.v 0) (.v 0)) (.v 1)) (.v 3)))) (.v 2)))) (y:=(.v 2)) (by decide +kernel) [l,x1,y1,x2]
abbrev No2(b:K2 n):Prop:=∀x:K2 n,add (mul (mul x x) x) b≠zero
theorem gD{b x y:K2 n}(h2:No2 b)(h:mul y y=add (mul (mul x x) x) b):y≠zero:=by
 rintro rfl
 rw[aj]at h
 exact h2 x h.symm
theorem jz(hp:P3 n){b:K2 n}(h2:No2 b){p q:Pt n}(hP:Onc b p)(hQ:Onc b q):pa (pa p q) (pn q)=p:=by
 cases p with
 | none=>exact vD hp q
 | some p=>cases q with
  | none=>rfl
  | some q=>
   obtain⟨x1,y1⟩:=p
   obtain⟨x2,y2⟩:=q
   rcases cq hp hP hQ with⟨e1,e2⟩ | ⟨l,h,hn⟩
   ·rw[cY hp e1 e2]
    show some (x2,neg y2)=some (x1,y1)
    rw[show x1=x2 from e1,show y1=neg y2 from aP e2]
   ·rw[cC hp h hn]
    show pa (some (cx l x1 x2,cy l x1 y1 x2)) (some (x2,neg y2))=some (x1,y1)
    rw[cC hp h.back,Le,Lf h]
    by_cases hx:cx l x1 x2=x2
    ·right
     intro e
     have ey:cy l x1 y1 x2=y2:=aE (by rw[sub_eq];exact e)
     have ea:=h.back.a
     rw[hx,aZ,aj,add_zero',ey]at ea
     refine ge hp (gD h2 hQ) ?_
     have:add y2 y2=add y2 (neg y2):=by rw[← ea]
     rw[this,add_neg']
    ·exact .inl hx
theorem Ob(hp:P3 n){A B C D l m s t u v:K2 n}(hl:mul l A=B)(hm:mul m C=D)(hA:A≠zero)(hC:C≠zero)
  (e:(sub (mul (mul B B) (mul C C)) (mul (mul (mul A A) (mul C C)) (add s t)))=(sub (mul (mul D D) (mul A A)) (mul (mul (mul A A) (mul C C)) (add u v)))):cx l s t=cx m u v:=by
 subst hl
 subst hm
 refine vn hp (bQ hp (bQ hp hA hA) (bQ hp hC hC)) ?_
 rw[← tD]
 exact gw (aH (x:=(.s (.m (.m (.m (.v 0) (.v 0)) (.m (.v 2) (.v 2))) (.s (.s (.s (.m (.v 4) (.v 4)) (.v 6)) (.v 7)) (.s (.s (.m (.v 5) (.v 5)) (.v 8)) (.v 9)))) (.c 0))) (y:=(.m (.c 1) (.s (.s (.m (.m (.m (.v 4) (.v 0)) (.m (.v 4) (.v 0))) (.m (.v 2) (.v 2))) (.m (.m (.m (.v 0) (.v 0)) (.m (.v 2) (.v 2))) (.a (.v 6) (.v 7)))) (.s (.m (.m (.m (.v 5) (.v 2)) (.m (.v 5) (.v 2))) (.m (.v 0) (.v 0))) (.m (.m (.m (.v 0) (.v 0)) (.m (.v 2) (.v 2))) (.a (.v 8) (.v 9))))))) (by decide +kernel) [A,A,C,C,l,m,s,t,u,v]) (e)
theorem Oc(hp:P3 n){A B C D l m s t u v y w:K2 n}(hl:mul l A=B)(hm:mul m C=D)(hA:A≠zero)(hC:C≠zero)(hx:cx l s t=cx m u v)
  (e:(mul (sub (mul B C) (mul D A)) (sub (mul B B) (mul (mul A A) (add s t))))=(sub (mul (mul A A) (sub (mul (mul B C) s) (mul (mul D A) u))) (mul (mul (mul (mul A A) A) C) (sub y w)))):cy l s y t=cy m u w v:=by
 subst hl
 subst hm
 refine vn hp (bQ hp (bQ hp (bQ hp hA hA) hA) hC) ?_
 rw[cy,cy,← hx,← tD]
 exact gw (aH (x:=(.s (.m (.m (.m (.m (.v 0) (.v 0)) (.v 0)) (.v 2)) (.s (.s (.m (.v 4) (.s (.v 6) (.s (.s (.m (.v 4) (.v 4)) (.v 6)) (.v 7)))) (.v 9)) (.s (.m (.v 5) (.s (.v 8) (.s (.s (.m (.v 4) (.v 4)) (.v 6)) (.v 7)))) (.v 10)))) (.c 0))) (y:=(.m (.c (-1)) (.s (.m (.s (.m (.m (.v 4) (.v 0)) (.v 2)) (.m (.m (.v 5) (.v 2)) (.v 0))) (.s (.m (.m (.v 4) (.v 0)) (.m (.v 4) (.v 0))) (.m (.m (.v 0) (.v 0)) (.a (.v 6) (.v 7))))) (.s (.m (.m (.v 0) (.v 0)) (.s (.m (.m (.m (.v 4) (.v 0)) (.v 2)) (.v 6)) (.m (.m (.m (.v 5) (.v 2)) (.v 0)) (.v 8)))) (.m (.m (.m (.m (.v 0) (.v 0)) (.v 0)) (.v 2)) (.s (.v 9) (.v 10))))))) (by decide +kernel) [A,A,C,C,l,m,s,t,u,y,w]) (e)
def Oj(x1 x2 x3 _y2 l m:K2 n):K2 n:=mul (mul (sub (sub (sub (mul l l) x1) x2) x3) (sub (sub (sub (mul l l) x1) x2) x3)) (mul (sub (sub (sub (mul m m) x3) x2) x1) (sub (sub (sub (mul m m) x3) x2) x1))
def qU:Ex:=.s (.s (.m (.v 4) (.v 4)) (.v 0)) (.v 1)
def qV:Ex:=.s (.s (.m (.v 5) (.v 5)) (.v 2)) (.v 1)
def xr:Ex:=.a (.v 3) (.m (.v 4) (.s (.v 0) (.v 1)))
def xu:Ex:=.a (.v 3) (.m (.v 5) (.s (.v 2) (.v 1)))
def Og:Ex:=.a (.m (.a (.m (.c 3) (.v 2)) (.a (.m (.c 3) (.v 1)) (.m (.c 6) (.v 0)))) (.v 2)) (.a (.m (.m (.c 3) (.v 0)) (.v 1)) (.m (.m (.c 3) (.v 0)) (.v 0)))
def Oh:Ex:=.m (.m (.s qU (.v 2)) (.s qU (.v 2))) (.m (.s qV (.v 0)) (.s qV (.v 0)))
def Oi:Ex:=.m (.a (.m (.c 4) (.v 2)) (.a (.m (.c 4) (.v 1)) (.m (.c 4) (.v 0)))) (.v 3)
def Of:Ex:=.a (.m (.a (.m (.a (.m (.a (.m (.a (.m (.c (-1)) (.v 2)) (.m (.c 1) (.v 1))) (.v 5)) (.a (.m (.a (.m (.m (.c (-2)) (.v 4)) (.v 4)) (.a (.m (.c 4) (.v 1)) (.m (.c 2) (.v 0)))) (.v 4)) (.m (.c (-2)) (.v 3)))) (.v 5)) (.a (.m (.a (.m (.a (.m (.c (-3)) (.v 2)) (.m (.c (-3)) (.v 0))) (.v 4)) (.m (.c (-2)) (.v 3))) (.v 4)) Og)) (.v 5)) (.a (.m (.a (.m (.a (.m (.a (.m (.c 2) (.v 2)) (.m (.c 4) (.v 1))) (.v 4)) (.m (.c (-2)) (.v 3))) (.v 4)) (.a (.m (.m (.c (-6)) (.v 1)) (.v 2)) (.m (.a (.m (.c (-6)) (.v 1)) (.m (.c (-6)) (.v 0))) (.v 1)))) (.v 4)) Oi)) (.v 5)) (.a (.m (.a (.m (.a (.m (.a (.m (.a (.m (.c 1) (.v 1)) (.m (.c (-1)) (.v 0))) (.v 4)) (.m (.c (-2)) (.v 3))) (.v 4)) Og) (.v 4)) Oi) (.v 4)) (.a (.m (.a (.m (.a (.m (.c (-2)) (.v 2)) (.a (.m (.c (-6)) (.v 1)) (.m (.c (-6)) (.v 0)))) (.v 2)) (.a (.m (.a (.m (.c (-6)) (.v 1)) (.m (.c (-12)) (.v 0))) (.v 1)) (.m (.m (.c (-6)) (.v 0)) (.v 0)))) (.v 2)) (.a (.m (.a (.m (.a (.m (.c (-2)) (.v 1)) (.m (.c (-6)) (.v 0))) (.v 1)) (.m (.m (.c (-6)) (.v 0)) (.v 0))) (.v 1)) (.m (.m (.m (.c (-2)) (.v 0)) (.v 0)) (.v 0)))))
theorem WI{x1 x2 x3 y2 l m:K2 n}(ha:(mul l (add (add y2 (mul l (sub x1 x2))) y2))=(add (add (mul x1 x1) (mul x1 x2)) (mul x2 x2)))(hb:(mul m (add (add y2 (mul m (sub x3 x2))) y2))=(add (add (mul x3 x3) (mul x3 x2)) (mul x2 x2))):(sub (mul (mul (sub (sub (mul l (sub x1 (sub (sub (mul l l) x1) x2))) (add y2 (mul l (sub x1 x2)))) (add y2 (mul m (sub x3 x2)))) (sub (sub (mul l (sub x1 (sub (sub (mul l l) x1) x2))) (add y2 (mul l (sub x1 x2)))) (add y2 (mul m (sub x3 x2))))) (mul (sub (sub (sub (mul m m) x3) x2) x1) (sub (sub (sub (mul m m) x3) x2) x1))) (mul (Oj x1 x2 x3 y2 l m) (add (sub (sub (mul l l) x1) x2) x3)))=(sub (mul (mul (sub (sub (mul m (sub x3 (sub (sub (mul m m) x3) x2))) (add y2 (mul m (sub x3 x2)))) (add y2 (mul l (sub x1 x2)))) (sub (sub (mul m (sub x3 (sub (sub (mul m m) x3) x2))) (add y2 (mul m (sub x3 x2)))) (add y2 (mul l (sub x1 x2))))) (mul (sub (sub (sub (mul l l) x1) x2) x3) (sub (sub (sub (mul l l) x1) x2) x3))) (mul (Oj x1 x2 x3 y2 l m) (add x1 (sub (sub (mul m m) x3) x2)))):=vc (aH (x:=(.s (.s (.m (.m (.s (.s (.m (.v 4) (.s (.v 0) qU)) xr) xu) (.s (.s (.m (.v 4) (.s (.v 0) qU)) xr) xu)) (.m (.s qV (.v 0)) (.s qV (.v 0)))) (.m Oh (.a qU (.v 2)))) (.s (.m (.m (.s (.s (.m (.v 5) (.s (.v 2) qV)) xu) xr) (.s (.s (.m (.v 5) (.s (.v 2) qV)) xu) xr)) (.m (.s qU (.v 2)) (.s qU (.v 2)))) (.m Oh (.a (.v 0) qV))))) (y:=(.a (.m Of (.s (.m (.v 4) (.a xr (.v 3))) (.a (.a (.m (.v 0) (.v 0)) (.m (.v 0) (.v 1))) (.m (.v 1) (.v 1))))) (.m (.n Of) (.s (.m (.v 5) (.a xu (.v 3))) (.a (.a (.m (.v 2) (.v 2)) (.m (.v 2) (.v 1))) (.m (.v 1) (.v 1))))))) (by decide +kernel) [x1,x2,x3,y2,l,m]) (ha) (hb)
def B4(x1 x2 x3 y2 l m:K2 n):K2 n:=sub (sub (mul l (sub x1 (sub (sub (mul l l) x1) x2))) (add y2 (mul l (sub x1 x2)))) (add y2 (mul m (sub x3 x2)))
def Om(x1 x2 x3 y2 l m:K2 n):K2 n:=mul (sub (sub (mul m (sub x3 (sub (sub (mul m m) x3) x2))) (add y2 (mul m (sub x3 x2)))) (add y2 (mul l (sub x1 x2)))) (sub (sub (sub (mul l l) x1) x2) x3)
def HH(x1 x2 x3 _y2 l _m:K2 n):K2 n:=mul (sub (sub (sub (mul l l) x1) x2) x3) (sub (sub (sub (mul l l) x1) x2) x3)
def oM:Ex:=.s (.s (.m (.v 4) (.v 4)) (.v 0)) (.v 1)
def xv:Ex:=.a (.v 3) (.m (.v 4) (.s (.v 0) (.v 1)))
def B3:Ex:=.s (.s (.m (.v 5) (.v 5)) (.v 2)) (.v 1)
def HD:Ex:=.a (.v 3) (.m (.v 5) (.s (.v 2) (.v 1)))
def B1:Ex:=.s (.s (.m (.v 4) (.s (.v 0) oM)) xv) HD
def HF:Ex:=.m (.s oM (.v 2)) (.s oM (.v 2))
def Ol:Ex:=.m (.s (.s (.m (.v 5) (.s (.v 2) B3)) HD) xv) (.s oM (.v 2))
def HG:Ex:=.m (.m (.c (-2)) (.v 0)) (.v 0)
def Ok:Ex:=.a (.m (.a (.m (.a (.m (.a (.m (.m (.a (.m (.c (-1)) (.v 2)) (.m (.c 1) (.v 1))) (.v 4)) (.v 4)) (.a (.m (.a (.m (.c 2) (.v 2)) (.a (.m (.c (-2)) (.v 1)) (.m (.c 1) (.v 0)))) (.v 2)) (.m (.m (.c (-1)) (.v 0)) (.v 1)))) (.v 5)) (.a (.m (.a (.m (.a (.m (.a (.m (.m (.c (-2)) (.v 4)) (.v 4)) (.a (.m (.c 5) (.v 2)) (.a (.m (.c 3) (.v 1)) (.m (.c 4) (.v 0))))) (.v 4)) (.m (.c (-2)) (.v 3))) (.v 4)) (.a (.m (.a (.m (.c (-10)) (.v 1)) (.m (.c (-5)) (.v 0))) (.v 2)) (.a (.m (.a (.m (.c 2) (.v 1)) (.m (.c (-3)) (.v 0))) (.v 1)) HG))) (.v 4)) (.m (.a (.m (.c 6) (.v 2)) (.a (.m (.c (-2)) (.v 1)) (.m (.c 2) (.v 0)))) (.v 3)))) (.v 5)) (.a (.m (.a (.m (.a (.m (.a (.m (.a (.m (.c 3) (.v 2)) (.m (.c (-3)) (.v 1))) (.v 4)) (.m (.c 4) (.v 3))) (.v 4)) (.a (.m (.a (.m (.c 2) (.v 2)) (.a (.m (.c (-6)) (.v 1)) (.m (.c (-1)) (.v 0)))) (.v 2)) (.m (.a (.m (.c 4) (.v 1)) (.m (.c 1) (.v 0))) (.v 1)))) (.v 4)) (.m (.a (.m (.c 4) (.v 2)) (.a (.m (.c (-12)) (.v 1)) (.m (.c (-4)) (.v 0)))) (.v 3))) (.v 4)) (.a (.m (.m (.c 4) (.v 3)) (.v 3)) (.a (.m (.a (.m (.a (.m (.c (-2)) (.v 2)) (.a (.m (.c (-2)) (.v 1)) (.m (.c (-4)) (.v 0)))) (.v 2)) (.a (.m (.m (.c 2) (.v 1)) (.v 1)) HG)) (.v 2)) (.m (.a (.m (.a (.m (.c 2) (.v 1)) (.m (.c 4) (.v 0))) (.v 1)) (.m (.m (.c 2) (.v 0)) (.v 0))) (.v 1)))))) (.v 5)) (.a (.m (.a (.m (.a (.m (.a (.m (.a (.m (.a (.m (.c 3) (.v 2)) (.a (.m (.c 1) (.v 1)) (.m (.c 2) (.v 0)))) (.v 4)) (.m (.c 4) (.v 3))) (.v 4)) (.a (.m (.a (.m (.c (-2)) (.v 2)) (.a (.m (.c (-10)) (.v 1)) (.m (.c (-7)) (.v 0)))) (.v 2)) (.a (.m (.a (.m (.c (-4)) (.v 1)) (.m (.c (-9)) (.v 0))) (.v 1)) (.m (.m (.c (-4)) (.v 0)) (.v 0))))) (.v 4)) (.m (.a (.m (.c 2) (.v 2)) (.a (.m (.c (-6)) (.v 1)) (.m (.c (-2)) (.v 0)))) (.v 3))) (.v 4)) (.a (.m (.m (.c 4) (.v 3)) (.v 3)) (.a (.m (.a (.m (.a (.m (.c 4) (.v 1)) (.m (.c 2) (.v 0))) (.v 2)) (.a (.m (.a (.m (.c 8) (.v 1)) (.m (.c 12) (.v 0))) (.v 1)) (.m (.m (.c 4) (.v 0)) (.v 0)))) (.v 2)) (.a (.m (.a (.m (.a (.m (.c 4) (.v 1)) (.m (.c 10) (.v 0))) (.v 1)) (.m (.m (.c 8) (.v 0)) (.v 0))) (.v 1)) (.m (.m (.m (.c 2) (.v 0)) (.v 0)) (.v 0)))))) (.v 4)) (.m (.a (.m (.a (.m (.c (-2)) (.v 2)) (.a (.m (.c (-4)) (.v 1)) (.m (.c (-4)) (.v 0)))) (.v 2)) (.a (.m (.a (.m (.c (-2)) (.v 1)) (.m (.c (-4)) (.v 0))) (.v 1)) HG)) (.v 3)))
theorem WJ{x1 x2 x3 y2 l m:K2 n}(ha:(mul l (add (add y2 (mul l (sub x1 x2))) y2))=(add (add (mul x1 x1) (mul x1 x2)) (mul x2 x2)))(hb:(mul m (add (add y2 (mul m (sub x3 x2))) y2))=(add (add (mul x3 x3) (mul x3 x2)) (mul x2 x2))):(mul (sub (mul (B4 x1 x2 x3 y2 l m) (sub (sub (sub (mul m m) x3) x2) x1)) (Om x1 x2 x3 y2 l m)) (sub (mul (B4 x1 x2 x3 y2 l m) (B4 x1 x2 x3 y2 l m)) (mul (HH x1 x2 x3 y2 l m) (add (sub (sub (mul l l) x1) x2) x3))))=(sub (mul (HH x1 x2 x3 y2 l m) (sub (mul (mul (B4 x1 x2 x3 y2 l m) (sub (sub (sub (mul m m) x3) x2) x1)) (sub (sub (mul l l) x1) x2)) (mul (Om x1 x2 x3 y2 l m) x1))) (mul (mul (mul (HH x1 x2 x3 y2 l m) (sub (sub (sub (mul l l) x1) x2) x3)) (sub (sub (sub (mul m m) x3) x2) x1)) (sub (sub (mul l (sub x1 (sub (sub (mul l l) x1) x2))) (add y2 (mul l (sub x1 x2)))) (add y2 (mul l (sub x1 x2)))))):=vc (aH (x:=(.s (.m (.s (.m B1 (.s B3 (.v 0))) Ol) (.s (.m B1 B1) (.m HF (.a oM (.v 2))))) (.s (.m HF (.s (.m (.m B1 (.s B3 (.v 0))) oM) (.m Ol (.v 0)))) (.m (.m (.m HF (.s oM (.v 2))) (.s B3 (.v 0))) (.s (.s (.m (.v 4) (.s (.v 0) oM)) xv) xv))))) (y:=(.a (.m Ok (.s (.m (.v 4) (.a xv (.v 3))) (.a (.a (.m (.v 0) (.v 0)) (.m (.v 0) (.v 1))) (.m (.v 1) (.v 1))))) (.m (.n Ok) (.s (.m (.v 5) (.a HD (.v 3))) (.a (.a (.m (.v 2) (.v 2)) (.m (.v 2) (.v 1))) (.m (.v 1) (.v 1))))))) (by decide +kernel) [x1,x2,x3,y2,l,m]) (ha) (hb)
def ly(x1 x2 _e l:K2 n):K2 n:=sub (sub (mul l l) x1) x2
def ua(x1 x2 e l:K2 n):K2 n:=sub (sub (mul (neg (add (add e e) l)) (neg (add (add e e) l))) x2) (ly x1 x2 e l)
def CX(x1 x2 e l:K2 n):K2 n:=add (mul e (sub (ly x1 x2 e l) x2)) (mul l (sub x1 x2))
def CW(x1 x2 e l:K2 n):K2 n:=add (sub (mul l (sub x1 (ly x1 x2 e l))) (CX x1 x2 e l)) (sub (mul l (sub x1 (ly x1 x2 e l))) (CX x1 x2 e l))
def uc(x1 x2 e l:K2 n):K2 n:=mul (ly x1 x2 e l) (ly x1 x2 e l)
def OK(x1 x2 e l:K2 n):K2 n:=sub (sub (mul (neg (add (add e e) l)) (sub x2 (ua x1 x2 e l))) (mul e (sub (ly x1 x2 e l) x2))) (CX x1 x2 e l)
def OL(x1 x2 e l:K2 n):K2 n:=mul (mul (CW x1 x2 e l) (CW x1 x2 e l)) (mul (sub (ua x1 x2 e l) x1) (sub (ua x1 x2 e l) x1))
def je:Ex:=.s (.s (.m (.v 3) (.v 3)) (.v 0)) (.v 1)
def JL:Ex:=.a (.m (.v 2) (.s je (.v 1))) (.m (.v 3) (.s (.v 0) (.v 1)))
def o7:Ex:=.s (.m (.v 3) (.s (.v 0) je)) JL
def OH:Ex:=.a (.m (.a (.m (.c (-80)) (.v 1)) (.m (.c (-176)) (.v 0))) (.v 1)) (.m (.m (.c (-80)) (.v 0)) (.v 0))
def JM:Ex:=.n (.a (.a (.v 2) (.v 2)) (.v 3))
def t9:Ex:=.s (.s (.m JM JM) (.v 1)) je
def OG:Ex:=.s (.s (.m JM (.s (.v 1) t9)) (.m (.v 2) (.s je (.v 1)))) JL
def OI:Ex:=.m (.m (.a o7 o7) (.a o7 o7)) (.m (.s t9 (.v 0)) (.s t9 (.v 0)))
def OJ:Ex:=.a (.a (.m je je) (.m je je)) (.m je je)
theorem Xb{x1 x2 e l:K2 n}(ha:(mul l (add (CX x1 x2 e l) (mul e (sub (ly x1 x2 e l) x2))))=(add (add (mul x1 x1) (mul x1 x2)) (mul x2 x2))):(sub (mul (mul (add (add (uc x1 x2 e l) (uc x1 x2 e l)) (uc x1 x2 e l)) (add (add (uc x1 x2 e l) (uc x1 x2 e l)) (uc x1 x2 e l))) (mul (sub (ua x1 x2 e l) x1) (sub (ua x1 x2 e l) x1))) (mul (OL x1 x2 e l) (add (ly x1 x2 e l) (ly x1 x2 e l))))=(sub (mul (mul (OK x1 x2 e l) (OK x1 x2 e l)) (mul (CW x1 x2 e l) (CW x1 x2 e l))) (mul (OL x1 x2 e l) (add x1 (ua x1 x2 e l)))):=gw (aH (x:=(.s (.s (.m (.m OJ OJ) (.m (.s t9 (.v 0)) (.s t9 (.v 0)))) (.m OI (.a je je))) (.s (.m (.m OG OG) (.m (.a o7 o7) (.a o7 o7))) (.m OI (.a (.v 0) t9))))) (y:=(.m (.a (.m (.a (.m (.a (.m (.a (.m (.a (.m (.a (.m (.m (.m (.c (-96)) (.v 2)) (.v 2)) (.v 3)) (.m (.m (.m (.c (-224)) (.v 2)) (.v 2)) (.v 2))) (.v 3)) (.m (.m (.a (.m (.m (.c (-160)) (.v 2)) (.v 2)) (.a (.m (.c 208) (.v 1)) (.m (.c 176) (.v 0)))) (.v 2)) (.v 2))) (.v 3)) (.m (.m (.m (.a (.m (.m (.c (-32)) (.v 2)) (.v 2)) (.a (.m (.c 480) (.v 1)) (.m (.c 384) (.v 0)))) (.v 2)) (.v 2)) (.v 2))) (.v 3)) (.m (.m (.a (.m (.m (.a (.m (.c 336) (.v 1)) (.m (.c 240) (.v 0))) (.v 2)) (.v 2)) OH) (.v 2)) (.v 2))) (.v 3)) (.m (.m (.m (.a (.m (.m (.a (.m (.c 64) (.v 1)) (.m (.c 32) (.v 0))) (.v 2)) (.v 2)) (.a (.m (.a (.m (.c (-160)) (.v 1)) (.m (.c (-352)) (.v 0))) (.v 1)) (.m (.m (.c (-160)) (.v 0)) (.v 0)))) (.v 2)) (.v 2)) (.v 2))) (.v 3)) (.m (.m (.m (.m OH (.v 2)) (.v 2)) (.v 2)) (.v 2))) (.s (.m (.v 3) (.a JL (.m (.v 2) (.s je (.v 1))))) (.a (.a (.m (.v 0) (.v 0)) (.m (.v 0) (.v 1))) (.m (.v 1) (.v 1)))))) (by decide +kernel) [x1,x2,e,l]) (ha)
def iG(x1 x2 _e l:K2 n):K2 n:=sub (sub (mul l l) x1) x2
def C1(x1 x2 e l:K2 n):K2 n:=add (add (mul (iG x1 x2 e l) (iG x1 x2 e l)) (mul (iG x1 x2 e l) (iG x1 x2 e l))) (mul (iG x1 x2 e l) (iG x1 x2 e l))
def C2(x1 x2 e l:K2 n):K2 n:=sub (sub (mul (neg (add (add e e) l)) (neg (add (add e e) l))) x2) (iG x1 x2 e l)
def C3(x1 x2 e l:K2 n):K2 n:=add (mul e (sub (iG x1 x2 e l) x2)) (mul l (sub x1 x2))
def JP(x1 x2 e l:K2 n):K2 n:=sub (mul l (sub x1 (iG x1 x2 e l))) (C3 x1 x2 e l)
def o8(x1 x2 e l:K2 n):K2 n:=add (JP x1 x2 e l) (JP x1 x2 e l)
def OO(x1 x2 e l:K2 n):K2 n:=mul (sub (sub (mul (neg (add (add e e) l)) (sub x2 (C2 x1 x2 e l))) (mul e (sub (iG x1 x2 e l) x2))) (C3 x1 x2 e l)) (o8 x1 x2 e l)
def iF:Ex:=.s (.s (.m (.v 3) (.v 3)) (.v 0)) (.v 1)
def CZ:Ex:=.a (.m (.v 2) (.s iF (.v 1))) (.m (.v 3) (.s (.v 0) (.v 1)))
def nH:Ex:=.s (.m (.v 3) (.s (.v 0) iF)) CZ
def OM:Ex:=.a (.m (.a (.m (.a (.m (.a (.m (.c (-36)) (.v 1)) (.m (.c (-144)) (.v 0))) (.v 1)) (.m (.m (.c (-216)) (.v 0)) (.v 0))) (.v 1)) (.m (.m (.m (.c (-144)) (.v 0)) (.v 0)) (.v 0))) (.v 1)) (.m (.m (.m (.m (.c (-36)) (.v 0)) (.v 0)) (.v 0)) (.v 0))
def C0:Ex:=.a (.a (.m iF iF) (.m iF iF)) (.m iF iF)
def JN:Ex:=.m (.a nH nH) (.a nH nH)
def JO:Ex:=.n (.a (.a (.v 2) (.v 2)) (.v 3))
def CY:Ex:=.s (.s (.m JO JO) (.v 1)) iF
def ON:Ex:=.m (.s (.s (.m JO (.s (.v 1) CY)) (.m (.v 2) (.s iF (.v 1)))) CZ) (.a nH nH)
theorem Xc{x1 x2 e l:K2 n}(ha:(mul l (add (C3 x1 x2 e l) (mul e (sub (iG x1 x2 e l) x2))))=(add (add (mul x1 x1) (mul x1 x2)) (mul x2 x2))):(mul (sub (mul (C1 x1 x2 e l) (sub (C2 x1 x2 e l) x1)) (OO x1 x2 e l)) (sub (mul (C1 x1 x2 e l) (C1 x1 x2 e l)) (mul (mul (o8 x1 x2 e l) (o8 x1 x2 e l)) (add (iG x1 x2 e l) (iG x1 x2 e l)))))=(sub (mul (mul (o8 x1 x2 e l) (o8 x1 x2 e l)) (sub (mul (mul (C1 x1 x2 e l) (sub (C2 x1 x2 e l) x1)) (iG x1 x2 e l)) (mul (OO x1 x2 e l) x1))) (mul (mul (mul (mul (o8 x1 x2 e l) (o8 x1 x2 e l)) (o8 x1 x2 e l)) (sub (C2 x1 x2 e l) x1)) (sub (JP x1 x2 e l) (C3 x1 x2 e l)))):=gw (aH (x:=(.s (.m (.s (.m C0 (.s CY (.v 0))) ON) (.s (.m C0 C0) (.m JN (.a iF iF)))) (.s (.m JN (.s (.m (.m C0 (.s CY (.v 0))) iF) (.m ON (.v 0)))) (.m (.m (.m JN (.a nH nH)) (.s CY (.v 0))) (.s nH CZ))))) (y:=(.m (.a (.m (.a (.m (.a (.m (.a (.m (.a (.m (.a (.m (.a (.m (.a (.m (.a (.m (.m (.c (-84)) (.v 2)) (.v 3)) (.m (.m (.c (-212)) (.v 2)) (.v 2))) (.v 3)) (.m (.a (.m (.m (.c (-240)) (.v 2)) (.v 2)) (.a (.m (.c 304) (.v 1)) (.m (.c 272) (.v 0)))) (.v 2))) (.v 3)) (.m (.m (.a (.m (.m (.c (-144)) (.v 2)) (.v 2)) (.a (.m (.c 752) (.v 1)) (.m (.c 592) (.v 0)))) (.v 2)) (.v 2))) (.v 3)) (.m (.a (.m (.m (.a (.m (.m (.c (-32)) (.v 2)) (.v 2)) (.a (.m (.c 864) (.v 1)) (.m (.c 576) (.v 0)))) (.v 2)) (.v 2)) (.a (.m (.a (.m (.c (-328)) (.v 1)) (.m (.c (-688)) (.v 0))) (.v 1)) (.m (.m (.c (-328)) (.v 0)) (.v 0)))) (.v 2))) (.v 3)) (.m (.m (.a (.m (.m (.a (.m (.c 544) (.v 1)) (.m (.c 320) (.v 0))) (.v 2)) (.v 2)) (.a (.m (.a (.m (.c (-680)) (.v 1)) (.m (.c (-1328)) (.v 0))) (.v 1)) (.m (.m (.c (-584)) (.v 0)) (.v 0)))) (.v 2)) (.v 2))) (.v 3)) (.m (.a (.m (.m (.a (.m (.m (.a (.m (.c 128) (.v 1)) (.m (.c 64) (.v 0))) (.v 2)) (.v 2)) (.a (.m (.a (.m (.c (-720)) (.v 1)) (.m (.c (-1152)) (.v 0))) (.v 1)) (.m (.m (.c (-432)) (.v 0)) (.v 0)))) (.v 2)) (.v 2)) (.a (.m (.a (.m (.a (.m (.c 112) (.v 1)) (.m (.c 480) (.v 0))) (.v 1)) (.m (.m (.c 528) (.v 0)) (.v 0))) (.v 1)) (.m (.m (.m (.c 176) (.v 0)) (.v 0)) (.v 0)))) (.v 2))) (.v 3)) (.m (.m (.a (.m (.m (.a (.m (.a (.m (.c (-496)) (.v 1)) (.m (.c (-640)) (.v 0))) (.v 1)) (.m (.m (.c (-208)) (.v 0)) (.v 0))) (.v 2)) (.v 2)) (.a (.m (.a (.m (.a (.m (.c 48) (.v 1)) (.m (.c 576) (.v 0))) (.v 1)) (.m (.m (.c 720) (.v 0)) (.v 0))) (.v 1)) (.m (.m (.m (.c 240) (.v 0)) (.v 0)) (.v 0)))) (.v 2)) (.v 2))) (.v 3)) (.m (.a (.m (.m (.a (.m (.m (.a (.m (.a (.m (.c (-128)) (.v 1)) (.m (.c (-128)) (.v 0))) (.v 1)) (.m (.m (.c (-32)) (.v 0)) (.v 0))) (.v 2)) (.v 2)) (.a (.m (.a (.m (.a (.m (.c (-96)) (.v 1)) (.m (.c 144) (.v 0))) (.v 1)) (.m (.m (.c 288) (.v 0)) (.v 0))) (.v 1)) (.m (.m (.m (.c 96) (.v 0)) (.v 0)) (.v 0)))) (.v 2)) (.v 2)) OM) (.v 2))) (.v 3)) (.m (.m (.a (.m (.m (.a (.m (.a (.m (.a (.m (.c (-32)) (.v 1)) (.m (.c 48) (.v 0))) (.v 1)) (.m (.m (.c 96) (.v 0)) (.v 0))) (.v 1)) (.m (.m (.m (.c 32) (.v 0)) (.v 0)) (.v 0))) (.v 2)) (.v 2)) OM) (.v 2)) (.v 2))) (.s (.m (.v 3) (.a CZ (.m (.v 2) (.s iF (.v 1))))) (.a (.a (.m (.v 0) (.v 0)) (.m (.v 0) (.v 1))) (.m (.v 1) (.v 1)))))) (by decide +kernel) [x1,x2,e,l]) (ha)
theorem Rf{h l m:K2 n}(hh:add h h=ofZ 1):m=neg (add (add (neg (mul h (add l m))) (neg (mul h (add l m)))) l):=gw (aH (x:=(.s (.v 2) (.n (.a (.a (.n (.m (.v 0) (.a (.v 1) (.v 2)))) (.n (.m (.v 0) (.a (.v 1) (.v 2))))) (.v 1))))) (y:=(.m (.n (.a (.v 1) (.v 2))) (.s (.a (.v 0) (.v 0)) (.c 1)))) (by decide +kernel) [h,l,m]) (hh)
theorem Rg{h l m x1 x2 y2:K2 n}(hh:add h h=ofZ 1)(h3:y2=add (cy l x1 (add y2 (mul l (sub x1 x2))) x2) (mul m (sub x2 (cx l x1 x2)))):y2=mul (neg (mul h (add l m))) (sub (cx l x1 x2) x2):=vc (aH (x:=(.s (.v 5) (.m (.n (.m (.v 0) (.a (.v 1) (.v 2)))) (.s (.s (.s (.m (.v 1) (.v 1)) (.v 3)) (.v 4)) (.v 4))))) (y:=(.a (.m (.n (.v 5)) (.s (.a (.v 0) (.v 0)) (.c 1))) (.m (.v 0) (.s (.v 5) (.a (.s (.m (.v 1) (.s (.v 3) (.s (.s (.m (.v 1) (.v 1)) (.v 3)) (.v 4)))) (.a (.v 5) (.m (.v 1) (.s (.v 3) (.v 4))))) (.m (.v 2) (.s (.v 4) (.s (.s (.m (.v 1) (.v 1)) (.v 3)) (.v 4))))))))) (by decide +kernel) [h,l,m,x1,x2,y2]) (hh) (h3)
theorem Slp.diff{l x1 y1 x2 y2:K2 n}(h:Slp l x1 y1 x2 y2):mul l (sub x1 x2)=sub y1 y2:=gw (aH (x:=(.s (.m (.v 4) (.s (.v 0) (.v 2))) (.s (.v 1) (.v 3)))) (y:=(.m (.c (-1)) (.s (.v 1) (.a (.v 3) (.m (.v 4) (.s (.v 0) (.v 2))))))) (by decide +kernel) [x1,y1,x2,y2,l]) (h.a)
theorem Slp.diff'{l x1 y1 x2 y2:K2 n}(h:Slp l x1 y1 x2 y2):mul l (sub x2 x1)=sub y2 y1:=h.symm.diff
theorem BX(hp:P3 n):∃h:K2 n,add h h=ofZ 1:=by
 have h2:=ge hp (jv hp)
 refine⟨inv (add one one),?_⟩
 have:=j8 hp h2
 rw[mul_add',mul_one']at this
 rw[dN];exact this
theorem Ck(hp:P3 n){b:K2 n}(h2:No2 b){x1 y1 x2 y2 l m:K2 n}(hP:mul y1 y1=add (mul (mul x1 x1) x1) b)(hl:Slp l x1 y1 x2 y2)
  (hm:Slp m x2 y2 (cx l x1 x2) (cy l x1 y1 x2)) (hx:x1≠cx m x2 (cx l x1 x2)):
  pa (some (cx l x1 x2,cy l x1 y1 x2)) (some (cx l x1 x2,cy l x1 y1 x2))=pa (some (x1,y1)) (some (cx m x2 (cx l x1 x2),cy m x2 y2 (cx l x1 x2))):=by
 have hS:=xM hl hP
 have hT:=xM hm.symm hS
 rw[mB hm.symm,jq m (cx l x1 x2) x2]at hT
 have hs0:=ge hp (gD h2 hS)
 obtain⟨k,hk,hkn⟩:=(cq hp hS hS).resolve_left fun h=>hs0 h.2
 obtain⟨j,hj,hjn⟩:=(cq hp hP hT).resolve_left fun h=>hx h.1
 rw[cC hp hk hkn,cC hp hj hjn]
 have hC:sub (cx m x2 (cx l x1 x2)) x1≠zero:=fun e=>hx (aE e).symm
 have hkb:=hk.b
 have hjd:=hj.diff'
 clear hk hkn hj hjn hT hS h2 hP
 obtain⟨h,hh⟩:=BX hp
 obtain⟨rfl,hla⟩:=hl
 have e1:=Rg hh hm.a
 have e2:=Rf (l:=l) (m:=m) hh
 clear hm
 generalize neg (mul h (add l m))=e at e1 e2
 subst e2
 generalize h1:mul e (sub (cx l x1 x2) x2)=y at e1
 subst e1
 subst h1
 have ex:=Ob hp hkb hjd hs0 hC (Xb hla)
 have ey:=Oc hp hkb hjd hs0 hC ex (Xc hla)
 exact bF ex ey
theorem RQ(hp:P3 n){b:K2 n}{x1 y1 x2 y2 x3 y3 l m:K2 n}(hP:mul y1 y1=add (mul (mul x1 x1) x1) b)(hR:mul y3 y3=add (mul (mul x3 x3) x3) b)(hl:Slp l x1 y1 x2 y2)(hm:Slp m x3 y3 x2 y2)
  (hA:cx l x1 x2≠x3) (hx:x1≠cx m x3 x2):
  pa (some (cx l x1 x2,cy l x1 y1 x2)) (some (x3,y3))=pa (some (x1,y1)) (some (cx m x3 x2,cy m x3 y3 x2)):=by
 have hS:=xM hl hP
 have hT:=xM hm hR
 obtain⟨k,hk,hkn⟩:=(cq hp hS hR).resolve_left fun h=>hA h.1
 obtain⟨j,hj,hjn⟩:=(cq hp hP hT).resolve_left fun h=>hx h.1
 rw[cC hp hk hkn,cC hp hj hjn]
 have hA':sub (cx l x1 x2) x3≠zero:=fun e=>hA (aE e)
 have hC:sub (cx m x3 x2) x1≠zero:=fun e=>hx (aE e).symm
 have hkd:=hk.diff
 have hjd:=hj.diff'
 clear hk hkn hj hjn hT hS hP hR
 obtain⟨rfl,hla⟩:=hl
 obtain⟨rfl,hma⟩:=hm
 have ex:=Ob hp hkd hjd hA' hC (WI hla hma)
 have ey:=Oc hp hkd hjd hA' hC ex (WJ hla hma)
 exact bF ex ey
theorem xQ(hp:P3 n){b:K2 n}(h2:No2 b){p q:Pt n}(hP:Onc b p)(hQ:Onc b q):pa (pn q) (pa q p)=p:=by
 rw[dr hp hQ hP,dr hp (cF hQ) (di hp hP hQ),jz hp h2 hP hQ]
theorem dW(hp:P3 n){b:K2 n}(h2:No2 b){p q r:Pt n}(hP:Onc b p)(hQ:Onc b q)(hR:Onc b r):pa (pa p q) r=pa p (pa q r):=by
 cases p with
 | none=>rfl
 | some p=>cases q with
  | none=>rfl
  | some q=>cases r with
   | none=>rw[bB,bB]
   | some r=>
    have hPQ:=di hp hP hQ
    have hQR:=di hp hQ hR
    by_cases c1:some p=pn (some q)
    ·rw[c1,m7 hp,xQ hp h2 hR hQ];rfl
    by_cases c2:some r=pn (some q)
    ·rw[c2,vD hp,jz hp h2 hP hQ,bB]
    by_cases c3:some r=pn (pa (some p) (some q))
    ·have e1:=Cj hp hP hQ
     have e2:=xQ hp h2 (cF hP) (cF hQ)
     rw[ID,dr hp (cF hQ) (cF hP),e1]at e2
     rw[c3,vD hp,e2,vD hp]
    by_cases c4:some p=pn (pa (some q) (some r))
    ·have e1:=Cj hp hQ hR
     have e2:=jz hp h2 (cF hR) (cF hQ)
     rw[ID,dr hp (cF hR) (cF hQ),e1]at e2
     rw[c4,m7 hp,e2,m7 hp]
    obtain⟨x1,y1⟩:=p
    obtain⟨x2,y2⟩:=q
    obtain⟨x3,y3⟩:=r
    have deg:∀{a c d e:K2 n},a=d→add c e=zero→(some (a,c):Pt n)=pn (some (d,e)):=fun h1 h3=>by
     rw[h1,aP h3];rfl
    obtain⟨l,hl,hln⟩:=(cq hp (bL hP) (bL hQ)).resolve_left fun h=>c1 (deg h.1 h.2)
    obtain⟨m,hm,hmn⟩:=(cq hp (bL hR) (bL hQ)).resolve_left fun h=>c2 (deg h.1 h.2)
    have eS:=cC hp hl hln
    have eT:=cC hp hm hmn
    rw[dr hp hR hQ]at eT
    rw[eS]at c3 hPQ ⊢
    rw[eT]at c4 hQR ⊢
    have hS:=(cq hp (bL hPQ) (bL hR)).resolve_left fun h=>c3 (deg h.1.symm (by rw[add_comm'];exact h.2))
    have hT:=(cq hp (bL hP) (bL hQR)).resolve_left fun h=>c4 (deg h.1 h.2)
    by_cases hA:cx l x1 x2=x3
    ·obtain⟨k,hk,_⟩:=hS
     have ey:y3=cy l x1 y1 x2:=by
      have:=hk.a
      rw[hA,aZ,aj,add_zero']at this
      exact this.symm
     by_cases hx:x1=cx m x3 x2
     ·exfalso
      obtain⟨j,hj,_⟩:=hT
      have ez:y1=cy m x3 y3 x2:=by
       have:=hj.a
       rwa [← hx,aZ,aj,add_zero']at this
      have f1:pa (some (x1,y1)) (some (x2,y2))=some (x3,y3):=by rw[eS,hA,ey]
      have f2:pa (some (x2,y2)) (some (x3,y3))=some (x1,y1):=by rw[eT,← hx,← ez]
      have g1:=jz hp h2 hP hQ
      rw[f1]at g1
      have g2:=jz hp h2 hQ hR
      rw[f2,← g1,dr hp hR (cF hQ),jz hp h2 (cF hQ) hR]at g2
      have g3:=congrArg (fun o:Pt n=>(o.getD (zero,zero)).2) g2
      have g4:neg y2=y2:=g3
      refine ge hp (gD h2 hQ) ?_
      have:add y2 y2=add (neg y2) y2:=by rw[g4]
      rw[this,add_comm',add_neg']
     ·have hm':=hm.symm
      rw[jq m x3 x2,mB hm]at eT ⊢
      rw[jq m x3 x2]at hx
      subst ey
      subst hA
      exact Ck hp h2 hP hl hm' hx
    ·by_cases hx:x1=cx m x3 x2
     ·obtain⟨j,hj,_⟩:=hT
      have ez:y1=cy m x3 y3 x2:=by
       have:=hj.a
       rwa [← hx,aZ,aj,add_zero']at this
      rw[dr hp hPQ hR]
      rw[jq l x1 x2,mB hl]
      rw[jq l x1 x2]at hA
      subst ez
      subst hx
      exact(Ck hp h2 hR hm hl.symm (fun e=>hA e.symm)).symm
     ·exact RQ hp hP hR hl hm hA hx
end K2
end Go.Proofs.YtndhfbecpghinaaGreat.L.Kf
namespace Go.Proofs.YtndhfbecpghinaaGreat.L.Kf
open Pr
namespace K2
variable {n:Nat} [NeZero n]
attribute [local irreducible] add mul sub neg zero one inv
theorem DT{y s q1 q2 q3 q4 i2 i4 b:K2 n}(h2:(mul q2 i2)=ofZ 1)(h4:(mul q4 i4)=ofZ 1)(hy:(mul y y)=s)(h:(mul (mul q3 q3) (mul s (mul (mul q2 q2) q2)))=(mul (add (mul (mul q1 q1) q1) (mul b (mul (mul q2 q2) q2))) (mul q4 q4))):(mul (mul y (mul q3 i4)) (mul y (mul q3 i4)))=(add (mul (mul (mul q1 i2) (mul q1 i2)) (mul q1 i2)) b):=WM (aH (x:=(.s (.m (.m (.v 0) (.m (.v 4) (.v 7))) (.m (.v 0) (.m (.v 4) (.v 7)))) (.a (.m (.m (.m (.v 2) (.v 6)) (.m (.v 2) (.v 6))) (.m (.v 2) (.v 6))) (.v 8)))) (y:=(.a (.a (.a (.m (.m (.m (.m (.v 4) (.v 4)) (.v 7)) (.v 7)) (.s (.m (.v 0) (.v 0)) (.v 1))) (.m (.m (.s (.v 8) (.m (.m (.m (.m (.v 1) (.v 4)) (.v 4)) (.v 7)) (.v 7))) (.a (.a (.m (.m (.v 3) (.v 6)) (.m (.v 3) (.v 6))) (.m (.v 3) (.v 6))) (.c 1))) (.s (.m (.v 3) (.v 6)) (.c 1)))) (.m (.m (.a (.m (.m (.m (.m (.m (.v 2) (.v 2)) (.v 2)) (.v 6)) (.v 6)) (.v 6)) (.m (.m (.m (.v 8) (.m (.v 3) (.v 6))) (.m (.v 3) (.v 6))) (.m (.v 3) (.v 6)))) (.a (.m (.v 5) (.v 7)) (.c 1))) (.s (.m (.v 5) (.v 7)) (.c 1)))) (.m (.m (.m (.m (.m (.v 6) (.v 6)) (.v 6)) (.v 7)) (.v 7)) (.s (.m (.m (.v 4) (.v 4)) (.m (.v 1) (.m (.m (.v 3) (.v 3)) (.v 3)))) (.m (.a (.m (.m (.v 2) (.v 2)) (.v 2)) (.m (.v 8) (.m (.m (.v 3) (.v 3)) (.v 3)))) (.m (.v 5) (.v 5))))))) (by decide +kernel) [y,s,q1,q2,q3,q4,i2,i4,b]) (hy) (h2) (h4) (h)
def fA(c a b:K2 n):K2 n:=(add (add (add (add (mul a a) (mul a b)) (mul b b)) (mul (mul (mul (mul (ofZ 9) c) c) c) (add a b))) (mul (mul (ofZ 12) c) c))
structure SlM (c l X1 y1 X2 y2:K2 n):Prop where
 a:y1=add y2 (mul l (sub X1 X2))
 b:mul l (add y1 y2)=fA c X1 X2
structure SlT (t l x1 y1 x2 y2:K2 n):Prop where
 a:y1=add y2 (mul l (sub x1 x2))
 b:mul l (add y1 y2)=add (q3 x1 x2) t
theorem SlT.m{x1 y1 x2 y2 l g c a:K2 n}(hg:g=(mul (mul (mul (ofZ 3) c) c) c))(ha:a=(sub (mul (mul (ofZ 12) c) c) (mul (mul (mul (mul (mul (mul (ofZ 27) c) c) c) c) c) c)))(h:SlT a l x1 y1 x2 y2):SlM c l (sub x1 g) y1 (sub x2 g) y2:=by
 obtain⟨rfl,hsb⟩:=h
 exact⟨aH (x:=(.a (.v 2) (.m (.v 3) (.s (.v 0) (.v 1))))) (y:=(.a (.v 2) (.m (.v 3) (.s (.s (.v 0) (.v 4)) (.s (.v 1) (.v 4)))))) (by decide +kernel) [x1,x2,y2,l,g,c,a],UE (aH (x:=(.s (.m (.v 3) (.a (.a (.v 2) (.m (.v 3) (.s (.v 0) (.v 1)))) (.v 2))) (.a (.a (.a (.a (.m (.s (.v 0) (.v 4)) (.s (.v 0) (.v 4))) (.m (.s (.v 0) (.v 4)) (.s (.v 1) (.v 4)))) (.m (.s (.v 1) (.v 4)) (.s (.v 1) (.v 4)))) (.m (.m (.m (.m (.c 9) (.v 5)) (.v 5)) (.v 5)) (.a (.s (.v 0) (.v 4)) (.s (.v 1) (.v 4))))) (.m (.m (.c 12) (.v 5)) (.v 5))))) (y:=(.a (.a (.m (.c 1) (.s (.m (.v 3) (.a (.a (.v 2) (.m (.v 3) (.s (.v 0) (.v 1)))) (.v 2))) (.a (.a (.a (.m (.v 0) (.v 0)) (.m (.v 0) (.v 1))) (.m (.v 1) (.v 1))) (.v 6)))) (.m (.a (.m (.m (.m (.c 9) (.v 5)) (.v 5)) (.v 5)) (.a (.m (.c (-3)) (.v 4)) (.a (.m (.c 3) (.v 1)) (.m (.c 3) (.v 0))))) (.s (.v 4) (.m (.m (.m (.c 3) (.v 5)) (.v 5)) (.v 5))))) (.m (.c 1) (.s (.v 6) (.s (.m (.m (.c 12) (.v 5)) (.v 5)) (.m (.m (.m (.m (.m (.m (.c 27) (.v 5)) (.v 5)) (.v 5)) (.v 5)) (.v 5)) (.v 5))))))) (by decide +kernel) [x1,x2,y2,l,g,c,a]) (hsb) (hg) (ha)⟩
theorem CI{y z:K2 n}(h:mul y y=mul z z):mul (sub y z) (add y z)=zero:=by
 rw[← tD]
 exact gw (aH (x:=(.s (.m (.s (.v 0) (.v 1)) (.a (.v 0) (.v 1))) (.c 0))) (y:=(.m (.c 1) (.s (.m (.v 0) (.v 0)) (.m (.v 1) (.v 1))))) (by decide +kernel) [y,z]) (h)
theorem Qv{X z i:K2 n}(h:mul i z=one):mul (mul X (mul z z)) (mul i i)=X:=by
 rw[← dN]at h
 exact gw (aH (x:=(.s (.m (.m (.v 0) (.m (.v 1) (.v 1))) (.m (.v 2) (.v 2))) (.v 0))) (y:=(.m (.m (.v 0) (.a (.m (.v 2) (.v 1)) (.c 1))) (.s (.m (.v 2) (.v 1)) (.c 1)))) (by decide +kernel) [X,z,i]) (h)
theorem Qw{X z i:K2 n}(h:mul i z=one):mul (mul X (mul (mul z z) z)) (mul (mul i i) i)=X:=by
 rw[← dN]at h
 exact gw (aH (x:=(.s (.m (.m (.v 0) (.m (.m (.v 1) (.v 1)) (.v 1))) (.m (.m (.v 2) (.v 2)) (.v 2))) (.v 0))) (y:=(.m (.m (.v 0) (.a (.a (.m (.m (.v 2) (.v 1)) (.m (.v 2) (.v 1))) (.m (.v 2) (.v 1))) (.c 1))) (.s (.m (.v 2) (.v 1)) (.c 1)))) (by decide +kernel) [X,z,i]) (h)
end K2
end Go.Proofs.YtndhfbecpghinaaGreat.L.Kf
namespace Go.Proofs.YtndhfbecpghinaaGreat.L.Kf
open Pr
namespace K2
variable {n:Nat} [NeZero n]
attribute [local irreducible] add mul sub neg zero one inv
def jx(x z:K2 n):K2 n:=mul x (mul (inv z) (inv z))
def jy(y z:K2 n):K2 n:=mul y (mul (mul (inv z) (inv z)) (inv z))
def jp(x y z:K2 n):Pt n:=if z=zero then none else some (jx x z,jy y z)
theorem xy(x y:K2 n):jp x y zero=none:=if_pos rfl
theorem Ed{x y z:K2 n}(h:z=zero):jp x y z=none:=if_pos h
theorem pq{x y z:K2 n}(h:z≠zero):jp x y z=some (jx x z,jy y z):=if_neg h
def td0(x y:K2 n):K2 n:=mul x (mul y y)
def td1(x y:K2 n):K2 n:=add (td0 x y) (td0 x y)
def td(x y:K2 n):K2 n:=add (td1 x y) (td1 x y)
def te(x:K2 n):K2 n:=add (add (mul x x) (mul x x)) (mul x x)
def tX(x y:K2 n):K2 n:=sub (mul (te x) (te x)) (add (td x y) (td x y))
def tc(y:K2 n):Nat→K2 n
 | 0=>mul (mul y y) (mul y y)
 | k+1=>add (tc y k) (tc y k)
def tY(x y:K2 n):K2 n:=sub (mul (te x) (sub (td x y) (tX x y))) (tc y 3)
def tZ(y z:K2 n):K2 n:=add (mul y z) (mul y z)
theorem AE(hp:P3 n)(x y:K2 n):jp x y one=some (x,y):=by
 have h1:=jv hp
 have hi:inv (one:K2 n)=one:=by
  have:=j8 hp h1
  rwa [mul_one']at this
 rw[pq h1,jx,jy,hi,mul_one',mul_one',mul_one',mul_one']
theorem Xd{x y i j:K2 n}(hk:mul (add y y) j=i):mul (mul (te x) j) (add (mul y (mul (mul i i) i)) (mul y (mul (mul i i) i)))=q3 (mul x (mul i i)) (mul x (mul i i)):=gw (aH (x:=(.s (.m (.m (.a (.a (.m (.v 0) (.v 0)) (.m (.v 0) (.v 0))) (.m (.v 0) (.v 0))) (.v 3)) (.a (.m (.v 1) (.m (.m (.v 2) (.v 2)) (.v 2))) (.m (.v 1) (.m (.m (.v 2) (.v 2)) (.v 2))))) (.a (.a (.m (.m (.v 0) (.m (.v 2) (.v 2))) (.m (.v 0) (.m (.v 2) (.v 2)))) (.m (.m (.v 0) (.m (.v 2) (.v 2))) (.m (.v 0) (.m (.v 2) (.v 2))))) (.m (.m (.v 0) (.m (.v 2) (.v 2))) (.m (.v 0) (.m (.v 2) (.v 2))))))) (y:=(.m (.m (.m (.m (.m (.m (.c 3) (.v 0)) (.v 0)) (.v 2)) (.v 2)) (.v 2)) (.s (.m (.a (.v 1) (.v 1)) (.v 3)) (.v 2)))) (by decide +kernel) [x,y,i,j]) (hk)
theorem Xf{x y i j:K2 n}(hk:mul (add y y) j=i):cx (mul (te x) j) (mul x (mul i i)) (mul x (mul i i))=mul (tX x y) (mul j j):=gw (aH (x:=(.s (.s (.s (.m (.m (.a (.a (.m (.v 0) (.v 0)) (.m (.v 0) (.v 0))) (.m (.v 0) (.v 0))) (.v 3)) (.m (.a (.a (.m (.v 0) (.v 0)) (.m (.v 0) (.v 0))) (.m (.v 0) (.v 0))) (.v 3))) (.m (.v 0) (.m (.v 2) (.v 2)))) (.m (.v 0) (.m (.v 2) (.v 2)))) (.m (.s (.m (.a (.a (.m (.v 0) (.v 0)) (.m (.v 0) (.v 0))) (.m (.v 0) (.v 0))) (.a (.a (.m (.v 0) (.v 0)) (.m (.v 0) (.v 0))) (.m (.v 0) (.v 0)))) (.a (.a (.a (.m (.v 0) (.m (.v 1) (.v 1))) (.m (.v 0) (.m (.v 1) (.v 1)))) (.a (.m (.v 0) (.m (.v 1) (.v 1))) (.m (.v 0) (.m (.v 1) (.v 1))))) (.a (.a (.m (.v 0) (.m (.v 1) (.v 1))) (.m (.v 0) (.m (.v 1) (.v 1)))) (.a (.m (.v 0) (.m (.v 1) (.v 1))) (.m (.v 0) (.m (.v 1) (.v 1))))))) (.m (.v 3) (.v 3))))) (y:=(.m (.a (.m (.m (.m (.c 4) (.v 0)) (.v 1)) (.v 3)) (.m (.m (.c 2) (.v 0)) (.v 2))) (.s (.m (.a (.v 1) (.v 1)) (.v 3)) (.v 2)))) (by decide +kernel) [x,y,i,j]) (hk)
theorem Xg{x y i j:K2 n}(hk:mul (add y y) j=i):cy (mul (te x) j) (mul x (mul i i)) (mul y (mul (mul i i) i)) (mul x (mul i i))=mul (tY x y) (mul (mul j j) j):=gw (aH (x:=(.s (.s (.m (.m (.a (.a (.m (.v 0) (.v 0)) (.m (.v 0) (.v 0))) (.m (.v 0) (.v 0))) (.v 3)) (.s (.m (.v 0) (.m (.v 2) (.v 2))) (.s (.s (.m (.m (.a (.a (.m (.v 0) (.v 0)) (.m (.v 0) (.v 0))) (.m (.v 0) (.v 0))) (.v 3)) (.m (.a (.a (.m (.v 0) (.v 0)) (.m (.v 0) (.v 0))) (.m (.v 0) (.v 0))) (.v 3))) (.m (.v 0) (.m (.v 2) (.v 2)))) (.m (.v 0) (.m (.v 2) (.v 2)))))) (.m (.v 1) (.m (.m (.v 2) (.v 2)) (.v 2)))) (.m (.s (.m (.a (.a (.m (.v 0) (.v 0)) (.m (.v 0) (.v 0))) (.m (.v 0) (.v 0))) (.s (.a (.a (.m (.v 0) (.m (.v 1) (.v 1))) (.m (.v 0) (.m (.v 1) (.v 1)))) (.a (.m (.v 0) (.m (.v 1) (.v 1))) (.m (.v 0) (.m (.v 1) (.v 1))))) (.s (.m (.a (.a (.m (.v 0) (.v 0)) (.m (.v 0) (.v 0))) (.m (.v 0) (.v 0))) (.a (.a (.m (.v 0) (.v 0)) (.m (.v 0) (.v 0))) (.m (.v 0) (.v 0)))) (.a (.a (.a (.m (.v 0) (.m (.v 1) (.v 1))) (.m (.v 0) (.m (.v 1) (.v 1)))) (.a (.m (.v 0) (.m (.v 1) (.v 1))) (.m (.v 0) (.m (.v 1) (.v 1))))) (.a (.a (.m (.v 0) (.m (.v 1) (.v 1))) (.m (.v 0) (.m (.v 1) (.v 1)))) (.a (.m (.v 0) (.m (.v 1) (.v 1))) (.m (.v 0) (.m (.v 1) (.v 1))))))))) (.a (.a (.a (.m (.m (.v 1) (.v 1)) (.m (.v 1) (.v 1))) (.m (.m (.v 1) (.v 1)) (.m (.v 1) (.v 1)))) (.a (.m (.m (.v 1) (.v 1)) (.m (.v 1) (.v 1))) (.m (.m (.v 1) (.v 1)) (.m (.v 1) (.v 1))))) (.a (.a (.m (.m (.v 1) (.v 1)) (.m (.v 1) (.v 1))) (.m (.m (.v 1) (.v 1)) (.m (.v 1) (.v 1)))) (.a (.m (.m (.v 1) (.v 1)) (.m (.v 1) (.v 1))) (.m (.m (.v 1) (.v 1)) (.m (.v 1) (.v 1))))))) (.m (.m (.v 3) (.v 3)) (.v 3))))) (y:=(.m (.a (.m (.a (.m (.m (.a (.m (.m (.c 4) (.v 1)) (.v 1)) (.m (.m (.m (.c (-18)) (.v 0)) (.v 0)) (.v 0))) (.v 1)) (.v 3)) (.m (.a (.m (.m (.c 2) (.v 1)) (.v 1)) (.m (.m (.m (.c (-9)) (.v 0)) (.v 0)) (.v 0))) (.v 2))) (.v 3)) (.m (.m (.m (.c 1) (.v 1)) (.v 2)) (.v 2))) (.s (.m (.a (.v 1) (.v 1)) (.v 3)) (.v 2)))) (by decide +kernel) [x,y,i,j]) (hk)
theorem Xe{y z i j:K2 n}(hi:mul z i=ofZ 1)(hj:mul (tZ y z) j=ofZ 1):mul (add y y) j=i:=vc (aH (x:=(.s (.m (.a (.v 1) (.v 1)) (.v 4)) (.v 3))) (y:=(.a (.m (.n (.m (.a (.v 1) (.v 1)) (.v 4))) (.s (.m (.v 2) (.v 3)) (.c 1))) (.m (.v 3) (.s (.m (.a (.m (.v 1) (.v 2)) (.m (.v 1) (.v 2))) (.v 4)) (.c 1))))) (by decide +kernel) [y,y,z,i,j]) (hi) (hj)
theorem j9(hp:P3 n){b:K2 n}(h2:No2 b){x y z:K2 n}(ho:Onc b (jp x y z)):jp (tX x y) (tY x y) (tZ y z)=pa (jp x y z) (jp x y z):=by
 by_cases hz:z=zero
 ·rw[Ed hz,Ed (by rw[hz,tZ,aj,add_zero'])];rfl
 ·rw[pq hz]at ho ⊢
  have hy:=gD h2 (bL ho)
  have hy0:y≠zero:=fun e=>hy (by rw[jy,e,aG])
  have hZ:tZ y z≠zero:=ge hp (bQ hp hy0 hz)
  rw[pq hZ]
  have hi:=(aI hp hz).trans dN.symm
  have hj:=(aI hp hZ).trans dN.symm
  have hk:=Xe hi hj
  have hd:=ge hp hy
  rw[jx,jx,jy,jy]at *
  generalize inv (tZ y z)=j at *
  generalize inv z=i at *
  have hS:Slp (mul (te x) j) (mul x (mul i i)) (mul y (mul (mul i i) i)) (mul x (mul i i)) (mul y (mul (mul i i) i)):=⟨by rw[aZ,aj,add_zero'],Xd hk⟩
  rw[cC hp hS (.inr hd),Xf hk,Xg hk]
def pH(x z qx:K2 n):K2 n:=sub (mul qx (mul z z)) x
def pR(y z qy:K2 n):K2 n:=sub (mul qy (mul (mul z z) z)) y
def pV(x h:K2 n):K2 n:=mul x (mul h h)
def pX(x h r:K2 n):K2 n:=sub (sub (mul r r) (mul (mul h h) h)) (add (pV x h) (pV x h))
def pY(x y h r:K2 n):K2 n:=sub (mul r (sub (pV x h) (pX x h r))) (mul y (mul (mul h h) h))
theorem WS{x y h r i j:K2 n}(hk:mul h j=i):mul (mul r j) (sub (mul (add x h) (mul i i)) (mul x (mul i i)))=sub (mul (add y r) (mul (mul i i) i)) (mul y (mul (mul i i) i)):=gw (aH (x:=(.s (.m (.m (.v 3) (.v 5)) (.s (.m (.a (.v 0) (.v 2)) (.m (.v 4) (.v 4))) (.m (.v 0) (.m (.v 4) (.v 4))))) (.s (.m (.a (.v 1) (.v 3)) (.m (.m (.v 4) (.v 4)) (.v 4))) (.m (.v 1) (.m (.m (.v 4) (.v 4)) (.v 4)))))) (y:=(.m (.m (.m (.m (.c 1) (.v 3)) (.v 4)) (.v 4)) (.s (.m (.v 2) (.v 5)) (.v 4)))) (by decide +kernel) [x,y,h,r,i,j]) (hk)
theorem WT{x h r i j:K2 n}(hk:mul h j=i):cx (mul r j) (mul x (mul i i)) (mul (add x h) (mul i i))=mul (pX x h r) (mul j j):=gw (aH (x:=(.s (.s (.s (.m (.m (.v 3) (.v 5)) (.m (.v 3) (.v 5))) (.m (.v 0) (.m (.v 4) (.v 4)))) (.m (.a (.v 0) (.v 2)) (.m (.v 4) (.v 4)))) (.m (.s (.s (.m (.v 3) (.v 3)) (.m (.m (.v 2) (.v 2)) (.v 2))) (.a (.m (.v 0) (.m (.v 2) (.v 2))) (.m (.v 0) (.m (.v 2) (.v 2))))) (.m (.v 5) (.v 5))))) (y:=(.m (.a (.m (.m (.a (.m (.c 1) (.v 2)) (.m (.c 2) (.v 0))) (.v 2)) (.v 5)) (.m (.a (.m (.c 1) (.v 2)) (.m (.c 2) (.v 0))) (.v 4))) (.s (.m (.v 2) (.v 5)) (.v 4)))) (by decide +kernel) [x,x,h,r,i,j]) (hk)
theorem WU{x y h r i j:K2 n}(hk:mul h j=i):cy (mul r j) (mul x (mul i i)) (mul y (mul (mul i i) i)) (mul (add x h) (mul i i))=mul (pY x y h r) (mul (mul j j) j):=gw (aH (x:=(.s (.s (.m (.m (.v 3) (.v 5)) (.s (.m (.v 0) (.m (.v 4) (.v 4))) (.s (.s (.m (.m (.v 3) (.v 5)) (.m (.v 3) (.v 5))) (.m (.v 0) (.m (.v 4) (.v 4)))) (.m (.a (.v 0) (.v 2)) (.m (.v 4) (.v 4)))))) (.m (.v 1) (.m (.m (.v 4) (.v 4)) (.v 4)))) (.m (.s (.m (.v 3) (.s (.m (.v 0) (.m (.v 2) (.v 2))) (.s (.s (.m (.v 3) (.v 3)) (.m (.m (.v 2) (.v 2)) (.v 2))) (.a (.m (.v 0) (.m (.v 2) (.v 2))) (.m (.v 0) (.m (.v 2) (.v 2))))))) (.m (.v 1) (.m (.m (.v 2) (.v 2)) (.v 2)))) (.m (.m (.v 5) (.v 5)) (.v 5))))) (y:=(.m (.a (.m (.a (.m (.a (.m (.m (.a (.m (.c (-1)) (.v 2)) (.m (.c (-3)) (.v 0))) (.v 2)) (.v 3)) (.m (.m (.m (.c 1) (.v 1)) (.v 2)) (.v 2))) (.v 5)) (.m (.a (.m (.a (.m (.c (-1)) (.v 2)) (.m (.c (-3)) (.v 0))) (.v 3)) (.m (.m (.c 1) (.v 1)) (.v 2))) (.v 4))) (.v 5)) (.m (.m (.m (.c 1) (.v 1)) (.v 4)) (.v 4))) (.s (.m (.v 2) (.v 5)) (.v 4)))) (by decide +kernel) [x,y,h,r,i,j]) (hk)
theorem IC{q z x i:K2 n}(hi:mul z i=ofZ 1):q=mul (add x (pH x z q)) (mul i i):=gw (aH (x:=(.s (.v 0) (.m (.a (.v 2) (.s (.m (.v 0) (.m (.v 1) (.v 1))) (.v 2))) (.m (.v 3) (.v 3))))) (y:=(.m (.n (.m (.v 0) (.a (.m (.v 1) (.v 3)) (.c 1)))) (.s (.m (.v 1) (.v 3)) (.c 1)))) (by decide +kernel) [q,z,x,i]) (hi)
theorem Ov{q z x i:K2 n}(hi:mul z i=ofZ 1):q=mul (add x (pR x z q)) (mul (mul i i) i):=gw (aH (x:=(.s (.v 0) (.m (.a (.v 2) (.s (.m (.v 0) (.m (.m (.v 1) (.v 1)) (.v 1))) (.v 2))) (.m (.m (.v 3) (.v 3)) (.v 3))))) (y:=(.m (.n (.m (.v 0) (.a (.a (.m (.m (.v 1) (.v 3)) (.m (.v 1) (.v 3))) (.m (.v 1) (.v 3))) (.c 1)))) (.s (.m (.v 1) (.v 3)) (.c 1)))) (by decide +kernel) [q,z,x,i]) (hi)
theorem WR{z i h j:K2 n}(hi:mul z i=ofZ 1)(hj:mul (mul z h) j=ofZ 1):mul h j=i:=vc (aH (x:=(.s (.m (.v 4) (.v 5)) (.v 3))) (y:=(.a (.m (.n (.m (.v 4) (.v 5))) (.s (.m (.v 1) (.v 3)) (.c 1))) (.m (.v 3) (.s (.m (.m (.v 1) (.v 4)) (.v 5)) (.c 1))))) (by decide +kernel) [z,z,z,i,h,j]) (hi) (hj)
theorem Ou{q z x i:K2 n}(hi:mul z i=ofZ 1)(e:mul x (mul i i)=q):pH x z q=zero:=by
 rw[← tD]
 exact vc (aH (x:=(.s (.s (.m (.v 0) (.m (.v 1) (.v 1))) (.v 2)) (.c 0))) (y:=(.a (.m (.n (.m (.v 1) (.v 1))) (.s (.m (.v 2) (.m (.v 3) (.v 3))) (.v 0))) (.m (.m (.v 2) (.a (.m (.v 1) (.v 3)) (.c 1))) (.s (.m (.v 1) (.v 3)) (.c 1))))) (by decide +kernel) [q,z,x,i]) (e) (hi)
theorem UV{q z x i:K2 n}(hi:mul z i=ofZ 1)(e:mul x (mul (mul i i) i)=q):pR x z q=zero:=by
 rw[← tD]
 exact vc (aH (x:=(.s (.s (.m (.v 0) (.m (.m (.v 1) (.v 1)) (.v 1))) (.v 2)) (.c 0))) (y:=(.a (.m (.n (.m (.m (.v 1) (.v 1)) (.v 1))) (.s (.m (.v 2) (.m (.m (.v 3) (.v 3)) (.v 3))) (.v 0))) (.m (.m (.v 2) (.a (.a (.m (.m (.v 1) (.v 3)) (.m (.v 1) (.v 3))) (.m (.v 1) (.v 3))) (.c 1))) (.s (.m (.v 1) (.v 3)) (.c 1))))) (by decide +kernel) [q,z,x,i]) (e) (hi)
theorem u6(hp:P3 n){x y z qx qy:K2 n}(hz:z≠zero)(hh:pH x z qx≠zero):
  jp (pX x (pH x z qx) (pR y z qy)) (pY x y (pH x z qx) (pR y z qy)) (mul z (pH x z qx))=pa (jp x y z) (some (qx,qy)):=by
 have hZ:=bQ hp hz hh
 rw[pq hZ,pq hz]
 have hi:=(aI hp hz).trans dN.symm
 have hj:=(aI hp hZ).trans dN.symm
 have hk:=WR hi hj
 have e1:=IC (q:=qx) (x:=x) hi
 have e2:=Ov (q:=qy) (x:=y) hi
 have hne:mul x (mul (inv z) (inv z))≠qx:=fun e=>hh (Ou hi e)
 rw[jx,jx,jy,jy]
 generalize inv (mul z (pH x z qx))=j at *
 generalize inv z=i at *
 generalize pH x z qx=h at *
 generalize pR y z qy=r at *
 subst e1
 subst e2
 have hc:ec (mul x (mul i i)) (mul y (mul (mul i i) i)) (mul (add x h) (mul i i)) (mul (add y r) (mul (mul i i) i))=mul r j:=
  dy hp (fun e=>hne (aE e).symm) (WS hk)
 show _=(if mul x (mul i i)=mul (add x h) (mul i i)then _ else _)
 rw[if_neg hne,hc,WT hk,WU hk]
theorem UT{x1 y1 x2 y2:K2 n}(hx:x1=x2)(hy:y1≠y2):pa (some (x1,y1)) (some (x2,y2))=none:=by
 show(if x1=x2 then if y1=y2∧y1≠zero then _ else _ else _)=_
 rw[if_pos hx,if_neg fun h=>hy h.1]
theorem od{x y z qx qy:K2 n}(hp:P3 n)(hz:z≠zero)(hh:pH x z qx=zero)(hr:pR y z qy≠zero):pa (jp x y z) (some (qx,qy))=none:=by
 rw[pq hz]
 have hi:=(aI hp hz).trans dN.symm
 have hne:mul y (mul (mul (inv z) (inv z)) (inv z))≠qy:=fun e=>hr (UV hi e)
 have e1:=IC (q:=qx) (x:=x) hi
 rw[hh,add_zero']at e1
 exact UT e1.symm hne
theorem ti{x y z qx qy:K2 n}(hp:P3 n)(hz:z≠zero)(hh:pH x z qx=zero)(hr:pR y z qy=zero):(some (qx,qy):Pt n)=jp x y z:=by
 have hi:=(aI hp hz).trans dN.symm
 have e1:=IC (q:=qx) (x:=x) hi
 have e2:=Ov (q:=qy) (x:=y) hi
 rw[hh,add_zero']at e1
 rw[hr,add_zero']at e2
 rw[pq hz]
 exact bF e1 e2
def tim(q:Pt n):Nat→Pt n
 | 0=>none
 | k+1=>pa (tim q k) q
theorem cW(hp:P3 n){b:K2 n}{q:Pt n}(hq:Onc b q)(k:Nat):Onc b (tim q k):=by
 induction k with
 | zero=>trivial
 | succ k ih=>exact di hp ih hq
theorem SU(hp:P3 n){b:K2 n}{q:Pt n}(hq:Onc b q)(k:Nat):tim (pn q) k=pn (tim q k):=by
 induction k with
 | zero=>rfl
 | succ k ih=>
  show pa (tim (pn q) k) (pn q)=pn (pa (tim q k) q)
  rw[ih,Cj hp (cW hp hq k) hq]
variable (hp:P3 n) {b:K2 n} (h2:No2 b)
include hp h2
theorem fj{q:Pt n}(hq:Onc b q)(j k:Nat):tim q (j+k)=pa (tim q j) (tim q k):=by
 induction k with
 | zero=>exact(bB _).symm
 | succ k ih=>
  show pa (tim q (j+k)) q=pa (tim q j) (pa (tim q k) q)
  rw[ih,dW hp h2 (cW hp hq j) (cW hp hq k) hq]
theorem iE{q:Pt n}(hq:Onc b q)(j k:Nat):tim q (j*k)=tim (tim q j) k:=by
 induction k with
 | zero=>rfl
 | succ k ih=>
  rw[Nat.mul_succ,fj hp h2 hq,ih];rfl
omit hp h2 in
theorem f7(k:Nat):tim (none:Pt n) k=none:=by
 induction k with
 | zero=>rfl
 | succ k ih=>show pa (tim none k) none=none;rw[ih];rfl
theorem wk{q r:Pt n}(hq:Onc b q)(hr:Onc b r)(k:Nat):tim (pa q r) k=pa (tim q k) (tim r k):=by
 induction k with
 | zero=>rfl
 | succ k ih=>
  have a1:=cW hp hq k
  have a2:=cW hp hr k
  show pa (tim (pa q r) k) (pa q r)=pa (pa (tim q k) q) (pa (tim r k) r)
  rw[ih,dW hp h2 a1 a2 (di hp hq hr),← dW hp h2 a2 hq hr,dr hp a2 hq,dW hp h2 hq a2 hr,← dW hp h2 a1 hq (di hp a2 hr)]
end K2
end Go.Proofs.YtndhfbecpghinaaGreat.L.Kf
namespace Go.Proofs.YtndhfbecpghinaaGreat.L
open Go Go.Proofs
set_option maxRecDepth 100000
class CR (R:Type) where
 zero:R
 one:R
 add:R→R→R
 mul:R→R→R
 neg:R→R
 sub:R→R→R
 add_comm':∀a b,add a b=add b a
 add_assoc':∀a b c,add (add a b) c=add a (add b c)
 add_zero':∀a,add a zero=a
 add_neg':∀a,add a (neg a)=zero
 mul_comm':∀a b,mul a b=mul b a
 mul_assoc':∀a b c,mul (mul a b) c=mul a (mul b c)
 mul_one':∀a,mul a one=a
 mul_add':∀a b c,mul a (add b c)=add (mul a b) (mul a c)
 sub_eq:∀a b,sub a b=add a (neg b)
namespace CR
variable {R:Type} [CR R]
instance:Std.Associative (α:=R) mul:=⟨mul_assoc'⟩
instance:Std.Commutative (α:=R) mul:=⟨mul_comm'⟩
instance:Std.Associative (α:=R) add:=⟨add_assoc'⟩
instance:Std.Commutative (α:=R) add:=⟨add_comm'⟩
theorem aM(a:R):add zero a=a:=by rw[add_comm',add_zero']
theorem aR(a:R):mul one a=a:=by rw[mul_comm',mul_one']
theorem qc{a b c:R}(h:add a c=add b c):a=b:=by
 have h2:add (add a c) (neg c)=add (add b c) (neg c):=by rw[h]
 rwa [add_assoc',add_assoc',add_neg',add_zero',add_zero']at h2
theorem aj(a:R):mul a zero=zero:=by
 apply qc (c:=mul a zero)
 rw[← mul_add',add_zero',aM]
theorem aG(a:R):mul zero a=zero:=by rw[mul_comm',aj]
theorem cQ(a b c:R):mul (add a b) c=add (mul a c) (mul b c):=by rw[mul_comm',mul_add',mul_comm' c a,mul_comm' c b]
theorem aP{a b:R}(h:add a b=zero):a=neg b:=by
 apply qc (c:=b)
 rw[h,add_comm',add_neg']
theorem bv(a:R):neg (neg a)=a:=(aP (add_neg' a)).symm
theorem bk:neg (zero:R)=zero:=(aP (add_zero' zero)).symm
theorem dE(a b:R):neg (add a b)=add (neg a) (neg b):=by
 symm
 apply aP
 have:add (add (neg a) (neg b)) (add a b)=add (add a (neg a)) (add b (neg b)):=by ac_rfl
 rw[this,add_neg',add_neg',add_zero']
theorem db(a b:R):mul (neg a) b=neg (mul a b):=by
 apply aP
 rw[← cQ,add_comm',add_neg',aG]
theorem eZ(a b:R):mul a (neg b)=neg (mul a b):=by rw[mul_comm',db,mul_comm']
theorem aZ(a:R):sub a a=zero:=by rw[sub_eq,add_neg']
theorem aE{a b:R}(h:sub a b=zero):a=b:=by
 rw[sub_eq]at h
 rw[aP h,bv]
def ofN:Nat→R
 | 0=>zero
 | k+1=>add (ofN k) one
def ofZ:Int→R
 | .ofNat k=>ofN k
 | .negSucc k=>neg (ofN (k+1))
theorem lq(k:Nat):(ofN (k+1):R)=add (ofN k) one:=rfl
theorem dZ(a b:Nat):(ofN (a+b):R)=add (ofN a) (ofN b):=by
 induction b with
 | zero=>exact(add_zero' _).symm
 | succ b ih=>rw[← Nat.add_assoc,lq,lq,ih,add_assoc']
theorem fQ(a b:Nat):(ofN (a*b):R)=mul (ofN a) (ofN b):=by
 induction b with
 | zero=>exact(aj _).symm
 | succ b ih=>rw[Nat.mul_succ,dZ,ih,lq,mul_add',mul_one']
theorem mZ(a b:Nat):(ofZ (Int.subNatNat a b):R)=add (ofN a) (neg (ofN b)):=by
 rcases Nat.le_total b a with h | h
 ·obtain⟨k,rfl⟩:∃k,a=b+k:=⟨a-b,by omega⟩
  have e:Int.subNatNat (b+k) b=Int.ofNat k:=by rw[Int.subNatNat_eq_coe];show(_:Int)=(k:Int);omega
  rw[e,dZ]
  show ofN k=_
  rw[add_comm' (ofN b),add_assoc',add_neg',add_zero']
 ·rcases Nat.eq_or_lt_of_le h with h | h
  ·subst h
   have e:Int.subNatNat a a=Int.ofNat 0:=by rw[Int.subNatNat_eq_coe];show(_:Int)=(0:Int);omega
   rw[e,add_neg'];rfl
  ·obtain⟨k,rfl⟩:∃k,b=a+(k+1):=⟨b-a-1,by omega⟩
   have e:Int.subNatNat a (a+(k+1))=Int.negSucc k:=by rw[Int.subNatNat_eq_coe,Int.negSucc_eq];omega
   rw[e,dZ,dE,← add_assoc',add_neg',aM]
   rfl
theorem vx(a b:Int):(ofZ (a+b):R)=add (ofZ a) (ofZ b):=by
 cases a with
 | ofNat a=>cases b with
  | ofNat b=>exact dZ a b
  | negSucc b=>exact mZ a (b+1)
 | negSucc a=>cases b with
  | ofNat b=>exact(mZ b (a+1)).trans (add_comm' _ _)
  | negSucc b=>
   show neg (ofN (a+b+1+1))=add (neg (ofN (a+1))) (neg (ofN (b+1)))
   rw[← dE,← dZ,show a+b+1+1=a+1+(b+1) by omega]
theorem vz(a:Int):(ofZ (-a):R)=neg (ofZ a):=by
 cases a with
 | ofNat a=>cases a with
  | zero=>exact bk.symm
  | succ a=>rfl
 | negSucc a=>exact(bv _).symm
theorem rn(a:Nat):(ofZ (Int.negOfNat a):R)=neg (ofN a):=by
 cases a with
 | zero=>exact bk.symm
 | succ a=>rfl
theorem vy(a b:Int):(ofZ (a*b):R)=mul (ofZ a) (ofZ b):=by
 cases a with
 | ofNat a=>cases b with
  | ofNat b=>exact fQ a b
  | negSucc b=>
   show ofZ (Int.negOfNat (a*(b+1)))=mul (ofN a) (neg (ofN (b+1)))
   rw[rn,fQ,eZ]
 | negSucc a=>cases b with
  | ofNat b=>
   show ofZ (Int.negOfNat ((a+1)*b))=mul (neg (ofN (a+1))) (ofN b)
   rw[rn,fQ,db]
  | negSucc b=>
   show ofN ((a+1)*(b+1))=mul (neg (ofN (a+1))) (neg (ofN (b+1)))
   rw[fQ,db,eZ,bv]
inductive Ex where
 | v (i:Nat)
 | c (k:Int)
 | a (x y:Ex)
 | s (x y:Ex)
 | m (x y:Ex)
 | n (x:Ex)
def Ex.ev(vs:List (R)):Ex→R
 | .v i=>vs.getD i zero
 | .c k=>ofZ k
 | .a x y=>add (x.ev vs) (y.ev vs)
 | .s x y=>sub (x.ev vs) (y.ev vs)
 | .m x y=>mul (x.ev vs) (y.ev vs)
 | .n x=>neg (x.ev vs)
abbrev Mo:=List Nat
abbrev Po:=List (Mo×Int)
def pw(a:R):Nat→R
 | 0=>one
 | k+1=>mul (pw a k) a
theorem dP(a:R)(j k:Nat):pw a (j+k)=mul (pw a j) (pw a k):=by
 induction k with
 | zero=>exact(mul_one' _).symm
 | succ k ih=>
  show mul (pw a (j+k)) a=mul (pw a j) (mul (pw a k) a)
  rw[ih,mul_assoc']
def mev(vs:List (R))(i:Nat):Mo→R
 | []=>one
 | e::es=>mul (pw (vs.getD i zero) e) (mev vs (i+1) es)
def pev(vs:List (R)):Po→R
 | []=>zero
 | t::p=>add (mul (ofZ t.2) (mev vs 0 t.1)) (pev vs p)
def ra:Mo→Mo→Mo
 | [],q=>q
 | a::p,[]=>a::p
 | a::p,b::q=>(a+b)::ra p q
theorem mT(vs:List (R)):∀(p q:Mo)(i:Nat),mev vs i (ra p q)=mul (mev vs i p) (mev vs i q)
 | [],q,i=>(aR _).symm
 | a::p,[],i=>(mul_one' _).symm
 | a::p,b::q,i=>by
  show mul (pw _ (a+b)) (mev vs (i+1) (ra p q))=mul (mul _ _) (mul _ _)
  rw[dP,mT vs p q (i+1)]
  ac_rfl
def q7:Mo→Mo→Nat
 | [],[]=>1
 | [],_::_=>0
 | _::_,[]=>2
 | a::p,b::q=>if Nat.beq a b then q7 p q else if Nat.ble a b then 0 else 2
theorem mN:∀{p q:Mo},q7 p q=1→p=q
 | [],[],_=>rfl
 | [],_::_,h=>absurd h (by show ¬(0:Nat)=1;decide)
 | _::_,[],h=>absurd h (by show ¬(2:Nat)=1;decide)
 | a::p,b::q,h=>by
  unfold q7 at h
  by_cases hab:Nat.beq a b=true
  ·rw[if_pos hab]at h
   rw[Nat.eq_of_beq_eq_true hab,mN h]
  ·rw[if_neg hab]at h
   split at h <;> exact absurd h (by decide)
def cons(t:Mo×Int)(p:Po):Po:=if t.2=0 then p else t::p
theorem my(vs:List (R))(t:Mo×Int)(p:Po):pev vs (cons t p)=add (mul (ofZ t.2) (mev vs 0 t.1)) (pev vs p):=by
 unfold cons
 split
 ·rename_i h
  rw[h,show(ofZ 0:R)=zero from rfl,aG,aM]
 ·rfl
def FX(t:Mo×Int)(p:Po)(ih:Po→Po):Po→Po
 | []=>t::p
 | s::q=>match q7 t.1 s.1 with
  | 0=>t::ih (s::q)
  | 1=>cons (t.1,t.2+s.2) (ih q)
  | _=>s::FX t p ih q
def dj:Po→Po→Po
 | [],q=>q
 | t::p,q=>FX t p (fun r=>dj p r) q
theorem qd(q:Po):dj [] q=q:=rfl
theorem uA(t:Mo×Int)(p:Po):dj (t::p) []=t::p:=rfl
theorem uB(t s:Mo×Int)(p q:Po):dj (t::p) (s::q)=match q7 t.1 s.1 with
  | 0=>t::dj p (s::q)
  | 1=>cons (t.1,t.2+s.2) (dj p q)
  | _=>s::dj (t::p) q:=rfl
theorem gs(vs:List (R)):∀(p q:Po),pev vs (dj p q)=add (pev vs p) (pev vs q):=by
 intro p
 induction p with
 | nil=>intro q;rw[qd];exact(aM _).symm
 | cons t p ih=>
  intro q
  induction q with
  | nil=>rw[uA];exact(add_zero' _).symm
  | cons s q ihq=>
   rw[uB]
   split
   ·show add _ (pev vs (dj p (s::q)))=add (add _ _) (pev vs (s::q))
    rw[ih];ac_rfl
   ·rename_i h
    rw[my,ih,vx,cQ]
    show _=add (add _ _) (add (mul (ofZ s.2) (mev vs 0 s.1)) _)
    rw[← mN h]
    ac_rfl
   ·show add _ (pev vs (dj (t::p) q))=add (pev vs (t::p)) (add _ _)
    rw[ihq];ac_rfl
def rm(t:Mo×Int):Po→Po
 | []=>[]
 | s::q=>(ra t.1 s.1,t.2*s.2)::rm t q
theorem mW(vs:List (R))(t:Mo×Int):∀q:Po,pev vs (rm t q)=mul (mul (ofZ t.2) (mev vs 0 t.1)) (pev vs q)
 | []=>(aj _).symm
 | s::q=>by
  show add (mul (ofZ (t.2*s.2)) (mev vs 0 (ra t.1 s.1))) (pev vs (rm t q))=mul _ (add (mul (ofZ s.2) (mev vs 0 s.1)) (pev vs q))
  rw[mW vs t q,mT,vy,mul_add']
  congr 1
  ac_rfl
def rl:Po→Po→Po
 | [],_=>[]
 | t::p,q=>dj (rm t q) (rl p q)
theorem mV(vs:List (R)):∀p q:Po,pev vs (rl p q)=mul (pev vs p) (pev vs q)
 | [],q=>(aG _).symm
 | t::p,q=>by
  show pev vs (dj (rm t q) (rl p q))=mul (add _ _) _
  rw[gs,mW,mV vs p q,cQ]
def iM:Po→Po
 | []=>[]
 | t::p=>(t.1,-t.2)::iM p
theorem gz(vs:List (R)):∀p:Po,pev vs (iM p)=neg (pev vs p)
 | []=>bk.symm
 | t::p=>by
  show add (mul (ofZ (-t.2)) (mev vs 0 t.1)) (pev vs (iM p))=neg (add _ _)
  rw[gz vs p,vz,db,dE]
def r7:Nat→Mo
 | 0=>[1]
 | i+1=>0::r7 i
theorem nI(vs:List (R)):∀i j:Nat,mev vs j (r7 i)=vs.getD (j+i) zero
 | 0,j=>by
  show mul (mul one (vs.getD j zero)) one=_
  rw[mul_one',aR];rfl
 | i+1,j=>by
  show mul one (mev vs (j+1) (r7 i))=_
  rw[aR,nI vs i (j+1),show j+1+i=j+(i+1) by omega]
def nf:Ex→Po
 | .v i=>[(r7 i,1)]
 | .c k=>cons ([],k) []
 | .a x y=>dj (nf x) (nf y)
 | .s x y=>dj (nf x) (iM (nf y))
 | .m x y=>rl (nf x) (nf y)
 | .n x=>iM (nf x)
theorem fb(vs:List (R)):∀x:Ex,pev vs (nf x)=x.ev vs
 | .v i=>by
  show add (mul (ofZ 1) (mev vs 0 (r7 i))) zero=vs.getD i zero
  rw[nI,Nat.zero_add,show(ofZ 1:R)=add zero one from rfl,aM,aR,add_zero']
 | .c k=>by
  show pev vs (cons ([],k) [])=ofZ k
  rw[my]
  show add (mul (ofZ k) one) zero=ofZ k
  rw[mul_one',add_zero']
 | .a x y=>by
  show pev vs (dj (nf x) (nf y))=add _ _
  rw[gs,fb vs x,fb vs y]
 | .s x y=>by
  show pev vs (dj (nf x) (iM (nf y)))=sub _ _
  rw[gs,gz,fb vs x,fb vs y,sub_eq]
 | .m x y=>by
  show pev vs (rl (nf x) (nf y))=mul _ _
  rw[mV,fb vs x,fb vs y]
 | .n x=>by
  show pev vs (iM (nf x))=neg _
  rw[gz,fb vs x]
def chk(x y:Ex):Bool:=(dj (nf x) (iM (nf y))).isEmpty
theorem aH{x y:Ex}(h:chk x y=true)(vs:List (R)):x.ev vs=y.ev vs:=by
 have e:dj (nf x) (iM (nf y))=[]:=List.isEmpty_iff.1 h
 have e2:=gs vs (nf x) (iM (nf y))
 rw[e,gz,fb,fb,← sub_eq]at e2
 exact aE e2.symm
def okL(vs:List R):List (Ex×Ex×Ex)→Prop
 | []=>True
 | t::l=>t.2.1.ev vs=t.2.2.ev vs∧okL vs l
def Nm:List (Ex×Ex×Ex)→Ex
 | []=>.c 0
 | t::l=>.a (.m t.1 (.s t.2.1 t.2.2)) (Nm l)
theorem JC(vs:List R):∀l,okL vs l→(Nm l).ev vs=(zero:R)
 | [],_=>rfl
 | t::l,h=>by
  show add (mul (t.1.ev vs) (sub (t.2.1.ev vs) (t.2.2.ev vs))) ((Nm l).ev vs)=zero
  rw[h.1,aZ,aj,JC vs l h.2,add_zero']
theorem lin{x y:Ex}(l:List (Ex×Ex×Ex))(h:chk (.s x y) (Nm l)=true)(vs:List R)(H:okL vs l):x.ev vs=y.ev vs:=
 aE ((aH h vs).trans (JC vs l H))
theorem dN:(ofZ 1:R)=one:=by show add zero one=one;rw[aM]
end CR
end Go.Proofs.YtndhfbecpghinaaGreat.L
namespace Go.Proofs.YtndhfbecpghinaaGreat.L.Kf
open Pr
instance crK (n:Nat) [NeZero n]:CR (K2 n) where
 zero:=K2.zero
 one:=K2.one
 add:=K2.add
 mul:=K2.mul
 neg:=K2.neg
 sub:=K2.sub
 add_comm':=K2.add_comm'
 add_assoc':=K2.add_assoc'
 add_zero':=K2.add_zero'
 add_neg':=K2.add_neg'
 mul_comm':=K2.mul_comm'
 mul_assoc':=K2.mul_assoc'
 mul_one':=K2.mul_one'
 mul_add':=K2.mul_add'
 sub_eq:=K2.sub_eq
def K2.xi{n:Nat}[NeZero n]:K2 n:=⟨1,1⟩
theorem K2.of0{n:Nat}[NeZero n]:(CR.ofZ 0:K2 n)=K2.zero:=rfl
theorem K2.of1{n:Nat}[NeZero n]:(CR.ofZ 1:K2 n)=K2.one:=CR.dN
structure T6 (n:Nat) where
 a:K2 n
 b:K2 n
 c:K2 n
deriving DecidableEq
namespace T6
variable {n:Nat} [NeZero n]
theorem ext'{n:Nat}{x y:T6 n}(h1:x.a=y.a)(h2:x.b=y.b)(h3:x.c=y.c):x=y:=by
 cases x;cases y;cases h1;cases h2;cases h3;rfl
def zero:T6 n:=⟨K2.zero,K2.zero,K2.zero⟩
def one:T6 n:=⟨K2.one,K2.zero,K2.zero⟩
def add(x y:T6 n):T6 n:=⟨K2.add x.a y.a,K2.add x.b y.b,K2.add x.c y.c⟩
def sub(x y:T6 n):T6 n:=⟨K2.sub x.a y.a,K2.sub x.b y.b,K2.sub x.c y.c⟩
def neg(x:T6 n):T6 n:=⟨K2.neg x.a,K2.neg x.b,K2.neg x.c⟩
def mul(x y:T6 n):T6 n:=⟨K2.add (K2.mul x.a y.a) (K2.mul K2.xi (K2.add (K2.mul x.b y.c) (K2.mul x.c y.b))),K2.add (K2.add (K2.mul x.a y.b) (K2.mul x.b y.a)) (K2.mul K2.xi (K2.mul x.c y.c)),K2.add (K2.add (K2.mul x.a y.c) (K2.mul x.b y.b)) (K2.mul x.c y.a)⟩
attribute [local irreducible] K2.add K2.mul K2.sub K2.neg K2.zero K2.one K2.inv K2.xi
theorem mul_comm'(x y:T6 n):mul x y=mul y x:=ext'
  (CR.aH (x:=(.a (.m (.v 0) (.v 3)) (.m (.v 6) (.a (.m (.v 1) (.v 5)) (.m (.v 2) (.v 4)))))) (y:=(.a (.m (.v 3) (.v 0)) (.m (.v 6) (.a (.m (.v 4) (.v 2)) (.m (.v 5) (.v 1)))))) (by decide +kernel) [x.a,x.b,x.c,y.a,y.b,y.c,K2.xi])
  (CR.aH (x:=(.a (.a (.m (.v 0) (.v 4)) (.m (.v 1) (.v 3))) (.m (.v 6) (.m (.v 2) (.v 5))))) (y:=(.a (.a (.m (.v 3) (.v 1)) (.m (.v 4) (.v 0))) (.m (.v 6) (.m (.v 5) (.v 2))))) (by decide +kernel) [x.a,x.b,x.c,y.a,y.b,y.c,K2.xi])
  (CR.aH (x:=(.a (.a (.m (.v 0) (.v 5)) (.m (.v 1) (.v 4))) (.m (.v 2) (.v 3)))) (y:=(.a (.a (.m (.v 3) (.v 2)) (.m (.v 4) (.v 1))) (.m (.v 5) (.v 0)))) (by decide +kernel) [x.a,x.b,x.c,y.a,y.b,y.c,K2.xi])
theorem mul_assoc'(x y z:T6 n):mul (mul x y) z=mul x (mul y z):=ext'
  (CR.aH (x:=(.a (.m (.a (.m (.v 0) (.v 3)) (.m (.v 9) (.a (.m (.v 1) (.v 5)) (.m (.v 2) (.v 4))))) (.v 6)) (.m (.v 9) (.a (.m (.a (.a (.m (.v 0) (.v 4)) (.m (.v 1) (.v 3))) (.m (.v 9) (.m (.v 2) (.v 5)))) (.v 8)) (.m (.a (.a (.m (.v 0) (.v 5)) (.m (.v 1) (.v 4))) (.m (.v 2) (.v 3))) (.v 7)))))) (y:=(.a (.m (.v 0) (.a (.m (.v 3) (.v 6)) (.m (.v 9) (.a (.m (.v 4) (.v 8)) (.m (.v 5) (.v 7)))))) (.m (.v 9) (.a (.m (.v 1) (.a (.a (.m (.v 3) (.v 8)) (.m (.v 4) (.v 7))) (.m (.v 5) (.v 6)))) (.m (.v 2) (.a (.a (.m (.v 3) (.v 7)) (.m (.v 4) (.v 6))) (.m (.v 9) (.m (.v 5) (.v 8))))))))) (by decide +kernel) [x.a,x.b,x.c,y.a,y.b,y.c,z.a,z.b,z.c,K2.xi])
  (CR.aH (x:=(.a (.a (.m (.a (.m (.v 0) (.v 3)) (.m (.v 9) (.a (.m (.v 1) (.v 5)) (.m (.v 2) (.v 4))))) (.v 7)) (.m (.a (.a (.m (.v 0) (.v 4)) (.m (.v 1) (.v 3))) (.m (.v 9) (.m (.v 2) (.v 5)))) (.v 6))) (.m (.v 9) (.m (.a (.a (.m (.v 0) (.v 5)) (.m (.v 1) (.v 4))) (.m (.v 2) (.v 3))) (.v 8))))) (y:=(.a (.a (.m (.v 0) (.a (.a (.m (.v 3) (.v 7)) (.m (.v 4) (.v 6))) (.m (.v 9) (.m (.v 5) (.v 8))))) (.m (.v 1) (.a (.m (.v 3) (.v 6)) (.m (.v 9) (.a (.m (.v 4) (.v 8)) (.m (.v 5) (.v 7))))))) (.m (.v 9) (.m (.v 2) (.a (.a (.m (.v 3) (.v 8)) (.m (.v 4) (.v 7))) (.m (.v 5) (.v 6))))))) (by decide +kernel) [x.a,x.b,x.c,y.a,y.b,y.c,z.a,z.b,z.c,K2.xi])
  (CR.aH (x:=(.a (.a (.m (.a (.m (.v 0) (.v 3)) (.m (.v 9) (.a (.m (.v 1) (.v 5)) (.m (.v 2) (.v 4))))) (.v 8)) (.m (.a (.a (.m (.v 0) (.v 4)) (.m (.v 1) (.v 3))) (.m (.v 9) (.m (.v 2) (.v 5)))) (.v 7))) (.m (.a (.a (.m (.v 0) (.v 5)) (.m (.v 1) (.v 4))) (.m (.v 2) (.v 3))) (.v 6)))) (y:=(.a (.a (.m (.v 0) (.a (.a (.m (.v 3) (.v 8)) (.m (.v 4) (.v 7))) (.m (.v 5) (.v 6)))) (.m (.v 1) (.a (.a (.m (.v 3) (.v 7)) (.m (.v 4) (.v 6))) (.m (.v 9) (.m (.v 5) (.v 8)))))) (.m (.v 2) (.a (.m (.v 3) (.v 6)) (.m (.v 9) (.a (.m (.v 4) (.v 8)) (.m (.v 5) (.v 7)))))))) (by decide +kernel) [x.a,x.b,x.c,y.a,y.b,y.c,z.a,z.b,z.c,K2.xi])
theorem mul_add'(x y z:T6 n):mul x (add y z)=add (mul x y) (mul x z):=ext'
  (CR.aH (x:=(.a (.m (.v 0) (.a (.v 3) (.v 6))) (.m (.v 9) (.a (.m (.v 1) (.a (.v 5) (.v 8))) (.m (.v 2) (.a (.v 4) (.v 7))))))) (y:=(.a (.a (.m (.v 0) (.v 3)) (.m (.v 9) (.a (.m (.v 1) (.v 5)) (.m (.v 2) (.v 4))))) (.a (.m (.v 0) (.v 6)) (.m (.v 9) (.a (.m (.v 1) (.v 8)) (.m (.v 2) (.v 7))))))) (by decide +kernel) [x.a,x.b,x.c,y.a,y.b,y.c,z.a,z.b,z.c,K2.xi])
  (CR.aH (x:=(.a (.a (.m (.v 0) (.a (.v 4) (.v 7))) (.m (.v 1) (.a (.v 3) (.v 6)))) (.m (.v 9) (.m (.v 2) (.a (.v 5) (.v 8)))))) (y:=(.a (.a (.a (.m (.v 0) (.v 4)) (.m (.v 1) (.v 3))) (.m (.v 9) (.m (.v 2) (.v 5)))) (.a (.a (.m (.v 0) (.v 7)) (.m (.v 1) (.v 6))) (.m (.v 9) (.m (.v 2) (.v 8)))))) (by decide +kernel) [x.a,x.b,x.c,y.a,y.b,y.c,z.a,z.b,z.c,K2.xi])
  (CR.aH (x:=(.a (.a (.m (.v 0) (.a (.v 5) (.v 8))) (.m (.v 1) (.a (.v 4) (.v 7)))) (.m (.v 2) (.a (.v 3) (.v 6))))) (y:=(.a (.a (.a (.m (.v 0) (.v 5)) (.m (.v 1) (.v 4))) (.m (.v 2) (.v 3))) (.a (.a (.m (.v 0) (.v 8)) (.m (.v 1) (.v 7))) (.m (.v 2) (.v 6))))) (by decide +kernel) [x.a,x.b,x.c,y.a,y.b,y.c,z.a,z.b,z.c,K2.xi])
theorem mul_one'(x:T6 n):mul x one=x:=by
 unfold mul one
 simp only[K2.aj,K2.mul_one',K2.add_zero',K2.aM]
instance:CR (T6 n) where
 zero:=zero
 one:=one
 add:=add
 mul:=mul
 neg:=neg
 sub:=sub
 add_comm' _ _:=ext' (K2.add_comm' _ _) (K2.add_comm' _ _) (K2.add_comm' _ _)
 add_assoc' _ _ _:=ext' (K2.add_assoc' _ _ _) (K2.add_assoc' _ _ _) (K2.add_assoc' _ _ _)
 add_zero' _:=ext' (K2.add_zero' _) (K2.add_zero' _) (K2.add_zero' _)
 add_neg' _:=ext' (K2.add_neg' _) (K2.add_neg' _) (K2.add_neg' _)
 mul_comm':=mul_comm'
 mul_assoc':=mul_assoc'
 mul_one':=mul_one'
 mul_add':=mul_add'
 sub_eq _ _:=ext' (K2.sub_eq _ _) (K2.sub_eq _ _) (K2.sub_eq _ _)
def em(x:K2 n):T6 n:=⟨x,K2.zero,K2.zero⟩
def vv:T6 n:=⟨K2.zero,K2.one,K2.zero⟩
def cof(x:T6 n):T6 n:=⟨K2.sub (K2.mul x.a x.a) (K2.mul K2.xi (K2.mul x.b x.c)),K2.sub (K2.mul K2.xi (K2.mul x.c x.c)) (K2.mul x.a x.b),K2.sub (K2.mul x.b x.b) (K2.mul x.a x.c)⟩
def nrm(x:T6 n):K2 n:=K2.add (K2.mul x.a (cof x).a) (K2.mul K2.xi (K2.add (K2.mul x.c (cof x).b) (K2.mul x.b (cof x).c)))
def inv(x:T6 n):T6 n:=mul (cof x) (em (K2.inv (nrm x)))
theorem bX(x y:K2 n):em (K2.mul x y)=mul (em x) (em y):=by
 unfold mul em
 simp only[K2.aj,K2.aG,K2.add_zero']
theorem mY(x y:T6 n):nrm (mul x y)=K2.mul (nrm x) (nrm y):=CR.aH (x:=(.a (.m (.a (.m (.v 0) (.v 3)) (.m (.v 6) (.a (.m (.v 1) (.v 5)) (.m (.v 2) (.v 4))))) (.s (.m (.a (.m (.v 0) (.v 3)) (.m (.v 6) (.a (.m (.v 1) (.v 5)) (.m (.v 2) (.v 4))))) (.a (.m (.v 0) (.v 3)) (.m (.v 6) (.a (.m (.v 1) (.v 5)) (.m (.v 2) (.v 4)))))) (.m (.v 6) (.m (.a (.a (.m (.v 0) (.v 4)) (.m (.v 1) (.v 3))) (.m (.v 6) (.m (.v 2) (.v 5)))) (.a (.a (.m (.v 0) (.v 5)) (.m (.v 1) (.v 4))) (.m (.v 2) (.v 3))))))) (.m (.v 6) (.a (.m (.a (.a (.m (.v 0) (.v 5)) (.m (.v 1) (.v 4))) (.m (.v 2) (.v 3))) (.s (.m (.v 6) (.m (.a (.a (.m (.v 0) (.v 5)) (.m (.v 1) (.v 4))) (.m (.v 2) (.v 3))) (.a (.a (.m (.v 0) (.v 5)) (.m (.v 1) (.v 4))) (.m (.v 2) (.v 3))))) (.m (.a (.m (.v 0) (.v 3)) (.m (.v 6) (.a (.m (.v 1) (.v 5)) (.m (.v 2) (.v 4))))) (.a (.a (.m (.v 0) (.v 4)) (.m (.v 1) (.v 3))) (.m (.v 6) (.m (.v 2) (.v 5))))))) (.m (.a (.a (.m (.v 0) (.v 4)) (.m (.v 1) (.v 3))) (.m (.v 6) (.m (.v 2) (.v 5)))) (.s (.m (.a (.a (.m (.v 0) (.v 4)) (.m (.v 1) (.v 3))) (.m (.v 6) (.m (.v 2) (.v 5)))) (.a (.a (.m (.v 0) (.v 4)) (.m (.v 1) (.v 3))) (.m (.v 6) (.m (.v 2) (.v 5))))) (.m (.a (.m (.v 0) (.v 3)) (.m (.v 6) (.a (.m (.v 1) (.v 5)) (.m (.v 2) (.v 4))))) (.a (.a (.m (.v 0) (.v 5)) (.m (.v 1) (.v 4))) (.m (.v 2) (.v 3)))))))))) (y:=(.m (.a (.m (.v 0) (.s (.m (.v 0) (.v 0)) (.m (.v 6) (.m (.v 1) (.v 2))))) (.m (.v 6) (.a (.m (.v 2) (.s (.m (.v 6) (.m (.v 2) (.v 2))) (.m (.v 0) (.v 1)))) (.m (.v 1) (.s (.m (.v 1) (.v 1)) (.m (.v 0) (.v 2))))))) (.a (.m (.v 3) (.s (.m (.v 3) (.v 3)) (.m (.v 6) (.m (.v 4) (.v 5))))) (.m (.v 6) (.a (.m (.v 5) (.s (.m (.v 6) (.m (.v 5) (.v 5))) (.m (.v 3) (.v 4)))) (.m (.v 4) (.s (.m (.v 4) (.v 4)) (.m (.v 3) (.v 5))))))))) (by decide +kernel) [x.a,x.b,x.c,y.a,y.b,y.c,K2.xi]
theorem L6(x:T6 n):mul x (cof x)=em (nrm x):=
 ext' (CR.aH (x:=(.a (.m (.v 0) (.s (.m (.v 0) (.v 0)) (.m (.v 3) (.m (.v 1) (.v 2))))) (.m (.v 3) (.a (.m (.v 1) (.s (.m (.v 1) (.v 1)) (.m (.v 0) (.v 2)))) (.m (.v 2) (.s (.m (.v 3) (.m (.v 2) (.v 2))) (.m (.v 0) (.v 1)))))))) (y:=(.a (.m (.v 0) (.s (.m (.v 0) (.v 0)) (.m (.v 3) (.m (.v 1) (.v 2))))) (.m (.v 3) (.a (.m (.v 2) (.s (.m (.v 3) (.m (.v 2) (.v 2))) (.m (.v 0) (.v 1)))) (.m (.v 1) (.s (.m (.v 1) (.v 1)) (.m (.v 0) (.v 2)))))))) (by decide +kernel) [x.a,x.b,x.c,K2.xi])
  (Eq.trans (CR.aH (x:=(.a (.a (.m (.v 0) (.s (.m (.v 3) (.m (.v 2) (.v 2))) (.m (.v 0) (.v 1)))) (.m (.v 1) (.s (.m (.v 0) (.v 0)) (.m (.v 3) (.m (.v 1) (.v 2)))))) (.m (.v 3) (.m (.v 2) (.s (.m (.v 1) (.v 1)) (.m (.v 0) (.v 2))))))) (y:=(.c 0)) (by decide +kernel) [x.a,x.b,x.c,K2.xi]) K2.of0)
  (Eq.trans (CR.aH (x:=(.a (.a (.m (.v 0) (.s (.m (.v 1) (.v 1)) (.m (.v 0) (.v 2)))) (.m (.v 1) (.s (.m (.v 3) (.m (.v 2) (.v 2))) (.m (.v 0) (.v 1))))) (.m (.v 2) (.s (.m (.v 0) (.v 0)) (.m (.v 3) (.m (.v 1) (.v 2))))))) (y:=(.c 0)) (by decide +kernel) [x.a,x.b,x.c,K2.xi]) K2.of0)
theorem In(a b:K2 n):nrm ⟨a,b,CR.ofZ 0⟩=K2.add (K2.mul (K2.mul a a) a) (K2.mul K2.xi (K2.mul (K2.mul b b) b)):=
 CR.aH (x:=(.a (.m (.v 0) (.s (.m (.v 0) (.v 0)) (.m (.v 2) (.m (.v 1) (.c 0))))) (.m (.v 2) (.a (.m (.c 0) (.s (.m (.v 2) (.m (.c 0) (.c 0))) (.m (.v 0) (.v 1)))) (.m (.v 1) (.s (.m (.v 1) (.v 1)) (.m (.v 0) (.c 0)))))))) (y:=(.a (.m (.m (.v 0) (.v 0)) (.v 0)) (.m (.v 2) (.m (.m (.v 1) (.v 1)) (.v 1))))) (by decide +kernel) [a,b,K2.xi]
theorem RK:nrm (vv:T6 n)=K2.xi:=
 (In K2.zero K2.one).trans (by rw[K2.aj,K2.aM,K2.mul_one',K2.mul_one',K2.mul_one'])
structure Tw (n:Nat) [NeZero n]:Prop where
 p3:P3 n
 cu:∀t:K2 n,K2.mul (K2.mul t t) t≠K2.xi
 sq:∀t:K2 n,K2.mul t t≠K2.xi
 m6:n%6=1
variable (tw:Tw n)
include tw
theorem Oq{a b:K2 n}(h:nrm ⟨a,b,CR.ofZ 0⟩=CR.ofZ 0):a=K2.zero∧b=K2.zero:=by
 rw[In]at h
 by_cases hb:b=K2.zero
 ·subst hb
  rw[K2.aj,K2.aj,K2.add_zero']at h
  exact⟨(K2.aW tw.p3 h).elim (fun h=>(K2.aW tw.p3 h).elim id id) id,rfl⟩
 ·have hi:K2.mul b (K2.inv b)=CR.ofZ 1:=(K2.aI tw.p3 hb).trans K2.of1.symm
  generalize K2.inv b=i at hi
  exact absurd (CR.lin (x:=(.m (.m (.n (.m (.v 0) (.v 2))) (.n (.m (.v 0) (.v 2)))) (.n (.m (.v 0) (.v 2))))) (y:=(.v 3)) [((.m (.m (.m (.c (-1)) (.v 2)) (.v 2)) (.v 2)),(.a (.m (.m (.v 0) (.v 0)) (.v 0)) (.m (.v 3) (.m (.m (.v 1) (.v 1)) (.v 1)))),(.c 0)),((.m (.a (.m (.a (.m (.m (.m (.c 1) (.v 1)) (.v 1)) (.v 2)) (.m (.c 1) (.v 1))) (.v 2)) (.c 1)) (.v 3)),(.m (.v 1) (.v 2)),(.c 1))] (by decide +kernel) [a,b,i,K2.xi] ⟨h,hi,trivial⟩) (tw.cu (K2.neg (K2.mul a i)))
theorem vu{x:T6 n}(h:nrm x=K2.zero):x=zero:=by
 obtain⟨a,b,c⟩:=x
 by_cases hc:c=K2.zero
 ·subst hc
  obtain⟨rfl,rfl⟩:=Oq tw h
  rfl
 ·exfalso
  have h2:nrm (mul ⟨a,b,c⟩ ⟨K2.neg b,c,CR.ofZ 0⟩)=CR.ofZ 0:=by
   rw[mY,h,K2.aG];rfl
  have e:mul ⟨a,b,c⟩ ⟨K2.neg b,c,CR.ofZ 0⟩=⟨K2.sub (K2.mul K2.xi (K2.mul c c)) (K2.mul a b),K2.sub (K2.mul a c) (K2.mul b b),CR.ofZ 0⟩:=
   ext' (CR.aH (x:=(.a (.m (.v 0) (.n (.v 1))) (.m (.v 3) (.a (.m (.v 1) (.c 0)) (.m (.v 2) (.v 2)))))) (y:=(.s (.m (.v 3) (.m (.v 2) (.v 2))) (.m (.v 0) (.v 1)))) (by decide +kernel) [a,b,c,K2.xi]) (CR.aH (x:=(.a (.a (.m (.v 0) (.v 2)) (.m (.v 1) (.n (.v 1)))) (.m (.v 3) (.m (.v 2) (.c 0))))) (y:=(.s (.m (.v 0) (.v 2)) (.m (.v 1) (.v 1)))) (by decide +kernel) [a,b,c,K2.xi]) (CR.aH (x:=(.a (.a (.m (.v 0) (.c 0)) (.m (.v 1) (.v 2))) (.m (.v 2) (.n (.v 1))))) (y:=(.c 0)) (by decide +kernel) [a,b,c,K2.xi])
  rw[e]at h2
  obtain⟨e1,e2⟩:=Oq tw h2
  have hi:K2.mul c (K2.inv c)=CR.ofZ 1:=(K2.aI tw.p3 hc).trans K2.of1.symm
  generalize K2.inv c=i at hi
  exact absurd (CR.lin (x:=(.m (.m (.m (.v 1) (.v 3)) (.m (.v 1) (.v 3))) (.m (.v 1) (.v 3)))) (y:=(.v 4)) [((.n (.m (.m (.m (.v 2) (.v 3)) (.v 3)) (.v 3))),(.s (.m (.v 4) (.m (.v 2) (.v 2))) (.m (.v 0) (.v 1))),(.c 0)),((.n (.m (.m (.m (.v 1) (.v 3)) (.v 3)) (.v 3))),(.s (.m (.v 0) (.v 2)) (.m (.v 1) (.v 1))),(.c 0)),((.m (.a (.m (.a (.m (.m (.m (.c 1) (.v 2)) (.v 2)) (.v 3)) (.m (.c 1) (.v 2))) (.v 3)) (.c 1)) (.v 4)),(.m (.v 2) (.v 3)),(.c 1))] (by decide +kernel) [a,b,c,i,K2.xi] ⟨e1,e2,hi,trivial⟩) (tw.cu (K2.mul b i))
theorem aI{x:T6 n}(h:x≠zero):mul x (inv x)=one:=by
 rw[inv,← mul_assoc',L6,← bX,K2.aI tw.p3 fun e=>h (vu tw e)]
 rfl
theorem aW{x y:T6 n}(h:mul x y=zero):x=zero∨y=zero:=by
 have e:K2.mul (nrm x) (nrm y)=K2.zero:=by rw[← mY,h];exact(In _ _).trans (by simp only[K2.aj,K2.add_zero'])
 exact(K2.aW tw.p3 e).imp (vu tw) (vu tw)
theorem L8{x y:T6 n}(h:mul x x=mul vv (mul y y)):y=zero:=by
 apply Classical.byContradiction
 intro hy
 have hn:nrm y≠K2.zero:=fun e=>hy (vu tw e)
 have e:K2.mul (nrm x) (nrm x)=K2.mul K2.xi (K2.mul (nrm y) (nrm y)):=by rw[← mY,h,mY,RK,mY]
 have hi:K2.mul (nrm y) (K2.inv (nrm y))=CR.ofZ 1:=(K2.aI tw.p3 hn).trans K2.of1.symm
 generalize K2.inv (nrm y)=i at hi
 generalize nrm y=b at e hi
 generalize nrm x=a at e
 exact absurd (CR.lin (x:=(.m (.m (.v 0) (.v 2)) (.m (.v 0) (.v 2)))) (y:=(.v 3)) [((.m (.m (.c 1) (.v 2)) (.v 2)),(.m (.v 0) (.v 0)),(.m (.v 3) (.m (.v 1) (.v 1)))),((.m (.a (.m (.m (.c 1) (.v 1)) (.v 2)) (.c 1)) (.v 3)),(.m (.v 1) (.v 2)),(.c 1))] (by decide +kernel) [a,b,i,K2.xi] ⟨e,hi,trivial⟩) (tw.sq (K2.mul a i))
end T6
end Go.Proofs.YtndhfbecpghinaaGreat.L.Kf
namespace Go.Proofs.YtndhfbecpghinaaGreat.L
open Go Go.Proofs
set_option maxRecDepth 100000
namespace CR
open Kf.K2 (ch uE sS pD zU)
variable {R:Type} [CR R]
theorem li(a:R)(k:Nat):pw a (k+1)=mul (pw a k) a:=rfl
theorem R2(a:R):pw a 0=one:=rfl
theorem AM(a:R):pw a 1=a:=aR a
theorem rq:∀k,pw (one:R) k=one
 | 0=>rfl
 | k+1=>by rw[li,rq k,mul_one']
theorem bN(a:R)(i:Nat):∀k,pw a (i*k)=pw (pw a i) k
 | 0=>rfl
 | k+1=>by rw[Nat.mul_succ,dP,bN a i k,li]
theorem ef(a b:R):∀k,pw (mul a b) k=mul (pw a k) (pw b k)
 | 0=>(mul_one' _).symm
 | k+1=>by
  rw[li,ef a b k,li,li]
  ac_rfl
theorem wq{k:Nat}(h:0<k):pw (zero:R) k=zero:=by
 obtain⟨j,rfl⟩:∃j,k=j+1:=⟨k-1,by omega⟩
 rw[li,aj]
def nm(c:Nat)(a:R):R:=mul (ofN c) a
def sm(f:Nat→R):Nat→R
 | 0=>zero
 | k+1=>add (sm f k) (f k)
theorem jE{f:Nat→R}:∀{R},(∀k,k<R→f k=zero)→sm f R=zero
 | 0,_=>rfl
 | R+1,h=>by rw[sm,jE fun k hk=>h k (by omega),h R (by omega),add_zero']
theorem gZ{f g:Nat→R}:∀{R},(∀k,k<R→f k=g k)→sm f R=sm g R
 | 0,_=>rfl
 | R+1,h=>by rw[sm,sm,gZ fun k hk=>h k (by omega),h R (by omega)]
theorem dG(f:Nat→R):∀R,sm f (R+1)=add (f 0) (sm (fun k=>f (k+1)) R)
 | 0=>by rw[sm,sm,sm,add_comm']
 | R+1=>by rw[sm,dG f R,sm,add_assoc']
theorem rJ(f g:Nat→R):∀R,sm (fun k=>add (f k) (g k)) R=add (sm f R) (sm g R)
 | 0=>(add_zero' _).symm
 | R+1=>by
  rw[sm,rJ f g R,sm,sm]
  ac_rfl
theorem rK(a:R)(f:Nat→R):∀R,mul a (sm f R)=sm (fun k=>mul a (f k)) R
 | 0=>aj a
 | R+1=>by rw[sm,mul_add',rK a f R,sm]
theorem AD(a:R):nm 1 a=a:=by
 show mul (add zero one) a=a
 rw[aM,aR]
theorem qi(X:R):∀m R,m<R→pw (add X one) m=sm (fun k=>nm (ch m k) (pw X k)) R
 | 0,R,h=>by
  obtain⟨r,rfl⟩:∃r,R=r+1:=⟨R-1,by omega⟩
  rw[dG,jE (f:=fun k=>nm (ch 0 (k+1)) (pw X (k+1))) fun k _=>aG _,add_zero']
  show one=nm 1 one
  rw[AD]
 | m+1,R,h=>by
  obtain⟨r,rfl⟩:∃r,R=r+1:=⟨R-1,by omega⟩
  have h1:=qi X m r (by omega)
  have h2:=qi X m (r+1) (by omega)
  rw[dG]at h2
  rw[li,mul_add',mul_one',dG]
  have e1:mul (pw (add X one) m) X=sm (fun k=>nm (ch m k) (pw X (k+1))) r:=by
   rw[mul_comm',h1,rK]
   refine gZ fun k _=>?_
   rw[nm,nm,li]
   ac_rfl
  have e2:sm (fun k=>nm (ch (m+1) (k+1)) (pw X (k+1))) r=add (sm (fun k=>nm (ch m k) (pw X (k+1))) r) (sm (fun k=>nm (ch m (k+1)) (pw X (k+1))) r):=by
   rw[← rJ]
   exact gZ fun k _=>by rw[ch,nm,dZ,cQ];rfl
  rw[e1,e2,h2,uE,uE]
  ac_rfl
theorem Hc{n:Nat}(hp:Pr.aU n)(h0:(ofN n:R)=zero)(X:R):pw (add X one) n=add (pw X n) one:=by
 have h1:=hp.1
 obtain⟨m,hm⟩:∃m,n=m+1:=⟨n-1,by omega⟩
 have h:=qi X n (n+1) (by omega)
 rw[h,sm,pD,AD,add_comm']
 congr 1
 have:∀N,N=m+1→sm (fun k=>nm (ch n k) (pw X k)) N=one:=by
  rintro N rfl
  rw[dG,jE (f:=fun k=>nm (ch n (k+1)) (pw X (k+1))),add_zero',uE,AD]
  ·rfl
  ·intro k hk
   obtain⟨c,hc⟩:=zU hp (k:=k+1) (by omega) (by omega)
   show mul (ofN (ch n (k+1))) _=zero
   rw[hc,fQ,h0,aG,aG]
 exact this n hm
theorem qL{n:Nat}(hp:Pr.aU n)(h0:(ofN n:R)=zero)(X:R){Y i:R}(hY:mul Y i=one):pw (add X Y) n=add (pw X n) (pw Y n):=by
 have e2:mul (mul X i) Y=X:=by
  rw[mul_assoc',mul_comm' i,hY,mul_one']
 have e1:add X Y=mul (add (mul X i) one) Y:=by
  rw[cQ,e2,aR]
 rw[e1,ef,Hc hp h0,cQ,aR,← ef,e2]
end CR
end Go.Proofs.YtndhfbecpghinaaGreat.L
namespace Go.Proofs.YtndhfbecpghinaaGreat.L.Kf
open Pr
structure T12 (n:Nat) where
 a:T6 n
 b:T6 n
deriving DecidableEq
namespace T12
variable {n:Nat} [NeZero n]
theorem ext'{n:Nat}{x y:T12 n}(h1:x.a=y.a)(h2:x.b=y.b):x=y:=by
 cases x;cases y;cases h1;cases h2;rfl
def zero:T12 n:=⟨T6.zero,T6.zero⟩
def one:T12 n:=⟨T6.one,T6.zero⟩
def add(x y:T12 n):T12 n:=⟨T6.add x.a y.a,T6.add x.b y.b⟩
def sub(x y:T12 n):T12 n:=⟨T6.sub x.a y.a,T6.sub x.b y.b⟩
def neg(x:T12 n):T12 n:=⟨T6.neg x.a,T6.neg x.b⟩
def mul(x y:T12 n):T12 n:=⟨T6.add (T6.mul x.a y.a) (T6.mul T6.vv (T6.mul x.b y.b)),T6.add (T6.mul x.a y.b) (T6.mul x.b y.a)⟩
attribute [local irreducible] T6.add T6.mul T6.sub T6.neg T6.zero T6.one T6.inv T6.vv
theorem mul_comm'(x y:T12 n):mul x y=mul y x:=ext'
  (CR.aH (x:=(.a (.m (.v 0) (.v 2)) (.m (.v 4) (.m (.v 1) (.v 3))))) (y:=(.a (.m (.v 2) (.v 0)) (.m (.v 4) (.m (.v 3) (.v 1))))) (by decide +kernel) [x.a,x.b,y.a,y.b,T6.vv])
  (CR.aH (x:=(.a (.m (.v 0) (.v 3)) (.m (.v 1) (.v 2)))) (y:=(.a (.m (.v 2) (.v 1)) (.m (.v 3) (.v 0)))) (by decide +kernel) [x.a,x.b,y.a,y.b,T6.vv])
theorem mul_assoc'(x y z:T12 n):mul (mul x y) z=mul x (mul y z):=ext'
  (CR.aH (x:=(.a (.m (.a (.m (.v 0) (.v 2)) (.m (.v 6) (.m (.v 1) (.v 3)))) (.v 4)) (.m (.v 6) (.m (.a (.m (.v 0) (.v 3)) (.m (.v 1) (.v 2))) (.v 5))))) (y:=(.a (.m (.v 0) (.a (.m (.v 2) (.v 4)) (.m (.v 6) (.m (.v 3) (.v 5))))) (.m (.v 6) (.m (.v 1) (.a (.m (.v 2) (.v 5)) (.m (.v 3) (.v 4))))))) (by decide +kernel) [x.a,x.b,y.a,y.b,z.a,z.b,T6.vv])
  (CR.aH (x:=(.a (.m (.a (.m (.v 0) (.v 2)) (.m (.v 6) (.m (.v 1) (.v 3)))) (.v 5)) (.m (.a (.m (.v 0) (.v 3)) (.m (.v 1) (.v 2))) (.v 4)))) (y:=(.a (.m (.v 0) (.a (.m (.v 2) (.v 5)) (.m (.v 3) (.v 4)))) (.m (.v 1) (.a (.m (.v 2) (.v 4)) (.m (.v 6) (.m (.v 3) (.v 5))))))) (by decide +kernel) [x.a,x.b,y.a,y.b,z.a,z.b,T6.vv])
theorem mul_add'(x y z:T12 n):mul x (add y z)=add (mul x y) (mul x z):=ext'
  (CR.aH (x:=(.a (.m (.v 0) (.a (.v 2) (.v 4))) (.m (.v 6) (.m (.v 1) (.a (.v 3) (.v 5)))))) (y:=(.a (.a (.m (.v 0) (.v 2)) (.m (.v 6) (.m (.v 1) (.v 3)))) (.a (.m (.v 0) (.v 4)) (.m (.v 6) (.m (.v 1) (.v 5)))))) (by decide +kernel) [x.a,x.b,y.a,y.b,z.a,z.b,T6.vv])
  (CR.aH (x:=(.a (.m (.v 0) (.a (.v 3) (.v 5))) (.m (.v 1) (.a (.v 2) (.v 4))))) (y:=(.a (.a (.m (.v 0) (.v 3)) (.m (.v 1) (.v 2))) (.a (.m (.v 0) (.v 5)) (.m (.v 1) (.v 4))))) (by decide +kernel) [x.a,x.b,y.a,y.b,z.a,z.b,T6.vv])
theorem W7:(CR.ofZ 0:T6 n)=T6.zero:=rfl
theorem Vh:(CR.ofZ 1:T6 n)=T6.one:=CR.dN
theorem rj(x:T6 n):T6.mul x T6.zero=T6.zero:=CR.aj x
theorem L5(x:T6 n):T6.mul T6.zero x=T6.zero:=CR.aG x
theorem Ie(x:T6 n):T6.mul x T6.one=x:=CR.mul_one' x
theorem zK(x:T6 n):T6.add x T6.zero=x:=CR.add_zero' x
theorem Bs(x:T6 n):T6.add T6.zero x=x:=CR.aM x
theorem mul_one'(x:T12 n):mul x one=x:=by
 unfold mul one
 simp only[rj,Ie,zK,Bs]
instance:CR (T12 n) where
 zero:=zero
 one:=one
 add:=add
 mul:=mul
 neg:=neg
 sub:=sub
 add_comm' _ _:=ext' (CR.add_comm' (R:=T6 n) _ _) (CR.add_comm' (R:=T6 n) _ _)
 add_assoc' _ _ _:=ext' (CR.add_assoc' (R:=T6 n) _ _ _) (CR.add_assoc' (R:=T6 n) _ _ _)
 add_zero' _:=ext' (CR.add_zero' (R:=T6 n) _) (CR.add_zero' (R:=T6 n) _)
 add_neg' _:=ext' (CR.add_neg' (R:=T6 n) _) (CR.add_neg' (R:=T6 n) _)
 mul_comm':=mul_comm'
 mul_assoc':=mul_assoc'
 mul_one':=mul_one'
 mul_add':=mul_add'
 sub_eq _ _:=ext' (CR.sub_eq (R:=T6 n) _ _) (CR.sub_eq (R:=T6 n) _ _)
def inv(x:T12 n):T12 n:=⟨T6.mul x.a (T6.inv (T6.sub (T6.mul x.a x.a) (T6.mul T6.vv (T6.mul x.b x.b)))),T6.neg (T6.mul x.b (T6.inv (T6.sub (T6.mul x.a x.a) (T6.mul T6.vv (T6.mul x.b x.b)))))⟩
def conj(x:T12 n):T12 n:=⟨x.a,T6.neg x.b⟩
def e6(x:T6 n):T12 n:=⟨x,T6.zero⟩
def e2(x:K2 n):T12 n:=e6 (T6.em x)
def w:T12 n:=⟨T6.zero,T6.one⟩
theorem aY(x y:T12 n):conj (mul x y)=mul (conj x) (conj y):=
 ext'
  (CR.aH (x:=(.a (.m (.v 0) (.v 2)) (.m (.v 4) (.m (.v 1) (.v 3))))) (y:=(.a (.m (.v 0) (.v 2)) (.m (.v 4) (.m (.n (.v 1)) (.n (.v 3)))))) (by decide +kernel) [x.a,x.b,y.a,y.b,T6.vv])
  (CR.aH (x:=(.n (.a (.m (.v 0) (.v 3)) (.m (.v 1) (.v 2))))) (y:=(.a (.m (.v 0) (.n (.v 3))) (.m (.n (.v 1)) (.v 2)))) (by decide +kernel) [x.a,x.b,y.a,y.b,T6.vv])
theorem ew(x:T12 n):conj (conj x)=x:=ext' rfl (CR.bv x.b)
theorem Bz(x:T6 n):conj (e6 x)=e6 x:=ext' rfl (CR.bk (R:=T6 n))
theorem fW:conj (one:T12 n)=one:=Bz _
theorem QL(x y:T6 n):e6 (T6.mul x y)=mul (e6 x) (e6 y):=by
 unfold mul e6
 simp only[rj,L5,zK]
theorem gR(x y:K2 n):e2 (K2.mul x y)=mul (e2 x) (e2 y):=by rw[e2,T6.bX,QL];rfl
theorem z3:e2 (K2.one:K2 n)=one:=by unfold e2 one e6 T6.em T6.one;rfl
theorem uP:e2 (K2.zero:K2 n)=zero:=by unfold e2 zero e6 T6.em T6.zero;rfl
variable (tw:T6.Tw n)
include tw
theorem aI{x:T12 n}(h:x≠zero):mul x (inv x)=one:=by
 have hd:T6.sub (T6.mul x.a x.a) (T6.mul T6.vv (T6.mul x.b x.b))≠T6.zero:=by
  intro e
  have e1:T6.mul x.a x.a=T6.mul T6.vv (T6.mul x.b x.b):=CR.aE e
  have hb:=T6.L8 tw e1
  rw[hb,rj,rj]at e1
  have ha:=(T6.aW tw e1).elim id id
  exact h (ext' ha hb)
 have hi:=(T6.aI tw hd).trans Vh.symm
 rw[inv]
 generalize T6.inv (n:=n) _=i at hi ⊢
 refine ext' (Eq.trans ?_ (Vh (n:=n))) (Eq.trans ?_ (W7 (n:=n)))
 ·exact CR.lin (x:=(.a (.m (.v 0) (.m (.v 0) (.v 2))) (.m (.v 3) (.m (.v 1) (.n (.m (.v 1) (.v 2))))))) (y:=(.c 1)) [((.c 1),(.m (.s (.m (.v 0) (.v 0)) (.m (.v 3) (.m (.v 1) (.v 1)))) (.v 2)),(.c 1))] (by decide +kernel) [x.a,x.b,i,T6.vv] ⟨hi,trivial⟩
 ·exact CR.aH (x:=(.a (.m (.v 0) (.n (.m (.v 1) (.v 2)))) (.m (.v 1) (.m (.v 0) (.v 2))))) (y:=(.c 0)) (by decide +kernel) [x.a,x.b,i,T6.vv]
theorem aW{x y:T12 n}(h:mul x y=zero):x=zero∨y=zero:=by
 by_cases hx:x=zero
 ·exact .inl hx
 ·right
  have:=aI tw hx
  calc y=mul (mul x (inv x)) y:=by rw[this];exact(CR.aR y).symm
   _=mul (inv x) (mul x y):=by rw[mul_comm' x,mul_assoc']
   _=zero:=by rw[h];exact CR.aj _
theorem cH:(one:T12 n)≠zero:=fun e=>K2.jv tw.p3 (show(K2.one:K2 n)=K2.zero from by
 have h1:=congrArg (fun x:T12 n=>x.a.a) e
 unfold one zero T6.one T6.zero at h1
 exact h1)
omit tw
def frb(g:K2 n)(x:T12 n):T12 n:=
 ⟨⟨K2.conj x.a.a,K2.mul (K2.conj x.a.b) (K2.pw g 2),K2.mul (K2.conj x.a.c) (K2.pw g 4)⟩,⟨K2.mul (K2.conj x.b.a) g,K2.mul (K2.conj x.b.b) (K2.pw g 3),K2.mul (K2.conj x.b.c) (K2.pw g 5)⟩⟩
theorem Cs(x:K2 n):∀k,CR.pw (e2 x) k=e2 (K2.pw x k)
 | 0=>z3.symm
 | k+1=>by rw[CR.li,Cs x k];exact(gR _ _).symm
theorem WN(x:T12 n):mul x w=⟨T6.mul T6.vv x.b,x.a⟩:=by
 unfold mul w
 simp only[rj,Ie,zK,Bs]
attribute [local irreducible] K2.add K2.mul K2.sub K2.neg K2.zero K2.one K2.inv K2.xi
theorem UJ(a b c:K2 n):T6.mul T6.vv ⟨a,b,c⟩=⟨K2.mul K2.xi c,a,b⟩:=by
 unfold T6.mul T6.vv
 simp only[K2.aj,K2.aG,K2.aR,K2.add_zero',K2.aM]
theorem tt(a b c d e f:K2 n):mul ⟨⟨a,b,c⟩,⟨d,e,f⟩⟩ w=⟨⟨K2.mul K2.xi f,d,e⟩,⟨a,b,c⟩⟩:=by rw[WN,UJ]
theorem iu(x:K2 n):e2 x=⟨⟨x,K2.zero,K2.zero⟩,⟨K2.zero,K2.zero,K2.zero⟩⟩:=by unfold e2 e6 T6.em T6.zero;rfl
def mo(c:K2 n)(k:Nat):T12 n:=mul (e2 c) (CR.pw w k)
theorem Eo(c:K2 n)(k:Nat):mo c (k+1)=mul (mo c k) w:=(mul_assoc' _ _ _).symm
theorem H2(c:K2 n):mo c 0=⟨⟨c,K2.zero,K2.zero⟩,⟨K2.zero,K2.zero,K2.zero⟩⟩:=(mul_one' _).trans (iu c)
theorem L2(c:K2 n):mo c 1=⟨⟨K2.zero,K2.zero,K2.zero⟩,⟨c,K2.zero,K2.zero⟩⟩:=by rw[Eo,H2,tt,K2.aj]
theorem L3(c:K2 n):mo c 2=⟨⟨K2.zero,c,K2.zero⟩,⟨K2.zero,K2.zero,K2.zero⟩⟩:=by rw[Eo,L2,tt,K2.aj]
theorem H3(c:K2 n):mo c 3=⟨⟨K2.zero,K2.zero,K2.zero⟩,⟨K2.zero,c,K2.zero⟩⟩:=by rw[Eo,L3,tt,K2.aj]
theorem Ry(c:K2 n):mo c 4=⟨⟨K2.zero,K2.zero,c⟩,⟨K2.zero,K2.zero,K2.zero⟩⟩:=by rw[Eo,H3,tt,K2.aj]
theorem Rz(c:K2 n):mo c 5=⟨⟨K2.zero,K2.zero,K2.zero⟩,⟨K2.zero,K2.zero,c⟩⟩:=by rw[Eo,Ry,tt,K2.aj]
theorem UI(c:K2 n):mo c 6=mo (K2.mul K2.xi c) 0:=by rw[Eo,Rz,tt,H2]
omit [NeZero n] in
theorem gc(a b c d e f a' b' c' d' e' f':K2 n):add ⟨⟨a,b,c⟩,⟨d,e,f⟩⟩ ⟨⟨a',b',c'⟩,⟨d',e',f'⟩⟩=⟨⟨K2.add a a',K2.add b b',K2.add c c'⟩,⟨K2.add d d',K2.add e e',K2.add f f'⟩⟩:=by
 unfold add T6.add;rfl
theorem RB(x:T12 n):x=add (add (add (add (add (mo x.a.a 0) (mo x.b.a 1)) (mo x.a.b 2)) (mo x.b.b 3)) (mo x.a.c 4)) (mo x.b.c 5):=by
 rw[H2,L2,L3,H3,Ry,Rz,gc,gc,gc,gc,gc]
 simp only[K2.add_zero',K2.aM]
theorem U3:CR.pw (w:T12 n) 6=e2 K2.xi:=by
 have h:=UI (K2.one:K2 n)
 rw[mo,z3,K2.mul_one']at h
 exact(CR.aR _).symm.trans (h.trans (CR.mul_one' _))
theorem tK(hp:P3 n){m:Nat}(hm:n=6*m+1)(c:K2 n)(k:Nat):CR.pw (mo c k) n=mo (K2.mul (K2.conj c) (K2.pw (K2.pw K2.xi m) k)) k:=by
 have hw:CR.pw (w:T12 n) n=mul (e2 (K2.pw K2.xi m)) w:=by
  have:∀N,N=6*m+1→CR.pw (w:T12 n) N=mul (e2 (K2.pw K2.xi m)) w:=by
   rintro N rfl
   rw[CR.li,CR.bN,U3,Cs];rfl
  exact this n hm
 show CR.pw (CR.mul _ _) n=_
 rw[CR.ef,Cs,K2.Uo hp,← CR.bN,Nat.mul_comm,CR.bN,hw]
 show CR.mul _ (CR.pw (CR.mul _ _) k)=_
 rw[CR.ef,Cs,← CR.mul_assoc',mo,gR];rfl
theorem RN(k:Nat):(CR.ofN k:T12 n)=e2 (CR.ofN k):=by
 induction k with
 | zero=>exact uP.symm
 | succ k ih=>
  rw[CR.lq,CR.lq,ih]
  show add (e2 (CR.ofN k)) one=e2 (K2.add (CR.ofN k) K2.one)
  rw[← z3,iu,iu,iu,gc]
  simp only[K2.add_zero']
theorem RM(k:Nat):(CR.ofN k:K2 n)=⟨κ n k,0⟩:=by
 induction k with
 | zero=>unfold CR.ofN;show K2.zero=_;unfold K2.zero;rfl
 | succ k ih=>
  rw[CR.lq,ih]
  show K2.add _ K2.one=_
  unfold K2.add K2.one
  exact K2.ext' (by rw[fL,κ_1]) (show(0:Fin n)+0=0 by grind)
theorem UM:(CR.ofN n:T12 n)=zero:=by
 have h:(CR.ofN n:K2 n)=K2.zero:=by rw[RM,κ_n];unfold K2.zero;rfl
 rw[RN,h,uP]
include tw
theorem nj(x y:T12 n):CR.pw (add x y) n=add (CR.pw x n) (CR.pw y n):=by
 by_cases hy:y=zero
 ·subst hy
  have h0:CR.pw (zero:T12 n) n=zero:=CR.wq tw.p3.1.pos
  have ha:∀x:T12 n,add x zero=x:=CR.add_zero'
  rw[h0,ha,ha]
 ·exact CR.qL tw.p3.1 UM x (aI tw hy)
theorem rC{m:Nat}(hm:n=6*m+1)(x:T12 n):CR.pw x n=frb (K2.pw K2.xi m) x:=by
 conv=>lhs;rw[RB x]
 have hp:=tw.p3
 rw[nj tw,nj tw,nj tw,nj tw,nj tw,tK hp hm,tK hp hm,tK hp hm,tK hp hm,tK hp hm,tK hp hm]
 generalize (K2.pw K2.xi m:K2 n)=g
 rw[H2,L2,L3,H3,Ry,Rz,gc,gc,gc,gc,gc]
 simp only[K2.add_zero',K2.aM,K2.AM]
 have h0:K2.pw g 0=K2.one:=rfl
 rw[h0,K2.mul_one']
 rfl
end T12
end Go.Proofs.YtndhfbecpghinaaGreat.L.Kf
