/- What the proof of the statement about TopApart stands on, part C. Conditions: as each statement says. -/
import Derived.Test.YtndhfbecpghinaaGreatTopApartB
import Derived.Laws.StructEq
import Derived.Tactics
import Derived.Test.YtndhfbecpghinaaGreatProg
namespace Go.Proofs.YtndhfbecpghinaaGreat.L
open Go Go.Proofs
set_option maxRecDepth 100000
section
attribute [local irreducible] Code.wp wpList Af bodyPost L.Go
open Num
attribute [local simp] ae
def p:Nat:=4002409555221667393417789825735904156556882819939007885332058136124031650490837864442687629129015664037894272559787
theorem fe:Pr.aU p:=Pr.MJ
theorem bZ:0<p:=by decide +kernel
theorem lS:p<W^6:=by decide +kernel
theorem OI:4*p<W^6:=by decide +kernel
theorem Ve:([13402431016077863595,2210141511517208575,7435674573564081700,7239337960414712511,5412103778470702295,1873798617647539866]:List Nat)=D 6 p:=by decide +kernel
attribute [irreducible] p
theorem oW(a:Nat):a%p<W^6:=Nat.lt_trans (Nat.mod_lt _ bZ) lS
theorem wD{a b:Nat}(ha:a<W^6)(hb:b<W^6):(D 6 a=D 6 b)=(a=b):=by
 refine propext ⟨fun h=>?_,fun h=>by rw[h]⟩
 have:=BC h
 rwa [Nat.mod_eq_of_lt ha,Nat.mod_eq_of_lt hb]at this
theorem cM{a b:Prop}(k:b)(h:Rm b→a:=by intro k;refine ar (v:=LV .u64 (List.replicate 6 0)) (by rfl) (by rfl) ?_;exact k.h):a:=h ⟨k⟩
theorem Mt:Spec Tryz.prog 79 [] ai [] (IsV (LV .u64 (D 6 p))):=by
 refine ad Tryz.func79 rfl rfl rfl fun w _=>?_
 repeat (first|(refine cM ?_;intro _)|refine bk (kk:=.u64) (vs:=[13402431016077863595,2210141511517208575,7435674573564081700,7239337960414712511,5412103778470702295,1873798617647539866]) (by rfl) (by rfl) (by rfl) (by rfl) (by rfl) (by rfl) (by rfl) (by rfl) ?_|refine Z03 ?_|refine Z04 ?_|refine Z05 ?_|refine Z06 ?_|refine Z07 ?_|refine Z08 ?_|refine Z09 ?_|refine Z10 ?_|refine Z11 ?_|refine Z12 ?_|refine Z13 ?_|refine Z14 ?_|refine Z29 ?_|refine Z30 ?_|refine Z31 ?_|refine Z32 ?_|refine Z82 fun _=>?_)
 refine Zec fun _ hw=>aa hw SubW.nil ⟨?_,rfl⟩
 rw[← Ve];rfl
theorem KZ{a b:Prop}(k:b)(h:Rm b→a:=by intro k;refine af (by rfl) (by rfl) (by rfl) (Mt) (fun _ _=>trivial) (by rfl) ?_;exact k.h):a:=h ⟨k⟩
theorem K3{a b:Prop}(k:b)(h:Rm b→a:=by intro k;(first|refine Z01 ?_|refine Z02 ?_|refine Z15 ?_|refine Z17 ?_|refine Z18 ?_|refine Z19 ?_|refine Z22 ?_|refine Z23 ?_);exact k.h):a:=h ⟨k⟩
theorem TE{a b:Prop}(k:b)(h:Rm b→a:=by intro k;(first|refine Z24 ?_|refine Z26 ?_|refine Z27 ?_|refine Z67 ?_|refine Z23 ?_);exact k.h):a:=h ⟨k⟩
theorem sB{a b:Prop}(k:b)(h:Rm b→a:=by intro k;(first|refine Z01 ?_|refine Z02 ?_|refine Z03 ?_|refine Z04 ?_|refine Z05 ?_|refine Z06 ?_|refine Z07 ?_|refine Z08 ?_|refine Z09 ?_|refine Z10 ?_|refine Z11 ?_|refine Z12 ?_|refine Z13 ?_|refine Z14 ?_|refine Z15 ?_|refine Z17 ?_|refine Z18 ?_|refine Z19 ?_|refine Z22 ?_|refine Z23 ?_|refine Z24 ?_|refine Z26 ?_|refine Z27 ?_|refine Z29 ?_|refine Z30 ?_|refine Z31 ?_|refine Z32 ?_|refine Z67 ?_);exact k.h):a:=h ⟨k⟩
theorem PG{a b:Prop}(k:b)(h:Rm b→a:=by intro k;(first|refine KZ ?_|refine Z01 ?_|refine Z02 ?_|refine Z03 ?_|refine Z04 ?_|refine Z05 ?_|refine Z06 ?_|refine Z07 ?_|refine Z08 ?_|refine Z09 ?_|refine Z10 ?_|refine Z11 ?_|refine Z12 ?_|refine Z13 ?_|refine Z14 ?_|refine Z15 ?_|refine Z17 ?_|refine Z18 ?_|refine Z19 ?_|refine Z22 ?_|refine Z23 ?_|refine Z24 ?_|refine Z26 ?_|refine Z27 ?_|refine Z29 ?_|refine Z30 ?_|refine Z31 ?_|refine Z32 ?_|refine Z67 ?_);exact k.h):a:=h ⟨k⟩
theorem DF{a b:Prop}(k:b)(h:Rm b→a:=by intro k;(first|refine y_8 ?_|refine Z01 ?_|refine Z02 ?_|refine Z03 ?_|refine Z04 ?_|refine Z05 ?_|refine Z06 ?_|refine Z07 ?_|refine Z08 ?_|refine Z09 ?_|refine Z10 ?_|refine Z11 ?_|refine Z12 ?_|refine Z13 ?_|refine Z14 ?_|refine Z15 ?_|refine Z17 ?_|refine Z18 ?_|refine Z19 ?_|refine Z22 ?_|refine Z23 ?_|refine Z24 ?_|refine Z26 ?_|refine Z27 ?_|refine Z29 ?_|refine Z30 ?_|refine Z31 ?_|refine Z32 ?_|refine Z67 ?_);exact k.h):a:=h ⟨k⟩
theorem KE{a b:Prop}(k:b)(h:Rm b→a:=by intro k;refine Zqp (by intro _ _ _;(first|refine TE ?_);exact Zq) ?_;exact k.h):a:=h ⟨k⟩
theorem PH{a b:Prop}(k:b)(h:Rm b→a:=by intro k;(first|refine y_5 ?_|refine Z01 ?_|refine Z02 ?_|refine Z03 ?_|refine Z04 ?_|refine Z05 ?_|refine Z06 ?_|refine Z07 ?_|refine Z08 ?_|refine Z09 ?_|refine Z10 ?_|refine Z11 ?_|refine Z12 ?_|refine Z13 ?_|refine Z14 ?_|refine Z15 ?_|refine Z17 ?_|refine Z18 ?_|refine Z19 ?_|refine Z22 ?_|refine Z23 ?_|refine Z24 ?_|refine Z26 ?_|refine Z27 ?_|refine Z29 ?_|refine Z30 ?_|refine Z31 ?_|refine Z32 ?_|refine Z67 ?_);exact k.h):a:=h ⟨k⟩
theorem ux{a b:Prop}(k:b)(h:Rm b→a:=by intro k;(first|refine KE ?_|refine fq ?_|refine Zqn ?_);exact k.h):a:=h ⟨k⟩
set_option maxHeartbeats 2000000 in
theorem gY{a c:Nat}(ha:a<W^6)(hc:c≤1):Spec Tryz.prog 100 [LV .u64 (D 6 a),N .u64 c] ai [] (IsV (LV .u64 (D 6 (iZ 6 p a c)))):=by
 refine ad Tryz.func100 rfl rfl rfl fun w _=>?_
 have hla:=ae 6 a
 have hlr:=ae 6 p
 repeat (first|(refine cM ?_;intro _)|refine PG ?_|refine Z81 fun _=>?_|refine Z82 fun _=>?_)
 rename_i b2 b4 b5 b6
 refine az (ι:=Nat) (fun i=>i≤6) (fun i=>[(1,N .u64 c),(2,pt b2 0),(4,pt b4 0),(5,pt b5 0),(6,pt b6 0),(7,N .u64 (cp gp (D 6 a) (D 6 p) i).2),(10,N .i64 i)])
  (fun i=>[.blk b6 (LV .u64 ((cp gp (D 6 a) (D 6 p) i).1++List.replicate (6-i) 0)) 32,.blk b2 (LV .u64 (D 6 a)) 32,.blk b5 (LV .u64 (D 6 p)) 32,.blk b4 (LV .u64 (List.replicate 6 0)) 32]) (fun i=>6-i) 0 (by omega) (by rw[iK];exact sbq) (by rw[iK];exact sw) ?_
 intro i hi
 have hc1:=jm 6 a p i
 have hl:=gT gp (D 6 a) (D 6 p) i
 have hol:((cp gp (D 6 a) (D 6 p) i).1++List.replicate (6-i) 0).length=6:=by simp;omega
 by_cases h:i<6
 ·repeat (first|refine DF ?_|refine Z81 fun _=>?_|refine Z82 fun _=>?_)
  refine au (by rfl) ?_
  repeat (first|(refine Zqf (by intro _ _ _;(first|refine hO (by rfl) (by rfl) (by rfl) (wn _ _ _ hc1) (by rfl) ?_|refine K3 ?_);exact Zq) ?_)|refine ux ?_)
  refine Zq0 ?_ (by kernel_rfl)
  rw[← r6,← r7,← gU,Gq gp (D 6 a) (D 6 p) i 6 h]
  repeat (first|refine sB ?_|refine Z81 fun _=>?_|refine Z82 fun _=>?_)
  exact ao (i+1) (by omega) (by omega) sbq sw
 ·have hie:i=6:=by omega
  subst hie
  rw[nU ha lS]at *
  simp only at *
  have he:=HY (k:=6) (A:=a) lS hc
  repeat (first|refine PH ?_|refine Z81 fun _=>?_|refine Z82 fun _=>?_)
  refine an (by rfl) (fun hb=>?_) (fun hb=>?_)
  ·rw[if_pos hb]at he
   repeat (first|refine sB ?_|refine Z81 fun _=>?_|refine Z82 fun _=>?_)
   refine Zec fun _ hw=>aa hw SubW.nil ⟨?_,rfl⟩
   rw[he]
  ·rw[if_neg hb]at he
   have hl2:=ae 6 (sbn 6 a p)
   repeat (first|refine sB ?_|refine Z81 fun _=>?_|refine Z82 fun _=>?_)
   refine Zec fun _ hw=>aa hw SubW.nil ⟨?_,rfl⟩
   rw[Nat.sub_self,List.replicate_zero,List.append_nil,he]
theorem TF{a b:Prop}(k:b)(h:Rm b→a:=by intro k;(first|refine Z03 ?_|refine Z04 ?_|refine Z05 ?_|refine Z06 ?_|refine Z07 ?_|refine Z08 ?_|refine Z09 ?_|refine Z10 ?_|refine Z11 ?_|refine Z12 ?_|refine Z13 ?_|refine Z14 ?_|refine Z24 ?_|refine Z26 ?_|refine Z27 ?_|refine Z29 ?_|refine Z30 ?_|refine Z31 ?_|refine Z32 ?_|refine Z67 ?_|refine Z77 ?_|refine Z78 ?_|refine Z79 ?_);exact k.h):a:=h ⟨k⟩
theorem bS{a:Nat}(ha:a<W^6):Spec Tryz.prog 98 [LV .u64 (D 6 a)] ai [] (IsV (LV .u64 (D 6 (a%p)))):=by
 refine ad Tryz.func98 rfl rfl rfl fun w _=>?_
 have hla:=ae 6 a
 repeat (first|(refine cM ?_;intro _)|refine TF ?_|refine Z81 fun _=>?_|refine Z82 fun _=>?_)
 rename_i b1 b2
 refine az (ι:=Nat) (fun x=>x<W^6∧x%p=a%p) (fun _=>[(1,pt b1 0),(2,pt b2 0)])
  (fun x=>[.blk b1 (LV .u64 (D 6 x)) 32,.blk b2 (LV .u64 (List.replicate 6 0)) 32]) (fun x=>x) a ⟨ha,rfl⟩ sbq sw ?_
 rintro x ⟨hx,hxa⟩
 have hlx:=ae 6 x
 by_cases h:x<p
 ·have hv:iZ 6 p x 0=x:=by unfold iZ;rw[if_pos (by omega)]
  repeat (first|(refine cM ?_;intro _)|(refine af (by rfl) (by rfl) (by rfl) (gY hx (Nat.zero_le 1)) (fun _ _=>trivial) (by rfl) ?_;rw[hv])|rw[decide_eq_true (p:=D 6 x=D 6 x) rfl]|refine TF ?_|refine Z81 fun _=>?_|refine Z82 fun _=>?_)
  refine Zec fun _ hw=>aa hw SubW.nil ⟨?_,rfl⟩
  rw[← hxa,Nat.mod_eq_of_lt h]
 ·have hv:iZ 6 p x 0=x-p:=by unfold iZ;rw[if_neg (by omega),Nat.zero_mul,Nat.add_zero]
  have hl2:=ae 6 (x-p)
  have hrp:=bZ
  have hne:decide (D 6 (x-p)=D 6 x)=false:=decide_eq_false (by rw[wD (by omega) hx];omega)
  repeat (first|(refine cM ?_;intro _)|(refine af (by rfl) (by rfl) (by rfl) (gY hx (Nat.zero_le 1)) (fun _ _=>trivial) (by rfl) ?_;rw[hv])|rw[hne]|refine TF ?_|refine Z81 fun _=>?_|refine Z82 fun _=>?_)
  exact ao (x-p) ⟨by omega,by rw[← hxa,← Nat.mod_eq_sub_mod (by omega)]⟩ (by omega) sbq sw
theorem bT{S1 a b:Prop}(s1:S1)(k:b)(h:S1→Rm b→a:=by intro s1 k;refine Zqp (by intro _ _ _;refine af (by rfl) (by rfl) (by rfl) s1 (fun _ _=>trivial) (by rfl) ?_;exact Zq) ?_;exact k.h):a:=h s1 ⟨k⟩
set_option maxHeartbeats 2000000 in
theorem tE{a b:Nat}(ha:a<W^6)(hb:b<W^6):Spec Tryz.prog 49 [LV .u64 (D 6 a),LV .u64 (D 6 b)] ai [] (IsV (LV .u64 (D 6 ((a+b)%p)))):=by
 refine ad Tryz.func49 rfl rfl rfl fun w _=>?_
 have hl0:=fun x=>ae 6 x
 have hm:(a%p+b%p)%p=(a+b)%p:=(Nat.add_mod _ _ _).symm
 have hA:=Nat.mod_lt a bZ
 have hB:=Nat.mod_lt b bZ
 repeat (first|(refine cM ?_;intro _)|refine sB ?_|refine Z81 fun _=>?_|refine Z82 fun _=>?_)
 refine au (by rfl) ?_
 repeat (first|(refine Zqf (by intro _ _ _;(first|refine K3 ?_);exact Zq) ?_)|refine bT (bS ha) ?_|refine bT (bS hb) ?_|refine ux ?_)
 refine Zq0 ?_ (by kernel_rfl)
 generalize a%p=A at *
 generalize b%p=B at *
 repeat (first|refine sB ?_|refine Z81 fun _=>?_|refine Z82 fun _=>?_)
 rename_i b2 b3 b4
 refine az (ι:=Nat) (fun i=>i≤6) (fun i=>[(2,pt b2 0),(3,pt b3 0),(4,pt b4 0),(5,N .u64 (cp iQ (D 6 A) (D 6 B) i).2),(11,N .i64 i)])
  (fun i=>[.blk b2 (LV .u64 ((cp iQ (D 6 A) (D 6 B) i).1++(D 6 A).drop i)) 32,.blk b3 (LV .u64 (D 6 B)) 32,.blk b4 (LV .u64 (List.replicate 6 0)) 32]) (fun i=>6-i) 0 (by omega) (by rw[iK];exact sbq) (by rw[iK];exact sw) ?_
 intro i hi
 have hc1:=mC 6 A B i
 have hl:=gT iQ (D 6 A) (D 6 B) i
 have hla:=hl0 A
 have hol:((cp iQ (D 6 A) (D 6 B) i).1++(D 6 A).drop i).length=6:=by simp;omega
 have hdg:=jY (xs:=D 6 A) hl
 by_cases h:i<6
 ·repeat (first|refine DF ?_|refine Z81 fun _=>?_|refine Z82 fun _=>?_)
  refine au (by rfl) ?_
  repeat (first|(refine Zqf (by intro _ _ _;(first|refine hO (by rfl) (by rfl) (by rfl) (zV _ _ _ hc1) (by rfl) ?_|refine K3 ?_);exact Zq) ?_)|refine ux ?_)
  refine Zq0 ?_ (by kernel_rfl)
  rw[hdg,← wM,← wN,← gU,kF iQ (D 6 A) (D 6 B) i (by omega)]
  repeat (first|refine sB ?_|refine Z81 fun _=>?_|refine Z82 fun _=>?_)
  exact ao (i+1) (by omega) (by omega) sbq sw
 ·have hie:i=6:=by omega
  subst hie
  have hrl:=lS
  have hdr:(D 6 A).drop 6=[]:=List.drop_eq_nil_of_le (by omega)
  rw[sU (by omega) (by omega),hdr,List.append_nil]at *
  simp only at *
  have hS:(A+B)/W^6≤1:=by
   have:(A+B)/W^6<2:=Nat.div_lt_of_lt_mul (by omega)
   omega
  have he:=Ez (k:=6) (m:=p) (S:=A+B) (by omega) lS
  have hD:D 6 (A+B)=D 6 ((A+B)%W^6):=(mj _ _).symm
  rw[hD]
  repeat (first|refine y_5 ?_|(refine af (by rfl) (by rfl) (by rfl) (gY (Nat.mod_lt _ (bP 6)) hS) (fun _ _=>trivial) (by rfl) ?_;rw[he])|refine sB ?_|refine Z81 fun _=>?_|refine Z82 fun _=>?_)
  refine Zec fun _ hw=>aa hw SubW.nil ⟨?_,rfl⟩
  rw[hm]
theorem Wp{a b:Prop}(k:b)(h:Rm b→a:=by intro k;(first|refine Z01 ?_|refine Z02 ?_|refine Z03 ?_|refine Z04 ?_|refine Z05 ?_|refine Z06 ?_|refine Z07 ?_|refine Z08 ?_|refine Z09 ?_|refine Z10 ?_|refine Z11 ?_|refine Z12 ?_|refine Z13 ?_|refine Z14 ?_|refine Z19 ?_|refine Z24 ?_|refine Z26 ?_|refine Z27 ?_|refine Z29 ?_|refine Z30 ?_|refine Z31 ?_|refine Z32 ?_|refine Z62 ?_|refine Z63 ?_|refine Z66 ?_|refine Z67 ?_);exact k.h):a:=h ⟨k⟩
theorem A1(s:Value)(xs:List Nat)(hx:Lt 18446744073709551616 xs)(hl:xs.length<1000000):
  Spec Tryz.prog 39 [s] (fun w=>Rd w s (xs.map (N .u64))) [] (IsV (LV .u64 (D 6 (V xs%p)))):=by
 refine ad Tryz.func39 rfl rfl rfl fun w hr=>?_
 have hr:=RdC.mk0 hr
 have hrl:=ae 6 p
 have hv:=eU lS
 have hml:=ae 6 (V xs%p)
 have htk:(D 6 (V xs%p)).take 6=D 6 (V xs%p):=List.take_of_length_le (by omega)
 repeat (first|(refine cM ?_;intro _)|refine KZ ?_|(refine ax (by rfl) (by rfl) (by rfl) (xW s _ xs (D 6 p) hx (dv _ _) hl (by omega)) .nil (fun w hw=>⟨RdW.old hr w hw,RdW.arrAll (m:=6) fd hrl w hw⟩) (by rfl) ?_;rintro _ _ (⟨hz,_,_⟩ | ⟨_,u,rfl,rfl⟩);exact absurd hz (by rw[hv];exact Nat.ne_of_gt bZ);rw[hv,hrl])|rw[htk]|refine Wp ?_|refine Z82 fun _=>?_)
 refine Zec fun _ hw=>aa hw SubW.nil ⟨?_,rfl⟩
 rfl
def fel(b:List Nat):List Nat:=D 6 (bA (b.take 64)%p)++D 6 (bA ((b.take 128).drop 64)%p)
def j1(b:List Nat):Nat→List (List Nat)
 | 0=>[]
 | i+1=>j1 b i++[fel (b.drop (128*i))]
theorem BZ(b:List Nat):fel b=D 6 (bA (b.take 64)%p)++D 6 (bA ((b.take 128).drop 64)%p):=rfl
theorem B0(b:List Nat):(fel b).length=12:=by simp[fel]
theorem Rc(b:List Nat):j1 b 0=[]:=rfl
theorem sZ(b:List Nat)(i:Nat):j1 b (i+1)=j1 b i++[fel (b.drop (128*i))]:=rfl
theorem j2(b:List Nat)(i:Nat):(j1 b i).length=i:=by
 induction i with
 | zero=>rfl
 | succ i ih=>rw[j1,List.length_append,ih];rfl
theorem sX(b:List Nat)(i:Nat):∀v∈j1 b i,v.length=12:=by
 induction i with
 | zero=>intro v hv;cases hv
 | succ i ih=>
  intro v hv
  rcases List.mem_append.1 hv with hv | hv
  ·exact ih v hv
  ·rw[List.mem_singleton.1 hv];exact B0 _
theorem qJ{l:List (List Nat)}(h:∀v∈l,v.length=12):l.flatten.length=l.length*12:=by
 induction l with
 | nil=>rfl
 | cons a r ih=>
  rw[List.flatten_cons,List.length_append,ih fun v hv=>h v (List.mem_cons_of_mem _ hv),h a (List.mem_cons_self ..),List.length_cons]
  omega
theorem sY(b:List Nat)(i:Nat):(j1 b i).flatten.length=(j1 b i).length*12:=qJ (sX b i)
theorem qE(b:List Nat):∀{k i:Nat},i<k→(j1 b k)[i]?=some (fel (b.drop (128*i)))
 | 0,_,h=>by omega
 | k+1,i,h=>by
  rw[sZ]
  rcases Nat.lt_or_ge i k with h2 | h2
  ·rw[List.getElem?_append_left (by rw[j2];exact h2)]
   exact qE b h2
  ·have:i=k:=by omega
   subst this
   rw[List.getElem?_append_right (by rw[j2];exact Nat.le_refl _),j2,Nat.sub_self]
   rfl
theorem w64{bs:List Nat}(h:Lt 256 bs)(hl:bs.length=64):V (D 8 (bA bs))=bA bs:=by
 refine eU ?_
 have:=uG h
 rw[hl]at this
 exact this
theorem CN(s:Value)(bs:List Nat)(h:Lt 256 bs)(hl:bs.length=64):Spec Tryz.prog 39 [s] (fun w=>Rd w s ((D 8 (bA bs)).map (N .u64))) [] (IsV (LV .u64 (D 6 (bA bs%p)))):=by
 have:=A1 s (D 8 (bA bs)) (dv _ _) (by rw[ae];decide)
 rwa [w64 h hl]at this
attribute [irreducible] fel j1
end
section
attribute [local irreducible] Code.wp wpList Af bodyPost L.Go
open Num
attribute [local simp] ae aD
theorem NP{a b:Prop}(k:b)(h:Rm b→a:=by intro k;(first|refine Z01 ?_|refine Z02 ?_|refine Z03 ?_|refine Z04 ?_|refine Z05 ?_|refine Z06 ?_|refine Z07 ?_|refine Z08 ?_|refine Z09 ?_|refine Z10 ?_|refine Z11 ?_|refine Z12 ?_|refine Z13 ?_|refine Z14 ?_|refine Z15 ?_|refine Z16 ?_|refine Z17 ?_|refine Z18 ?_|refine Z20 ?_|refine Z21 ?_|refine Z22 ?_|refine Z23 ?_|refine Z29 ?_|refine Z30 ?_|refine Z31 ?_|refine Z32 ?_|refine Z36 ?_|refine Z37 ?_|refine Z38 ?_|refine Z42 ?_|refine Z44 ?_|refine Z45 ?_|refine Z60 ?_|refine Z71 ?_|refine Z74 ?_);exact k.h):a:=h ⟨k⟩
set_option maxHeartbeats 1000000 in
theorem oY(s:Value)(xs:List Nat)(n:Nat)(hx:Lt 18446744073709551616 xs)(hl:xs.length<16777216)(hn:n<16777216):
  Spec Tryz.prog 74 [s,N .i64 n] (fun w=>Rd w s (xs.map (N .u64))) [] (fun v Wr=>Wr=[.sl v ((bq (V xs) n).map (N .u8)) 5]):=by
 refine ad Tryz.func74 rfl rfl rfl fun w hr=>?_
 have hr:=RdC.mk0 hr
 have hm0:max n 0=n:=Nat.max_eq_left (Nat.zero_le _)
 have hol:=aD (V xs) n
 have hal:(bq (V xs) n).length=(List.replicate n 0).length:=by rw[hol,List.length_replicate]
 repeat (first|rw[hm0]|refine NP ?_|refine Z83 fun _=>?_)
 rename_i u
 rw[List.length_replicate]
 refine az (ι:=Nat) (fun i=>i≤n) (fun i=>[(0,s),(1,N .i64 n),(5,u),(12,N .i64 n),(13,N .i64 i)]) (fun i=>[.sl u ((Sha.js (bq (V xs) n) (List.replicate n 0) i).map (N .u8)) 5]) (fun i=>n-i) 0 (by omega) sbq (by rw[Sha.vx];exact sw) ?_
 intro i hi
 have hml:=Sha.mT hal i
 rw[List.length_replicate]at hml
 repeat (first|refine NP ?_|refine Z83 fun _=>?_)
 refine an (by rfl) (fun h=>?_) (fun h=>?_)
 ·have hwb:=FP (V xs) (n-1-i)
  rw[← cR hx]at hwb
  repeat (first|refine af (by rfl) (by rfl) (by rfl) (pF s xs ((n-1-i)/8) (by omega)) (RdW.old hr) (by rfl) ?_|refine ii (by rfl) (by rfl) (show 8*((n-1-i)%8)≤64 by omega) (by rfl) ?_|refine NP ?_|refine Z83 fun _=>?_)
  rw[hwb,← ot _ _ _ h,Sha.mU hal (by simp;omega)]
  exact ao (i+1) (by omega) (by omega) sbq sw
 ·have hie:i=n:=by omega
  subst hie
  rw[show Sha.js (bq (V xs) i) (List.replicate i 0) i=bq (V xs) i by have:=Sha.mS hal;rwa [List.length_replicate]at this]
  repeat (first|refine NP ?_|refine Z83 fun _=>?_)
  exact Ze1 fun _ hw=>aa hw (Wout:=[.sl u ((bq (V xs) i).map (N .u8)) 5]) (by exact sw) rfl
theorem kX{bs:List Nat}(h:Lt 256 bs):bA bs<Num.W^((bs.length+7)/8):=by
 refine Nat.lt_of_lt_of_le (uG h) ?_
 rw[qh,← Nat.pow_mul]
 exact Nat.pow_le_pow_right (by decide) (by omega)
theorem RC(Y k:Nat):hi8 Y k≤Y:=by unfold hi8;omega
theorem K4{a b:Prop}(k:b)(h:Rm b→a:=by intro k;(first|refine Z01 ?_|refine Z02 ?_|refine Z03 ?_|refine Z04 ?_|refine Z05 ?_|refine Z06 ?_|refine Z07 ?_|refine Z08 ?_|refine Z09 ?_|refine Z10 ?_|refine Z11 ?_|refine Z12 ?_|refine Z13 ?_|refine Z14 ?_|refine Z15 ?_|refine Z16 ?_|refine Z17 ?_|refine Z18 ?_|refine Z20 ?_|refine Z21 ?_|refine Z22 ?_|refine Z23 ?_|refine Z24 ?_|refine Z26 ?_|refine Z27 ?_|refine Z29 ?_|refine Z30 ?_|refine Z31 ?_|refine Z32 ?_|refine Z36 ?_|refine Z37 ?_|refine Z38 ?_|refine Z41 ?_|refine Z43 ?_|refine Z44 ?_|refine Z45 ?_|refine Z67 ?_|refine Z71 ?_|refine Z74 ?_);exact k.h):a:=h ⟨k⟩
set_option maxHeartbeats 1000000 in
theorem ik(s:Value)(bs:List Nat)(hb:Lt 256 bs)(hl:bs.length<16777216):
  Spec Tryz.prog 40 [s] (fun w=>Rd w s (bs.map (N .u8))) [] (fun v Wr=>Wr=[.sl v ((D ((bs.length+7)/8) (bA bs)).map (N .u64)) 30]):=by
 refine ad Tryz.func40 rfl rfl rfl fun w hr=>?_
 have hr:=RdC.mk0 hr
 have hfit:=kX hb
 obtain⟨n,hn⟩:∃n,n=(bs.length+7)/8:=⟨_,rfl⟩
 rw[← hn]at hfit
 repeat (first|refine K4 ?_|refine Z83 fun _=>?_)
 rename_i u
 rw[← hn]
 refine az (ι:=Nat) (fun i=>i≤bs.length) (fun i=>[(0,s),(3,u),(12,s),(13,N .i64 bs.length),(14,N .i64 i)]) (fun i=>[.sl u ((D n (hi8 (bA bs) (bs.length-i))).map (N .u64)) 30]) (fun i=>bs.length-i) 0 (by omega) sbq (by rw[Nat.sub_zero,LS (uG hb),nS];exact sw) ?_
 intro i hi
 have hDl:=ae n (hi8 (bA bs) (bs.length-i))
 repeat (first|refine K4 ?_|refine Z83 fun _=>?_)
 refine an (by rfl) (fun h=>?_) (fun h=>?_)
 ·obtain⟨k,hk⟩:∃k,k=bs.length-1-i:=⟨_,rfl⟩
  have hk1:bs.length-i=k+1:=by omega
  rw[hk1]at hDl ⊢
  have hbi:=hb.getD (by decide) i
  have hdig:=z3 hb h
  rw[← hk]at hdig
  obtain⟨p1,p2,p3⟩:=I0 (bA bs) k n (Nat.lt_of_le_of_lt (RC _ _) hfit) (by omega)
  rw[hdig]at p1 p2 p3
  have hwd:=zQ n (hi8 (bA bs) (k+1)) (k/8) (by omega)
  have hkl:k/8<n:=by omega
  have hxm:bs.getD i 0%18446744073709551616=bs.getD i 0:=Nat.mod_eq_of_lt (by omega)
  have p1':hi8 (bA bs) (k+1)/Num.W^(k/8)%Num.W%18446744073709551616 ||| (bs.getD i 0%18446744073709551616) <<< (8*(k%8))%18446744073709551616%18446744073709551616=hi8 (bA bs) (k+1)/Num.W^(k/8)%Num.W+bs.getD i 0*256^(k%8):=by
   rw[hxm,Nat.mod_mod,Nat.mod_eq_of_lt (a:=hi8 (bA bs) (k+1)/Num.W^(k/8)%Num.W) (b:=18446744073709551616) (show _<18446744073709551616 from Nat.mod_lt _ mv)];exact p1
  repeat (first|rw[← hk]|refine K4 ?_|refine Z83 fun _=>?_)
  refine au (by rfl) ?_
  repeat (first|(refine Zqf (by intro _ _ _;(first|refine Z01 ?_|refine Z02 ?_|refine Z15 ?_|refine Z16 ?_|refine Z17 ?_|refine Z18 ?_|refine Z20 ?_|refine Z21 ?_|refine Z22 ?_|refine Z23 ?_|refine Z36 ?_|refine Z37 ?_|refine Z38 ?_|refine Z41 ?_|refine Z43 ?_|refine Z44 ?_|refine Z45 ?_|refine Z71 ?_|refine Z74 ?_);exact Zq) ?_)|refine zJ ?_|refine fq ?_|refine Zqn ?_)
  refine Zq0 ?_ (by kernel_rfl)
  rw[hwd,p1',← p3]
  repeat (first|refine K4 ?_|refine Z83 fun _=>?_)
  refine ao (i+1) (by omega) (by omega) sbq ?_
  rw[show bs.length-(i+1)=k by omega]
  exact sw
 ·have hie:i=bs.length:=by omega
  subst hie
  rw[Nat.sub_self,US]
  repeat (first|refine K4 ?_|refine Z83 fun _=>?_)
  refine Ze1 fun _ hw=>aa hw (Wout:=[.sl u ((D n (bA bs)).map (N .u64)) 30]) ?_ rfl
  exact sw
end
end Go.Proofs.YtndhfbecpghinaaGreat.L
namespace Go.Proofs.YtndhfbecpghinaaGreat.L.R
open Go Go.Proofs
section
variable {P:Program} {c:Cx} {n:Nn} {os:List Oper} {K:Act→World→Prop} {E:En} {W:List Res} {l:Sl} {i d:Nat} {o:Oper} {rest:List Nat}
theorem T8{xs xs':List Value}{T T':TypeId}(n1 n2:List Nat){j d':Nat}{o':Oper}(ho:os[i]?=some o)(ho':os[j]?=some o')(h:OpC P c n W (fun v=>[.sl v xs T]) d (bR os.toArray o l) (noG o))(h':OpC P c n W (fun v=>[.sl v xs' T']) d' (bR os.toArray o' l) (noG o'))
  (hr:∀v,QF P c n os K (E++[(i,.alc)]) (.sl v xs T::W) ((d,v)::l) n1) (hr':∀v,QF P c n os K (E++[(j,.alc)]) (.sl v xs' T'::W) ((d',v)::l) n2)
  (hij:Nat.beq i j=false:=by rfl) (hi:iv i E=true:=by rfl) (hi':iv j E=true:=by rfl) (hd:o.dst=some d:=by rfl) (hd':o'.dst=some d':=by rfl) (hn:Nat.blt d n.sz=true:=by rfl) (hn':Nat.blt d' n.sz=true:=by rfl)
  (hg:bO os.toArray l o=some true:=by rfl) (hg':bO os.toArray l o'=some true:=by rfl)
  (hc:iu os (E++[(i,.alc)])=true:=by rfl) (hc':iu os (E++[(j,.alc)])=true:=by rfl) (hdesc:f4 os [i,j] rest E=true:=by rfl):QF P c n os K E W l (i::j::rest):=by
 have hne:¬j=i:=fun h=>by subst h;rw[Nat.beq_refl]at hij;cases hij
 refine QF.nd (is:=[i,j]) (nx:=fun k=>if k=i then n1 else n2) (o:=fun k=>if k=i then o else o') (Φ:=fun k u W'=>if k=i then ∃v,u=some (d,v)∧W' = .sl v xs T::W else ∃v,u=some (d',v)∧W' = .sl v xs' T'::W)
  (kd:=fun _=>.alc) (by simp) (two hi hi') (two ?_ ?_) (two hc hc') hdesc (two ?_ ?_) (two ?_ ?_) (two ?_ ?_) (two ?_ ?_)
 ·simp only[if_true];exact ho
 ·simp only[if_neg hne];exact ho'
 ·simp only[if_true]
  intro u W' ⟨b,hu,hW⟩;subst hu;exact⟨hd,fun q hq=>by rw[hd]at hq;cases hq;exact hn,.inr ⟨by trivial,[_],hW⟩⟩
 ·simp only[if_neg hne]
  intro u W' ⟨b,hu,hW⟩;subst hu;exact⟨hd',fun q hq=>by rw[hd']at hq;cases hq;exact hn',.inr ⟨by trivial,[_],hW⟩⟩
 ·simp only[if_true];exact hg
 ·simp only[if_neg hne];exact hg'
 ·simp only[if_true]
  exact fun w0 m hw a w ha hw'=>bC (h w0 m hw a w ha hw') rfl (fun _ _ _ h=>h.1) fun a w ⟨h1,b,h2,h3⟩=>⟨h1,some (d,b),_,⟨b,rfl,rfl⟩,h2,h3⟩
 ·simp only[if_neg hne]
  exact fun w0 m hw a w ha hw'=>bC (h' w0 m hw a w ha hw') rfl (fun _ _ _ h=>h.1) fun a w ⟨h1,b,h2,h3⟩=>⟨h1,some (d',b),_,⟨b,rfl,rfl⟩,h2,h3⟩
 ·simp only[if_true]
  intro u W' ⟨b,hu,hW⟩;subst hu;subst hW
  exact hr b
 ·simp only[if_neg hne]
  intro u W' ⟨b,hu,hW⟩;subst hu;subst hW
  exact hr' b
end
end Go.Proofs.YtndhfbecpghinaaGreat.L.R
namespace Go.Proofs.YtndhfbecpghinaaGreat.L
open Go Go.Proofs
set_option maxRecDepth 100000
def ab{α:Type}(ys:List α)(off m:Nat)(zs:List α):Prop:=∃pre post,ys=pre++zs++post∧pre.length=off∧zs.length=m
theorem ab.l{α:Type}{xs ys:List α}{m:Nat}(h:xs.length=m):ab (xs++ys) 0 m xs:=⟨[],ys,rfl,rfl,h⟩
theorem ab.r{α:Type}{xs ys:List α}{off m:Nat}(h:xs.length=off)(h2:ys.length=m):ab (xs++ys) off m ys:=⟨xs,[],by simp,h,h2⟩
theorem ab.all{α:Type}{xs:List α}{m:Nat}(h:xs.length=m):ab xs 0 m xs:=⟨[],[],by simp,rfl,h⟩
theorem ab.inl{α:Type}{xs ys zs:List α}{off m:Nat}(h:ab xs off m zs):ab (xs++ys) off m zs:=by
 obtain⟨p,q,rfl,h1,h2⟩:=h
 exact⟨p,q++ys,by simp,h1,h2⟩
theorem ab.inr{α:Type}{xs ys zs:List α}{off m:Nat}(h:ab ys off m zs):ab (xs++ys) (xs.length+off) m zs:=by
 obtain⟨p,q,rfl,h1,h2⟩:=h
 exact⟨xs++p,q,by simp,by simp[h1],h2⟩
theorem ab.map{α β:Type}{ys zs:List α}{off m:Nat}(f:α→β)(h:ab ys off m zs):ab (ys.map f) off m (zs.map f):=by
 obtain⟨p,q,rfl,h1,h2⟩:=h
 exact⟨p.map f,q.map f,by simp,by simp[h1],by simp[h2]⟩
theorem ab.get{α:Type}{ys zs:List α}{off m:Nat}(h:ab ys off m zs):∀j v,zs[j]?=some v→ys[off+j]?=some v:=by
 obtain⟨p,q,rfl,rfl,rfl⟩:=h
 intro j v hj
 rw[List.append_assoc,List.getElem?_append_right (by omega),Nat.add_sub_cancel_left]
 have hl:j<zs.length:=(List.getElem?_eq_some_iff.1 hj).1
 rw[List.getElem?_append_left hl];exact hj
theorem ab.ext{α:Type}{ys zs:List α}{off m:Nat}(h:ab ys off m zs):(ys.toArray.extract off (off+m))=zs.toArray:=by
 obtain⟨p,q,rfl,rfl,rfl⟩:=h
 simp
def Hc(P:Program)(T:TypeId)(i:Nat):Option (Nat×Nat):=match P.underlying T with
 | some (.struct fs)=>match fs[i]? with
  | some f=>match ay P f.type with
   | some s=>some (f.offset,s)
   | none=>none
  | none=>none
 | _=>none
theorem Ao{P:Program}{T:TypeId}{i o s:Nat}(h:Hc P T i=some (o,s)):∃fs f,P.underlying T=some (.struct fs)∧fs[i]?=some f∧f.offset=o∧ay P f.type=some s:=by
 unfold Hc at h
 split at h
 ·rename_i fs h1
  split at h
  ·rename_i f h2
   split at h
   ·rename_i s' h3
    simp at h
    exact⟨fs,f,h1,h2,h.1,by rw[h3,h.2]⟩
   ·cases h
  ·cases h
 ·cases h
theorem xn(off:Nat):∀(vs old:List Value)(s:Nat)(pre post:List Value),old.length=vs.length→pre.length=off+s →
  (vs.zipIdx s).foldl (fun(cs:Array Value)(x:Value×Nat)=>cs.setIfInBounds (off+x.2) x.1) (pre++old++post).toArray=(pre++vs++post).toArray
 | [],[],s,pre,post,_,_=>by simp
 | v::vs,o::old,s,pre,post,hl,hp=>by
  simp only[List.zipIdx_cons,List.foldl_cons]
  have e:((pre++o::old++post).toArray.setIfInBounds (off+s) v)=((pre++[v])++old++post).toArray:=by
   rw[← hp]
   simp[List.setIfInBounds_toArray]
  rw[e,xn off vs old (s+1) (pre++[v]) post (by simpa using hl) (by simp;omega)]
  simp
 | [],_::_,_,_,_,hl,_=>by simp at hl
 | _::_,[],_,_,_,hl,_=>by simp at hl
theorem kI{place:Nat→Option (Nat×Nat)}{i:Nat}{v:Value}{rest:List (Nat×Value)}{pre old post:List Value}(hp:place i=some (pre.length,old.length))(hv:v.cells.size=old.length):
  Instr.fill place (pre++old++post).toArray ((i,v)::rest)=Instr.fill place (pre++v.cells.toList++post).toArray rest:=by
 simp only[Instr.fill,hp]
 rw[if_neg (by simp[hv])]
 congr 1
 have:=xn pre.length v.cells.toList old 0 pre post (by simp[hv]) rfl
 rw[← this,← Array.foldl_toList,Array.toList_zipIdx]
section
variable {P:Program} {c:Cx} {n:Nn} {l:Sl} {W:List Res} {ops:Array Oper} {Q:Exit→Act→World→Prop} {rest:List Oper}
variable {d:Nat} {T:TypeId} {pos:String} {after:Array Edge}
theorem oH{x:Operand}{b off o s i:Nat}{t:TypeId}(hx:ev l x=some (pt b off))(hf:Hc P t i=some (o,s))(hs:Nat.blt 0 s=true)(hn:Nat.blt d n.sz=true)
  (hk:Go c n ((d,pt b (off+o))::l) W (wpList P ops Q rest)):Go c n l W (wpList P ops Q (⟨some d,.fieldAddr t x i,T,pos,after,none⟩::rest)):=
 aw rfl rfl hn (fun a w ha hw=>by
  obtain⟨fs,f,h1,h2,rfl,h4⟩:=Ao hf
  have hs0:¬s=0:=by have:=Nat.le_of_ble_eq_true hs;omega
  simp[execOp,ha.ev hx,Instr.fieldAt,Instr.sureAddr,run_underlying h1,h2,fieldPlace,aq h4,hs0,pt,Addr.add]) hk
theorem bH{x:Operand}{b off m:Nat}{k:IntKind}{ys zs:List Nat}{E U:TypeId}{R:List Res}(hx:ev l x=some (pt b off))(hf:Find W (.blk b (LV k ys) U) R)(hs:cD P E=true)(hz:ay P E=some m)
  (hp:ab ys off m zs) (hn:Nat.blt d n.sz=true)
  (hk:Go c n ((d,LV k zs)::l) W (wpList P ops Q rest)):Go c n l W (wpList P ops Q (⟨some d,.load E x,T,pos,after,none⟩::rest)):=
 aw rfl rfl hn (fun a w ha hw=>by
  have hh:w.heap[b]?=some (.cells (ys.map (N k)).toArray U (0,0)):=hw.holds _ hf.mem
  have hl:zs.length=m:=by obtain⟨_,_,_,_,h⟩:=hp;exact h
  have:=cc (P:=P) (w:=w) (b:=b) (off:=off) (cs:=zs.map (N k)) hs (by simpa[hl]using hz) hh (fun j v hv=>by
   have:=(hp.map (N k)).get j v hv
   simpa using this)
  simp[execOp,ha.ev hx,Instr.loadAt,Instr.sureAddr,this,LV]) hk
def jT(P:Program):List Field→Option (List (Nat×Nat))
 | []=>some []
 | f::fs=>match ay P f.type,jT P fs with
  | some s,some r=>some ((f.offset,s)::r)
  | _,_=>none
def plF(f:Field):Sem (Nat×Nat):=do pure (f.offset,← sizeOf f.type)
theorem Je{w:World}:∀{fs:List Field}{pl:List (Nat×Nat)},jT P fs=some pl→(fs.mapM plF).run P w = .ok pl w
 | [],pl,h=>by simp[jT]at h;subst h;simp
 | f::fs,pl,h=>by
  simp only[jT]at h
  split at h
  ·rename_i s r h1 h2
   simp at h;subst h
   simp[List.mapM_cons,plF,aq h1,Je h2]
  ·cases h
theorem CX{w:World}{fs:Array Field}{pl:List (Nat×Nat)}(h:jT P fs.toList=some pl):(fs.mapM plF).run P w = .ok pl.toArray w:=by
 rw[Array.mapM_eq_mapM_toList]
 simp[Je h]
inductive FillsN (pl:List (Nat×Nat)):List Nat→List (Nat×List Nat)→List Nat→Prop
 | nil {ys:List Nat}:FillsN pl ys [] ys
 | cons {pre old post zs out:List Nat} {i:Nat} {rest:List (Nat×List Nat)} (hp:pl[i]?=some (pre.length,old.length)) (hz:zs.length=old.length) (h:FillsN pl (pre++zs++post) rest out):
   FillsN pl (pre++old++post) ((i,zs)::rest) out
theorem Re{pl:List (Nat×Nat)}{k:IntKind}{ys out:List Nat}{ps:List (Nat×List Nat)}(h:FillsN pl ys ps out):
  Instr.fill (pl.toArray[·]?) (ys.map (N k)).toArray (ps.map fun p=>(p.1,LV k p.2))=some (out.map (N k)).toArray:=by
 induction h with
 | nil=>rfl
 | cons hp hz h ih=>
  rename_i pre old post zs out i rest
  have e:=kI (place:=(pl.toArray[·]?)) (i:=i) (v:=LV k zs) (rest:=rest.map fun p=>(p.1,LV k p.2)) (pre:=pre.map (N k)) (old:=old.map (N k)) (post:=post.map (N k)) (by simpa using hp) (by simpa[LV,Value.cells]using hz)
  simp only[List.map_append,List.map_cons]at ih ⊢
  rw[e]
  simpa[LV,Value.cells]using ih
theorem eF{t:TypeId}{fs:Array Field}{pl:List (Nat×Nat)}{k:IntKind}{z out:List Nat}{is:List Nat}{xs:List Operand}{vs:List (List Nat)}(ht:P.underlying t=some (.struct fs))(hpl:jT P fs.toList=some pl)(hz:cH P t=some (LV k z))
  (hv:evs l xs=some (vs.map (LV k))) (hf:FillsN pl z (is.zip vs) out) (hn:Nat.blt d n.sz=true)
  (hk:Go c n ((d,LV k out)::l) W (wpList P ops Q rest)):Go c n l W (wpList P ops Q (⟨some d,.build t (is.zip xs).toArray,T,pos,after,none⟩::rest)):=
 aw rfl rfl hn (fun a w ha hw=>by
  have he:((is.zip xs).map fun(p:Nat×Operand)=>(p.1,a.eval p.2))=(is.zip vs).map fun p=>(p.1,LV k p.2):=by
   have h1:xs.map a.eval=vs.map (LV k):=ha.evs hv
   have h2:(is.zip xs).map (fun(p:Nat×Operand)=>(p.1,a.eval p.2))=is.zip (xs.map a.eval):=by rw[List.zip_map_right];rfl
   have h3:(is.zip vs).map (fun(p:Nat×List Nat)=>(p.1,LV k p.2))=is.zip (vs.map (LV k)):=by rw[List.zip_map_right];rfl
   rw[h2,h1,h3]
  have hpp:(fs.mapM fun(f:Field)=>(do let s ← sizeOf f.type;pure (f.offset,s):Sem (Nat×Nat))).run P w = .ok pl.toArray w:=CX hpl
  have hff:=Re (k:=k) hf
  rw[← he]at hff
  simp only[execOp,Instr.build,Sem.run_bind,run_underlying ht,cn hz,hpp,Result.andThen_ok,List.map_toArray,Value.cells,LV]
  rw[hff]
  rfl) hk
theorem cC{t:TypeId}{fs:Array Field}{m:Nat}{k:IntKind}{xs ys:List Nat}{x y:Operand}(ht:P.underlying t=some (.struct fs))(hpl:jT P fs.toList=some [(0,m),(m,m)])(hz:cH P t=some (LV k (List.replicate (m+m) 0)))
  (hv:evs l [x,y]=some [LV k xs,LV k ys]) (h1:xs.length=m) (h2:ys.length=m) (hn:Nat.blt d n.sz=true)
  (hk:Go c n ((d,LV k (xs++ys))::l) W (wpList P ops Q rest)):Go c n l W (wpList P ops Q (⟨some d,.build t #[(0,x),(1,y)],T,pos,after,none⟩::rest)):=
 eF (is:=[0,1]) (xs:=[x,y]) (vs:=[xs,ys]) ht hpl hz hv (by
  have e:List.replicate (m+m) 0=[]++List.replicate m 0++List.replicate m 0:=by rw[List.nil_append,List.replicate_append_replicate]
  rw[e]
  refine .cons (by simp) (by simpa using h1) ?_
  rw[List.nil_append,← List.append_nil (xs++List.replicate m 0)]
  refine .cons (by simp[h1]) (by simpa using h2) ?_
  rw[List.append_nil];exact .nil) hn hk
theorem eo{t:TypeId}{fs:Array Field}{m:Nat}{k:IntKind}{xs:List Nat}{x:Operand}(ht:P.underlying t=some (.struct fs))(hpl:jT P fs.toList=some [(0,m),(m,m)])(hz:cH P t=some (LV k (List.replicate (m+m) 0)))
  (hv:evs l [x]=some [LV k xs]) (h1:xs.length=m) (hn:Nat.blt d n.sz=true)
  (hk:Go c n ((d,LV k (xs++List.replicate m 0))::l) W (wpList P ops Q rest)):Go c n l W (wpList P ops Q (⟨some d,.build t #[(0,x)],T,pos,after,none⟩::rest)):=
 eF (is:=[0]) (xs:=[x]) (vs:=[xs]) ht hpl hz hv (by
  have e:List.replicate (m+m) 0=[]++List.replicate m 0++List.replicate m 0:=by rw[List.nil_append,List.replicate_append_replicate]
  rw[e]
  refine .cons (by simp) (by simpa using h1) ?_
  exact .nil) hn hk
theorem rU{t:TypeId}{fs:Array Field}{m:Nat}{k:IntKind}{ys:List Nat}{y:Operand}(ht:P.underlying t=some (.struct fs))(hpl:jT P fs.toList=some [(0,m),(m,m)])(hz:cH P t=some (LV k (List.replicate (m+m) 0)))
  (hv:evs l [y]=some [LV k ys]) (h1:ys.length=m) (hn:Nat.blt d n.sz=true)
  (hk:Go c n ((d,LV k (List.replicate m 0++ys))::l) W (wpList P ops Q rest)):Go c n l W (wpList P ops Q (⟨some d,.build t #[(1,y)],T,pos,after,none⟩::rest)):=
 eF (is:=[1]) (xs:=[y]) (vs:=[ys]) ht hpl hz hv (by
  have e:List.replicate (m+m) 0=List.replicate m 0++List.replicate m 0++[]:=by rw[List.append_nil,List.replicate_append_replicate]
  rw[e]
  refine .cons (by simp) (by simpa using h1) ?_
  rw[List.append_nil];exact .nil) hn hk
theorem jE{t:TypeId}{fs:Array Field}{pl:List (Nat×Nat)}{k:IntKind}{z:List Nat}(ht:P.underlying t=some (.struct fs))(hpl:jT P fs.toList=some pl)(hz:cH P t=some (LV k z))(hn:Nat.blt d n.sz=true)
  (hk:Go c n ((d,LV k z)::l) W (wpList P ops Q rest)):Go c n l W (wpList P ops Q (⟨some d,.build t #[],T,pos,after,none⟩::rest)):=
 eF (is:=[]) (xs:=[]) (vs:=[]) ht hpl hz rfl .nil hn hk
theorem fG(D:Nat){w:World}{t:TypeId}{f0 f1:Field}{k:IntKind}{m:Nat}{E:TypeId}(ht:P.underlying t=some (.struct #[f0,f1]))(hst:P.stoodInHeld t=false)(hn0:(f0.name != "_")=true)(hn1:(f1.name != "_")=true)
  (h0:P.underlying f0.type=some (.array m E)) (h1:P.underlying f1.type=some (.array m E)) (hs0:ay P f0.type=some m) (hs1:ay P f1.type=some m) (ho0:f0.offset=0) (ho1:f1.offset=m)
  (hE:P.underlying E=some (.int k)) (hz:ay P E=some 1) {xs ys us vs:List Nat} (hx:xs.length=m) (hy:ys.length=m) (hu:us.length=m) (hv:vs.length=m):
  (Op.equalIn (D+3) t (LV k (xs++ys)) (LV k (us++vs))).run P w = .ok (decide (xs=us)&&decide (ys=vs)) w:=by
 have hf:P.fieldsOf t = #[f0,f1]:=by unfold Program.fieldsOf;rw[ht]
 have e:=run_equalIn_struct (P:=P) w (D+2) t ((xs++ys).map (N k)).toArray ((us++vs).map (N k)).toArray (by rw[hf];exact ht) hst
 rw[hf]at e
 simp only[LV]
 rw[e]
 have a0:cD P f0.type=true:=by unfold cD;rw[h0]
 have a1:cD P f1.type=true:=by unfold cD;rw[h1]
 have p0:∀(zs ts:List Nat),zs.length=m→(part f0.type ((zs++ts).map (N k)).toArray f0.offset).run P w = .ok (LV k zs) w:=fun zs ts hz=>by
  have he:=((ab.l (ys:=ts) hz).map (N k)).ext
  rw[Nat.zero_add]at he
  simp only[part,Sem.run_bind,bV a0,Result.andThen_ok,if_true,aq hs0,ho0,Nat.zero_add,he,Sem.run_pure,LV]
 have p1:∀(zs ts:List Nat),zs.length=m→ts.length=m→(part f1.type ((zs++ts).map (N k)).toArray f1.offset).run P w = .ok (LV k ts) w:=fun zs ts hz ht=>by
  have he:=((ab.r (xs:=zs) hz ht).map (N k)).ext
  simp only[part,Sem.run_bind,bV a1,Result.andThen_ok,if_true,aq hs1,ho1,he,Sem.run_pure,LV]
 have q0:=ew (w:=w) D h0 hE hz xs us hx hu
 have q1:=ew (w:=w) D h1 hE hz ys vs hy hv
 have n0:f0.name ≠ "_":=by simpa using hn0
 have n1:f1.name ≠ "_":=by simpa using hn1
 simp only[Op.eqFields,if_pos n0,if_pos n1,Sem.run_bind,p0 xs ys hx,p0 us vs hu,p1 xs ys hx hy,p1 us vs hu hv,Result.andThen_ok,q0,q1,Sem.run_ite,Sem.run_pure]
 cases decide (xs=us) <;> cases decide (ys=vs) <;> rfl
theorem Jz{t:TypeId}{f0 f1:Field}{k:IntKind}{m:Nat}{E yt:TypeId}{x y:Operand}{xs ys us vs:List Nat}(hx:ev l x=some (LV k (xs++ys)))(hy:ev l y=some (LV k (us++vs)))(ht:P.underlying t=some (.struct #[f0,f1]))(hst:P.stoodInHeld t=false)(hn0:(f0.name != "_")=true)(hn1:(f1.name != "_")=true)
  (h0:P.underlying f0.type=some (.array m E)) (h1:P.underlying f1.type=some (.array m E)) (hs0:ay P f0.type=some m) (hs1:ay P f1.type=some m) (ho0:f0.offset=0) (ho1:f1.offset=m)
  (hE:P.underlying E=some (.int k)) (hz:ay P E=some 1) (hg:P.eqGuardType P.depth t=false) (l1:xs.length=m) (l2:ys.length=m) (l3:us.length=m) (l4:vs.length=m) (hn:Nat.blt d n.sz=true)
  (hk:Go c n ((d,.bool (decide (xs=us)&&decide (ys=vs)))::l) W (wpList P ops Q rest)):Go c n l W (wpList P ops Q (⟨some d,.binOp .eql t x y yt,T,pos,after,none⟩::rest)):=
 aw rfl rfl hn (fun a w ha _=>by
  have q1:=fG 9997 (w:=w) ht hst hn0 hn1 h0 h1 hs0 hs1 ho0 ho1 hE hz l1 l2 l3 l4
  have q2:=run_eqGuard_agg (P:=P) w .eql t x y ((xs++ys).map (N k)).toArray ((us++vs).map (N k)).toArray hg
  have q3:=run_eql_struct (P:=P) w t ((xs++ys).map (N k)).toArray ((us++vs).map (N k)).toArray
  simp only[LV]at q1 hx hy
  rw[q1]at q3
  simp only[execOp,ha.ev hx,ha.ev hy,Sem.run_bind,q2,Result.andThen_ok,q3,Sem.run_pure]) hk
theorem JD{t:TypeId}{f0 f1:Field}{k:IntKind}{m:Nat}{E yt:TypeId}{x y:Operand}{xs ys us vs:List Nat}(hx:ev l x=some (LV k (xs++ys)))(hy:ev l y=some (LV k (us++vs)))(ht:P.underlying t=some (.struct #[f0,f1]))(hst:P.stoodInHeld t=false)(hn0:(f0.name != "_")=true)(hn1:(f1.name != "_")=true)
  (h0:P.underlying f0.type=some (.array m E)) (h1:P.underlying f1.type=some (.array m E)) (hs0:ay P f0.type=some m) (hs1:ay P f1.type=some m) (ho0:f0.offset=0) (ho1:f1.offset=m)
  (hE:P.underlying E=some (.int k)) (hz:ay P E=some 1) (hg:P.eqGuardType P.depth t=false) (l1:xs.length=m) (l2:ys.length=m) (l3:us.length=m) (l4:vs.length=m) (hn:Nat.blt d n.sz=true)
  (hk:Go c n ((d,.bool (!(decide (xs=us)&&decide (ys=vs))))::l) W (wpList P ops Q rest)):Go c n l W (wpList P ops Q (⟨some d,.binOp .neq t x y yt,T,pos,after,none⟩::rest)):=
 aw rfl rfl hn (fun a w ha _=>by
  have q1:=fG 9997 (w:=w) ht hst hn0 hn1 h0 h1 hs0 hs1 ho0 ho1 hE hz l1 l2 l3 l4
  have q2:=run_eqGuard_agg (P:=P) w .neq t x y ((xs++ys).map (N k)).toArray ((us++vs).map (N k)).toArray hg
  have q3:=run_neq_struct (P:=P) w t ((xs++ys).map (N k)).toArray ((us++vs).map (N k)).toArray
  simp only[LV]at q1 hx hy
  rw[q1]at q3
  simp only[execOp,ha.ev hx,ha.ev hy,Sem.run_bind,q2,Result.andThen_ok,q3,Sem.run_pure]) hk
theorem Nh{r:Bool}{t:TypeId}{f0 f1:Field}{k:IntKind}{m:Nat}{E yt:TypeId}{x y:Operand}{xs ys us vs:List Nat}(hx:ev l x=some (LV k (xs++ys)))(hy:ev l y=some (LV k (us++vs)))(ht:P.underlying t=some (.struct #[f0,f1]))(hst:P.stoodInHeld t=false)(hn0:(f0.name != "_")=true)(hn1:(f1.name != "_")=true)
  (h0:P.underlying f0.type=some (.array m E)) (h1:P.underlying f1.type=some (.array m E)) (hs0:ay P f0.type=some m) (hs1:ay P f1.type=some m) (ho0:f0.offset=0) (ho1:f1.offset=m)
  (hE:P.underlying E=some (.int k)) (hz:ay P E=some 1) (hg:P.eqGuardType P.depth t=false) (hr:(decide (xs=us)&&decide (ys=vs))=r) (l1:xs.length=m) (l2:ys.length=m) (l3:us.length=m) (l4:vs.length=m) (hn:Nat.blt d n.sz=true)
  (hk:Go c n ((d,.bool r)::l) W (wpList P ops Q rest)):Go c n l W (wpList P ops Q (⟨some d,.binOp .eql t x y yt,T,pos,after,none⟩::rest)):=
 Jz hx hy ht hst hn0 hn1 h0 h1 hs0 hs1 ho0 ho1 hE hz hg l1 l2 l3 l4 hn (by rw[hr];exact hk)
theorem Da{r:Bool}{t:TypeId}{f0 f1:Field}{k:IntKind}{m:Nat}{E yt:TypeId}{x y:Operand}{xs ys us vs:List Nat}(hx:ev l x=some (LV k (xs++ys)))(hy:ev l y=some (LV k (us++vs)))(ht:P.underlying t=some (.struct #[f0,f1]))(hst:P.stoodInHeld t=false)(hn0:(f0.name != "_")=true)(hn1:(f1.name != "_")=true)
  (h0:P.underlying f0.type=some (.array m E)) (h1:P.underlying f1.type=some (.array m E)) (hs0:ay P f0.type=some m) (hs1:ay P f1.type=some m) (ho0:f0.offset=0) (ho1:f1.offset=m)
  (hE:P.underlying E=some (.int k)) (hz:ay P E=some 1) (hg:P.eqGuardType P.depth t=false) (hr:(decide (xs=us)&&decide (ys=vs))=r) (l1:xs.length=m) (l2:ys.length=m) (l3:us.length=m) (l4:vs.length=m) (hn:Nat.blt d n.sz=true)
  (hk:Go c n ((d,.bool (!r))::l) W (wpList P ops Q rest)):Go c n l W (wpList P ops Q (⟨some d,.binOp .neq t x y yt,T,pos,after,none⟩::rest)):=
 JD hx hy ht hst hn0 hn1 h0 h1 hs0 hs1 ho0 ho1 hE hz hg l1 l2 l3 l4 hn (by rw[hr];exact hk)
end
def eM(w:World)(b:Nat)(v:Value)(U:TypeId):Prop:=w.heap[b]?=some (.cells v.cells U (0,0))
structure OldB (c:Cx) (b:Nat) (v:Value) (U:TypeId):Prop where
 has:eM c.w0 b v U
 out:b∉c.S
theorem eM.lt{w:World}{b:Nat}{v:Value}{U:TypeId}(h:eM w b v U):b<w.heap.size:=by
 rcases Nat.lt_or_ge b w.heap.size with h1 | h1
 ·exact h1
 ·unfold eM at h;rw[Array.getElem?_eq_none h1]at h;cases h
theorem OldB.mk0{w:World}{b:Nat}{v:Value}{U:TypeId}(h:eM w b v U):OldB ⟨w,fps []⟩ b v U:=⟨h,by simp[fps]⟩
theorem OldB.now{c:Cx}{b:Nat}{v:Value}{U:TypeId}{W:List Res}(h:OldB c b v U):∀w,SatW c W w→eM w b v U:=fun w hw=>by
 have:=hw.ext.block b h.has.lt h.out
 unfold eM
 rw[this];exact h.has
theorem OldB.shift{c:Cx}{b:Nat}{v:Value}{U:TypeId}{W:List Res}{w0:World}(h:OldB c b v U)(h0:SatW c W w0):OldB ⟨w0,fps W⟩ b v U:=
 ⟨h.now w0 h0,fun hm=>by
  rcases h0.own b hm with h1 | h1
  ·have:=h.has.lt;omega
  ·exact h.out h1⟩
theorem eM.own{c:Cx}{b:Nat}{v:Value}{U:TypeId}{W R:List Res}(h:Find W (.blk b v U) R):∀w,SatW c W w→eM w b v U:=fun _ hw=>hw.holds _ h.mem
section
variable {P:Program} {c:Cx} {n:Nn} {l:Sl} {W:List Res} {ops:Array Oper} {Q:Exit→Act→World→Prop} {rest:List Oper}
variable {d:Nat} {T:TypeId} {pos:String} {after:Array Edge}
theorem ep{x:Operand}{b off m:Nat}{k:IntKind}{ys zs:List Nat}{E U:TypeId}(hx:ev l x=some (pt b off))(ho:OldB c b (LV k ys) U)(hs:cD P E=true)(hz:ay P E=some m)
  (hp:ab ys off m zs) (hn:Nat.blt d n.sz=true)
  (hk:Go c n ((d,LV k zs)::l) W (wpList P ops Q rest)):Go c n l W (wpList P ops Q (⟨some d,.load E x,T,pos,after,none⟩::rest)):=
 aw rfl rfl hn (fun a w ha hw=>by
  have hh:w.heap[b]?=some (.cells (ys.map (N k)).toArray U (0,0)):=ho.now w hw
  have hl:zs.length=m:=by obtain⟨_,_,_,_,h⟩:=hp;exact h
  have:=cc (P:=P) (w:=w) (b:=b) (off:=off) (cs:=zs.map (N k)) hs (by simpa[hl]using hz) hh (fun j v hv=>by
   have:=(hp.map (N k)).get j v hv
   simpa using this)
  simp[execOp,ha.ev hx,Instr.loadAt,Instr.sureAddr,this,LV]) hk
end
end Go.Proofs.YtndhfbecpghinaaGreat.L
namespace Go.Proofs.YtndhfbecpghinaaGreat.L
open Go Go.Proofs
abbrev slv(b k:Nat):Value:=.slice (some ⟨b,0,none⟩) k k
theorem nZ{kk:IntKind}{m:Nat}:∀(vss:List (List Nat))(i:Nat)(done:List Value),(∀v∈vss,v.length=m)→done.length=i*m →
  Instr.fill (fun i=>some (i*m,m)) (done++List.replicate (vss.length*m) (N kk 0)).toArray ((vss.zipIdx i).map fun p=>(p.2,LV kk p.1))=some (done++vss.flatten.map (N kk)).toArray
 | [],i,done,_,_=>by simp[Instr.fill]
 | v::r,i,done,hv,hd=>by
  have h1:=hv v (List.mem_cons_self ..)
  have ih:=nZ (kk:=kk) (m:=m) r (i+1) (done++v.map (N kk)) (fun u hu=>hv u (List.mem_cons_of_mem _ hu)) (by simp[hd,h1,Nat.add_mul])
  have e:=kI (place:=fun i=>some (i*m,m)) (i:=i) (v:=LV kk v) (rest:=(r.zipIdx (i+1)).map fun p=>(p.2,LV kk p.1)) (pre:=done) (old:=List.replicate m (N kk 0)) (post:=List.replicate (r.length*m) (N kk 0))
   (by simp[hd]) (by simp[LV,Value.cells,h1])
  have hrep:done++List.replicate ((v::r).length*m) (N kk 0)=done++List.replicate m (N kk 0)++List.replicate (r.length*m) (N kk 0):=by
   rw[List.append_assoc,List.replicate_append_replicate]
   congr 2
   rw[List.length_cons,Nat.add_mul,Nat.one_mul,Nat.add_comm]
  rw[hrep,List.zipIdx_cons,List.map_cons,e]
  have hc:(LV kk v).cells.toList=v.map (N kk):=by simp[LV,Value.cells]
  rw[hc,ih]
  simp
section
variable {P:Program} {c:Cx} {n:Nn} {l:Sl} {W:List Res} {ops:Array Oper} {Q:Exit→Act→World→Prop} {rest:List Oper}
variable {d:Nat} {T:TypeId} {pos:String} {after:Array Edge}
theorem lT{a:Act}{kk:IntKind}:∀{ps:List (Nat×Operand)}{i:Nat}{vss:List (List Nat)}(_:SatA n l a)(_:Seq i ps=true)(_:evs l (ps.map (·.2))=some (vss.map (LV kk))),
  (ps.map fun(i,x)=>(i,a.eval x))=(vss.zipIdx i).map fun p=>(p.2,LV kk p.1)
 | [],i,vss,_,_,he=>by
  have:vss=[]:=by
   cases vss with
   | nil=>rfl
   | cons v r=>simp[evs]at he
  subst this;rfl
 | (q,x)::r,i,vss,ha,hs,he=>by
  simp only[Seq,Bool.and_eq_true]at hs
  have hq:=Nat.eq_of_beq_eq_true hs.1
  subst hq
  simp only[List.map_cons,evs]at he
  split at he
  ·rename_i v us hx hr
   cases vss with
   | nil=>simp at he
   | cons v0 vr=>
    simp at he
    obtain⟨h1,h2⟩:=he
    subst h1
    subst h2
    have ih:=lT (ps:=r) (i:=q+1) (vss:=vr) ha hs.2 hr
    simp only[List.map_cons,List.zipIdx_cons,ih,ha.ev hx]
  ·simp at he
theorem BA{kk:IntKind}{m k:Nat}(hm:0<m):(Array.range (k*m)).map (fun j=>(List.replicate m (N kk 0)).toArray[j%(List.replicate m (N kk 0)).toArray.size]!)=(List.replicate (k*m) (N kk 0)).toArray:=by
 apply Array.ext
 ·simp
 ·intro j h1 h2
  have hj:j%m<m:=Nat.mod_lt _ hm
  simp[hj]
theorem av{t E:TypeId}{k m:Nat}{ps:List (Nat×Operand)}{kk:IntKind}{vss:List (List Nat)}(ht:P.underlying t=some (.slice E))(hz:cH P E=some (LV kk (List.replicate m 0)))(hs:ay P E=some m)
  (hm:Nat.blt 0 (k*m)=true) (hq:Seq 0 ps=true) (hl:vss.length=k) (hv:evs l (ps.map (·.2))=some (vss.map (LV kk))) (hlen:∀v∈vss,v.length=m) (hk24:Nat.ble (k*m) 16777216=true) (hn:Nat.blt d n.sz=true)
  (hk:∀b,Go c n ((d,slv b k)::l) (.blk b (LV kk vss.flatten) E::W) (wpList P ops Q rest)):
  Go c n l W (wpList P ops Q (⟨some d,.buildSlice t k ps.toArray,T,pos,after,none⟩::rest)):=
 fi rfl rfl hn (Φ:=fun u V=>∃b,u=slv b k∧V = .blk b (LV kk vss.flatten) E::W)
  (fun a w ha hw=>by
   have hp:=lT ha hq hv
   have hm0:0<k*m:=by simpa[Nat.blt_eq]using hm
   have hmm:0<m:=Nat.pos_of_mul_pos_left hm0
   have hle:¬(16777216<k*m):=by have:=Nat.le_of_ble_eq_true hk24;omega
   have hne:¬(k*m=0):=by omega
   have hfill:=nZ (kk:=kk) (m:=m) vss 0 [] hlen (by simp)
   simp only[List.nil_append]at hfill
   rw[hl]at hfill
   have h0:=BA (kk:=kk) (m:=m) (k:=k) hmm
   refine⟨_,_,_,?_,hw.alloc (o:=.cells (vss.flatten.map (N kk)).toArray E) (r:=.blk w.heap.size (LV kk vss.flatten) E) rfl ?_,_,rfl,rfl⟩
   ·have hz2:(LV kk (List.replicate m 0)).cells=(List.replicate m (N kk 0)).toArray:=by simp[LV,Value.cells]
    simp only[execOp,Instr.buildSlice,Sem.run_bind,run_underlying ht,aq hs,Result.andThen_ok,List.map_toArray,hp]
    simp only[show(2:Nat)^24=16777216 from rfl,gt_iff_lt,if_neg hle,if_neg hne,Sem.run_bind,cn hz,Result.andThen_ok,Sem.run_pure,hz2,h0,hfill]
    simp[newRow,slv]
   ·simp[Res.holds,LV,Value.cells])
  (fun u V ⟨b,hu,hV⟩=>by subst hu;subst hV;exact hk b)
theorem Fs{t E:TypeId}{k m:Nat}{ps:List (Nat×Operand)}{kk:IntKind}{vss:List (List Nat)}(ht:P.underlying t=some (.array k E))(hz:cH P t=some (LV kk (List.replicate (k*m) 0)))(hs:ay P E=some m)
  (hq:Seq 0 ps=true) (hl:vss.length=k) (hv:evs l (ps.map (·.2))=some (vss.map (LV kk))) (hlen:∀v∈vss,v.length=m) (hn:Nat.blt d n.sz=true)
  (hk:Go c n ((d,LV kk vss.flatten)::l) W (wpList P ops Q rest)):
  Go c n l W (wpList P ops Q (⟨some d,.build t ps.toArray,T,pos,after,none⟩::rest)):=
 aw rfl rfl hn (fun a w ha hw=>by
  have hp:=lT ha hq hv
  have hfill:=nZ (kk:=kk) (m:=m) vss 0 [] hlen (by simp)
  simp only[List.nil_append,hl]at hfill
  have hz2:(LV kk (List.replicate (k*m) 0)).cells=(List.replicate (k*m) (N kk 0)).toArray:=by simp[LV,Value.cells]
  simp only[execOp,Instr.build,Sem.run_bind,run_underlying ht,cn hz,aq hs,Result.andThen_ok,List.map_toArray,hp,hz2,hfill]
  rfl) hk
theorem Fu{x y:Operand}{b off len cap i m:Nat}{k:IntKind}{t E:TypeId}(hx:ev l x=some (.slice (some ⟨b,off,none⟩) len cap))(hy:ev l y=some (N k i))(ht:P.underlying t=some (.slice E))(hz:ay P E=some m)(hi:i<len)
  (hn:Nat.blt d n.sz=true) (hk:Go c n ((d,pt b (off+i*m))::l) W (wpList P ops Q rest)):Go c n l W (wpList P ops Q (⟨some d,.indexAddr t x y,T,pos,after,none⟩::rest)):=
 aw rfl rfl hn (fun a w ha hw=>by
  simp[execOp,ha.ev hx,ha.ev hy,Instr.indexAt,asIntOf,run_underlying ht,hi,aq hz,Addr.add]) hk
theorem Bh{x:Operand}{a0:Option Addr}{len cap:Nat}{t E:TypeId}{ts:List TypeId}(hx:ev l x=some (.slice a0 len cap))(ht:P.underlying t=some (.slice E))
  (hn:Nat.blt d n.sz=true) (hk:Go c n ((d,N .i64 len)::l) W (wpList P ops Q rest)):
  Go c n l W (wpList P ops Q (⟨some d,.call { callee:=.builtin .len,args:=#[x],argTypes:=(t::ts).toArray },T,pos,after,none⟩::rest)):=
 aw rfl rfl hn (fun a w ha hw=>by
  simp[execOp,ha.ev hx,resolve,invoke,builtin,Builtin.len_,run_underlying ht,goInt]) hk
theorem gF{fn:Func}{R:Ending→World→Prop}{t u:Tmp}{b b' m m':Nat}{T T' U U':TypeId}{k k':IntKind}{ys ys':List Nat}{R0 R1:List Res}
  (hres:fn.results = #[.cell t T,.cell u T']) (hv:lk l t=some (pt b 0)) (hu:lk l u=some (pt b' 0)) (hf:Find W (.blk b (LV k ys) U) R0) (hf':Find W (.blk b' (LV k' ys') U') R1) (hs:cD P T=true) (hz:ay P T=some m) (hl:ys.length=m)
  (hs':cD P T'=true) (hz':ay P T'=some m') (hl':ys'.length=m')
  (hR:∀w,SatW c W w→R (.returned (.tuple #[LV k ys,LV k' ys'])) w) (hD:n.df=[]:=by rfl):Go c n l W (bodyPost P fn R .ret):=
 t4 hres hv hu hf hf' hs (by subst hl;simpa using hz) hs' (by subst hl';simpa using hz') hR hD
end
theorem ab.nth{α:Type}{m:Nat}:∀{vss:List (List α)}{i:Nat}{zs:List α},(∀v∈vss,v.length=m)→vss[i]?=some zs→ab vss.flatten (i*m) m zs
 | [],i,zs,_,h=>by simp at h
 | v::r,0,zs,hv,h=>by
  simp at h
  subst h
  rw[Nat.zero_mul,List.flatten_cons]
  exact ab.l (hv v (List.mem_cons_self ..))
 | v::r,i+1,zs,hv,h=>by
  have h1:=hv v (List.mem_cons_self ..)
  have ih:=ab.nth (m:=m) (vss:=r) (i:=i) (zs:=zs) (fun u hu=>hv u (List.mem_cons_of_mem _ hu)) (by simpa using h)
  have:=ab.inr (xs:=v) ih
  rw[h1,Nat.add_comm]at this
  rw[List.flatten_cons,Nat.add_mul,Nat.one_mul]
  exact this
end Go.Proofs.YtndhfbecpghinaaGreat.L
namespace Go.Proofs.YtndhfbecpghinaaGreat.L.R
open Go Go.Proofs.YtndhfbecpghinaaGreat.L
section
variable {P:Program} {c:Cx} {n:Nn} {os:List Oper} {K:Act→World→Prop} {E:En} {W:List Res} {l:Sl} {i d:Nat} {o:Oper} {rest:List Nat}
def OpD(P:Program)(c:Cx)(n:Nn)(W:List Res)(G:Nat→Value)(F:Nat→List Res)(d:Nat)(lr:Sl)(o:Oper):Prop:=
 ∀w0 m,SatW c W w0→Go ⟨w0,fps W⟩ n (lr++m) W (wpList P #[] (fun e a w=>e = .normal∧∃b,SatA n ((d,G b)::(lr++m)) a∧SatW ⟨w0,fps W⟩ (F b++W) w) [o])
theorem Zpd{G:Nat→Value}{F:Nat→List Res}(ho:os[i]?=some o)(h:OpD P c n W G F d (bR os.toArray o l) (noG o))(hr:∀b,QF P c n os K (E++[(i,.alc)]) (F b++W) ((d,G b)::l) rest)
  (hi:iv i E=true:=by rfl) (hd:o.dst=some d:=by rfl) (hn:Nat.blt d n.sz=true:=by rfl) (hg:bO os.toArray l o=some true:=by rfl)
  (hc:iu os (E++[(i,.alc)])=true:=by rfl) (hdesc:f4 os [i] rest E=true:=by rfl):QF P c n os K E W l (i::rest):=
 nd1 .alc (Φ:=fun u W'=>∃b,u=some (d,G b)∧W'=F b++W) ho hi hc hdesc (fun u W' ⟨v,hu,hW⟩=>by subst hu;exact⟨hd,fun d' hd'=>by rw[hd]at hd';cases hd';exact hn,.inr ⟨rfl,F v,hW⟩⟩) hg
  (fun w0 m hw a w ha hw'=>bC (h w0 m hw a w ha hw') rfl (fun _ _ _ h=>h.1) fun a w ⟨h1,b,h2,h3⟩=>⟨h1,some (d,G b),F b++W,⟨b,rfl,rfl⟩,h2,h3⟩)
  (fun u W' ⟨v,hu,hW⟩=>by subst hu;subst hW;exact hr v)
theorem dN{b k:Nat}{v:Value}{T:TypeId}{L:Sl}:
  Go c n ((d,slv b k)::L) (.blk b v T::W) (wpList P #[] (fun e a w=>e = .normal∧∃b,SatA n ((d,(fun b=>slv b k) b)::L) a∧SatW c ((fun b=>[.blk b v T]) b++W) w) []):=
 fun _ _ ha hw=>wpList_nil ⟨rfl,b,ha,hw⟩
end
end Go.Proofs.YtndhfbecpghinaaGreat.L.R
namespace Go.Proofs.YtndhfbecpghinaaGreat.L
open Go Go.Proofs
set_option maxRecDepth 100000
def wide(m:Nat):Value→Value
 | .slice a n c=>.slice a (n*m) (c*m)
 | v=>v
theorem zi(m:Nat):wide m (.slice none 0 0) = .slice none 0 0:=by simp[wide]
theorem fJ{m k:Nat}(hm:0<m){s:Value}{a:Option Addr}{cap n:Nat}(h:wide m s = .slice a n cap)(hn:n=k*m):∃c,s = .slice a k c∧cap=c*m:=by
 cases s with
 | slice a0 n0 c0=>
  simp only[wide,Value.slice.injEq]at h
  obtain⟨rfl,h2,rfl⟩:=h
  have:n0=k:=Nat.eq_of_mul_eq_mul_right hm (h2.trans hn)
  subst this
  exact⟨c0,rfl,rfl⟩
 | _=>simp[wide]at h
theorem lX{P:Program}{w:World}{m k c:Nat}{a:Option Addr}{xs:List Value}(h:Rd w (wide m (.slice a k c)) xs)(hk:xs.length=k*m):(Builtin.firstCells m k (.slice a k c)).run P w = .ok xs.toArray w:=by
 obtain⟨a0,cap,he,h1,h2,h3⟩:=h.shape
 simp only[wide,Value.slice.injEq]at he
 obtain⟨rfl,e2,rfl⟩:=he
 cases a with
 | none=>obtain⟨hx,_⟩:=h2 rfl;subst hx;simp[Builtin.firstCells]
 | some a1=>
  have hl:(loadCells a1 xs.length).run P w = .ok xs.toArray w:=
   run_loadCells_list (P:=P) w a1 xs (fun j v hv=>by
    have:=h.cells j v hv
    simpa[wide,ea]using this)
  rw[hk]at hl
  simp[Builtin.firstCells,hl]
theorem nu{P:Program}{w:World}{t E ty:TypeId}{by' m k j c c1:Nat}{base a1:Option Addr}{z:Value}{xs ys:List Value}(hm:0<m)(ht:P.underlying t=some (.slice E))(hz:cH P E=some z)(hs:ay P E=some m)(hb:lI P E=some by')
    (hzc:z.cells.size=m)
    (hS:(Res.sl (wide m (.slice base k c)) xs E).holds w) (hY:Rd w (wide m (.slice a1 j c1)) ys) (hxk:xs.length=k*m) (hyj:ys.length=j*m) (hys:∀v∈ys,v.oneCell'=true) (hj:0<j)
    (hbd:(k+j)*by'≤140737488355328) (h63:k+j<9223372036854775808):
    ∃s' w',(Builtin.append_ #[t,t] ty #[.slice base k c,.slice a1 j c1]).run P w = .ok s' w'∧(Res.sl (wide m s') (xs++ys) E).holds w'∧Ext (Res.sl (wide m (.slice base k c)) xs E).fp w w' ∧
      ((Res.sl (wide m s') (xs++ys) E).fp=(Res.sl (wide m (.slice base k c)) xs E).fp∨((Res.sl (wide m s') (xs++ys) E).fp=[w.heap.size])):=by
  obtain⟨i,hi,hz',hs',hb'⟩:=mN hz hs hb
  have hfY:=fun q=>lX (P:=P) (hY.drew q) hyj
  have hfY0:=lX (P:=P) hY hyj
  have hz0:∀w,(zeroValue E).run P w = .ok z w:=cn hz
  have hty:∀w,(underlying t).run P w = .ok (.slice E) w:=run_underlying ht
  have hti:∀w,(typeInfo E).run P w = .ok i w:=fun w=>by simp[typeInfo,hi]
  have h63i:¬(9223372036854775807<((k:Int)+(j:Int))):=by omega
  have hjm:0<j*m:=Nat.mul_pos hj hm
  by_cases hroom:k+j≤c
  ·
    rcases hS with⟨hs1,hx1⟩ | ⟨b,off,cap',pre,post,fz,hq⟩
    · simp only[wide,Value.slice.injEq]at hs1
      obtain⟨_,_,h3⟩:=hs1
      have:c=0:=by rcases Nat.mul_eq_zero.1 h3 with h | h <;> omega
      omega
    · obtain⟨hv,g1,g2,g3,g4,g5⟩:=hq
      simp only[wide,Value.slice.injEq]at hv
      obtain⟨rfl,hv2,rfl⟩:=hv
      have hroomM:(k+j)*m≤c*m:=Nat.mul_le_mul_right m hroom
      rw[Nat.add_mul,← hxk,← hyj]at hroomM
      have hfit:off+xs.length+ys.length≤(pre++xs++post).toArray.size:=by simp;omega
      have hfz:¬fz.1<fz.2∨(pre++xs++post).length≤fz.1:=by
        by_cases hf:fz.1<fz.2
        · exact .inr (g5 (by omega))
        · exact .inl hf
      have hst:∀(vs:List Value)(i0:Nat)(cur:List Value)(w:World),w.heap[b]?=some (.cells cur.toArray E fz)→cur.length=(pre++xs++post).length→off+xs.length+i0+vs.length≤cur.length→(∀v∈vs,v.oneCell'=true) →
          ∃cur':List Value,(storeCells ⟨b,off+xs.length,none⟩ vs i0).run P w = .ok () (w.setRow b cur'.toArray)∧cur'=cur.take (off+xs.length+i0)++vs++cur.drop (off+xs.length+i0+vs.length):=by
        intro vs
        induction vs with
        | nil=>
          intro i0 cur w hh hl hle h1v
          refine⟨cur,?_,by simp⟩
          rw[setRow_self w b _ E fz hh];rfl
        | cons v r ih=>
          intro i0 cur w hh hl hle h1v
          simp only[List.length_cons]at hle
          have hlt:off+xs.length+i0<cur.length:=by omega
          have hcell:w.cell? ⟨b,off+xs.length+i0,none⟩=some cur[off+xs.length+i0]:=by simp[World.cell?,hh,hlt]
          have hfro:w.frozen? ⟨b,off+xs.length+i0,none⟩=false:=by
            simp only[World.frozen?,hh]
            rcases hfz with h | h
            · simp;omega
            · simp;omega
          have hs1:(store ((⟨b,off+xs.length,none⟩:Addr).add i0) v).run P w = .ok () (w.setRow b (cur.set (off+xs.length+i0) v).toArray):=by
            rw[cz,run_store P w _ v _ (h1v v (by simp)),hcell]
            simp[hfro,setCell_eq_setRow w b _ cur.toArray E fz v hh]
          obtain⟨cur',hr,he⟩:=ih (i0+1) (cur.set (off+xs.length+i0) v) (w.setRow b (cur.set (off+xs.length+i0) v).toArray) (setRow_heap w b _ _ E fz hh) (by simpa using hl) (by simp;omega) (fun u hu=>h1v u (by simp[hu]))
          refine⟨cur',?_,?_⟩
          · simp only[storeCells,Sem.run_bind,hs1,Result.andThen_ok,hr,setRow_setRow]
          · rw[he]
            have e:=list_seg_step cur (off+xs.length+i0) v r (by omega)
            simpa[Nat.add_assoc]using e
      obtain⟨cur',hr,he⟩:=hst ys 0 (pre++xs++post) w g4 rfl (by simp;omega) hys
      have hcur:cur'=pre++(xs++ys)++post.drop ys.length:=by
        rw[he]
        subst g3
        simp only[Nat.add_zero]
        rw[List.take_left' (by simp),show pre.length+xs.length+ys.length=(pre++xs).length+ys.length by simp,List.drop_append]
        simp
      rw[hcur]at hr
      refine⟨.slice (some ⟨b,off,none⟩) (k+j) c,w.setRow b (pre++(xs++ys)++post.drop ys.length).toArray,?_,?_,?_,.inl rfl⟩
      · simp at hr
        rw[hxk]at hr
        simp[Builtin.append_,hty,aq hs,Builtin.lenOf,hfY0,hroom,cz,hr]
      · refine .inr ⟨b,off,c*m,pre,post.drop ys.length,fz,by simp[wide,hxk,hyj,Nat.add_mul],by simpa using hroomM,?_,g3,setRow_heap w b _ _ E fz g4,?_⟩
        · simp;omega
        · intro hf;have:=g5 (by omega);simp at this ⊢;omega
      · exact⟨rfl,rfl,rfl,by simp,fun q _ hq=>setRow_other w b q _ (by simpa[Res.fp,wide]using hq)⟩
  ·
    have hfit:=growslice_fits (need:=k+j) (old:=c) (bytes:=by') (by omega) hbd
    have h48:¬(281474976710656<Builtin.nextslicecap (k+j) c*i.bytes):=by rw[hb'];omega
    have hX:Rd w (wide m (.slice base k c)) xs:=by
      have:=RdW.own (c:=⟨w,(Res.sl (wide m (.slice base k c)) xs E).fp⟩) (W:=[.sl (wide m (.slice base k c)) xs E]) (Find.here)
      refine this w ⟨Ext.refl _ _,by simpa using hS,fun b hb=>.inr (by simpa[fps]using hb),?_⟩
      simp only[fps,List.flatMap_cons,List.flatMap_nil,List.append_nil]
      cases base <;> simp[Res.fp,wide]
    have hfX:=fun q=>lX (P:=P) (hX.drew q) hxk
    have hcut:k+j≤grownCap w (k+j) c E:=by
      simp only[grownCap,Question.cut];omega
    have hzr:∃zs:List Value,Builtin.zeroCells z.cells (grownCap w (k+j) c E-(k+j))=zs.toArray∧zs.length=(grownCap w (k+j) c E-(k+j))*m:=
      ⟨(Builtin.zeroCells z.cells (grownCap w (k+j) c E-(k+j))).toList,by simp,by simp[Builtin.zeroCells,hzc]⟩
    obtain⟨zs,hzs,hzl⟩:=hzr
    have hcm:(grownCap w (k+j) c E-(k+j))*m+(k+j)*m=grownCap w (k+j) c E*m:=by rw[← Nat.add_mul];congr 1;omega
    refine⟨.slice (some ⟨w.heap.size,0,none⟩) (k+j) (grownCap w (k+j) c E),
      { w with drawn:=w.drawn+1,heap:=w.heap.push (.cells (xs++ys++zs).toArray E) },?_,?_,?_,.inr rfl⟩
    · have hfX':(Builtin.firstCells m k (Value.slice base k c)).run P w.drew = .ok xs.toArray w.drew:=by
        have:=hfX (w.drawn+1);simpa using this
      have hfY':(Builtin.firstCells m j (.slice a1 j c1)).run P w.drew = .ok ys.toArray w.drew:=by
        have:=hfY (w.drawn+1);simpa using this
      have hcells:xs.toArray++ys.toArray++Builtin.zeroCells z.cells (grownCap w (k+j) c E-(k+j))=(xs++ys++zs).toArray:=by rw[hzs];simp
      have hres:(Builtin.append_ #[t,t] ty #[Value.slice base k c,.slice a1 j c1]).run P w =
          .ok (.slice (some ⟨w.heap.size,0,none⟩) (k+j) (grownCap w (k+j) c E))
            (w.drew.alloc (.cells (xs.toArray++ys.toArray++Builtin.zeroCells z.cells (grownCap w (k+j) c E-(k+j))) E)):=by
        simp[Builtin.append_,hty,aq hs,Builtin.lenOf,hroom,h63i,h48,hti,Question.forced,hfX',hfY',hz0,newRow,grownCap,-List.append_toArray]
      rw[hcells]at hres
      exact hres
    · have hle:(k+j)*m≤grownCap w (k+j) c E*m:=Nat.mul_le_mul_right m hcut
      rw[Nat.add_mul]at hle hcm
      refine .inr ⟨w.heap.size,0,grownCap w (k+j) c E*m,[],zs,(0,0),by simp[wide,hxk,hyj,Nat.add_mul],by simp[hxk,hyj];exact hle,?_,rfl,?_,by simp⟩
      · simp[hxk,hyj,hzl];omega
      · simp
    · exact⟨rfl,rfl,rfl,by simp,fun q hq _=>by
        show(w.heap.push _)[q]?=_
        rw[Array.getElem?_push,if_neg (by omega)]⟩
section
variable {P:Program} {c:Cx} {n:Nn} {l:Sl} {W:List Res} {ops:Array Oper} {Q:Exit→Act→World→Prop} {rest:List Oper}
variable {d:Nat} {T:TypeId} {pos:String} {after:Array Edge}
theorem kx{x y:Operand}{s y0:Value}{kk:IntKind}{m:Nat}{xss yss:List (List Nat)}{t E:TypeId}{by':Nat}{R:List Res}(hx:ev l x=some s)(hy:ev l y=some y0)(hf:Find W (.sl (wide m s) (xss.flatten.map (N kk)) E) R)(hr:RdW c W (wide m y0) (yss.flatten.map (N kk)))
  (ht:P.underlying t=some (.slice E)) (hz:cH P E=some (LV kk (List.replicate m 0))) (hs:ay P E=some m) (hb:lI P E=some by') (hm:0<m)
  (hxl:xss.flatten.length=xss.length*m) (hyl:yss.flatten.length=yss.length*m) (hj:0<yss.length)
  (hbd:(xss.length+yss.length)*by'≤140737488355328) (h63:xss.length+yss.length<9223372036854775808) (hn:Nat.blt d n.sz=true)
  (hk:∀s',Go c n ((d,s')::l) (.sl (wide m s') ((xss++yss).flatten.map (N kk)) E::R) (wpList P ops Q rest)):
  Go c n l W (wpList P ops Q (⟨some d,.call { callee:=.builtin .append,args:=#[x,y],argTypes:=#[t,t] },T,pos,after,none⟩::rest)):=
 fi rfl rfl hn (Φ:=fun u V=>V = .sl (wide m u) ((xss++yss).flatten.map (N kk)) E::R)
  (fun a w ha hw=>by
   have hY:=hr w hw
   have hX:=RdW.own hf w hw
   have hw:=hw.perm hf.perm
   obtain⟨a0,cap0,he0,_⟩:=hX.shape
   obtain⟨c0,hs0,_⟩:=fJ (k:=xss.length) hm he0 (by rw[List.length_map];exact hxl)
   subst hs0
   obtain⟨a1,cap1,he1,_⟩:=hY.shape
   obtain⟨c1,hs1,_⟩:=fJ (k:=yss.length) hm he1 (by rw[List.length_map];exact hyl)
   subst hs1
   obtain⟨s',w',h2,h3,h4,h5⟩:=nu (P:=P) (ty:=T) hm ht hz hs hb (by simp[LV,Value.cells]) (hw.holds _ (List.mem_cons_self ..)) hY (by rw[List.length_map];exact hxl) (by rw[List.length_map];exact hyl) (by intro v hv;simp only[List.mem_map]at hv;obtain⟨q,_,rfl⟩:=hv;rfl) hj hbd h63
   refine⟨s',w',_,by simp[execOp,ha.ev hx,ha.ev hy,resolve,invoke,builtin,h2],?_,rfl⟩
   have e:(xss++yss).flatten.map (N kk)=xss.flatten.map (N kk)++yss.flatten.map (N kk):=by simp
   rw[e]
   rcases h5 with h5 | h5
   ·exact hw.upd h5 h4 h3
   ·have hlt:=hw.lt
    have hn:=hw.nd
    simp only[fps,List.flatMap_cons]at hn hlt
    obtain⟨n1,n2,n3⟩:=List.nodup_append.1 hn
    refine⟨hw.ext.trans h4 (fun q hq=>hw.own q (by simp only[fps,List.flatMap_cons,List.mem_append];exact .inl hq)),?_,?_,?_⟩
    ·intro r hr
     rcases List.mem_cons.1 hr with rfl | hr
     ·exact h3
     ·exact Res.holds_congr (hw.holds r (List.mem_cons_of_mem _ hr)) fun b hb=>h4.block b (Res.fp_lt (hw.holds r (List.mem_cons_of_mem _ hr)) b hb) fun hb'=>n3 b hb' b (List.mem_flatMap.2 ⟨r,hr,hb⟩) rfl
    ·intro b hb
     simp only[fps,List.flatMap_cons,h5,List.mem_append,List.mem_singleton]at hb
     rcases hb with rfl | hb
     ·exact .inl hw.ext.size
     ·exact hw.own b (by simp only[fps,List.flatMap_cons,List.mem_append];exact .inr hb)
    ·simp only[fps,List.flatMap_cons,h5]
     refine List.nodup_append.2 ⟨by simp,n2,fun p hp q hq=>?_⟩
     simp only[List.mem_singleton]at hp;subst hp
     have:=hlt q (List.mem_append.2 (.inr hq));omega)
  (fun u V hV=>by subst hV;exact hk u)
theorem iD{φ:Act→World→Prop}(m:Nat)(T:TypeId)(hk:Go c n l (.sl (wide m (.slice none 0 0)) [] T::W) φ):Go c n l W φ:=
 jF T (by rw[zi]at hk;exact hk)
theorem RdW.slv{b k m:Nat}{kk:IntKind}{ys:List Nat}{U:TypeId}{R:List Res}(h:Find W (.blk b (LV kk ys) U) R)(hl:ys.length=k*m):RdW c W (wide m (slv b k)) (ys.map (N kk)):=by
 have:=RdW.arrAll (c:=c) h hl
 have e:wide m (L.slv b k)=fj b (k*m) 0 (k*m):=by
  simp[wide,fj]
 rw[e];exact this
theorem ie{x:Operand}{s:Value}{m k:Nat}{xs:List Value}{t E:TypeId}{ts:List TypeId}(hx:ev l x=some s)(ht:P.underlying t=some (.slice E))(hr:RdW c W (wide m s) xs)(hm:0<m)(hk':xs.length=k*m)
  (hn:Nat.blt d n.sz=true) (hk:Go c n ((d,N .i64 k)::l) W (wpList P ops Q rest)):
  Go c n l W (wpList P ops Q (⟨some d,.call { callee:=.builtin .len,args:=#[x],argTypes:=(t::ts).toArray },T,pos,after,none⟩::rest)):=
 aw rfl rfl hn (fun a w ha hw=>by
  obtain⟨a0,cap,he,h1,h2,h3⟩:=(hr w hw).shape
  obtain⟨c0,hs0,_⟩:=fJ (k:=k) hm he hk'
  subst hs0
  simp[execOp,ha.ev hx,resolve,invoke,builtin,Builtin.len_,run_underlying ht,goInt]) hk
theorem fh{x y:Operand}{s:Value}{i m k:Nat}{kk:IntKind}{xs:List Value}{t E:TypeId}(hx:ev l x=some s)(hy:ev l y=some (N kk i))(ht:P.underlying t=some (.slice E))(hz:ay P E=some m)(hr:RdW c W (wide m s) xs)(hm:0<m)(hk':xs.length=k*m)(hi:i<k)
  (hn:Nat.blt d n.sz=true) (hk:Go c n ((d,.pointer (some (ea (wide m s) (i*m))))::l) W (wpList P ops Q rest)):Go c n l W (wpList P ops Q (⟨some d,.indexAddr t x y,T,pos,after,none⟩::rest)):=
 aw rfl rfl hn (fun a w ha hw=>by
  obtain⟨a0,cap,he,h1,h2,h3⟩:=(hr w hw).shape
  obtain⟨c0,hs0,_⟩:=fJ (k:=k) hm he hk'
  subst hs0
  cases a0 with
  | none=>
   obtain⟨h,_⟩:=h2 rfl;subst h
   have:k*m=0:=by simpa using hk'.symm
   rcases Nat.mul_eq_zero.1 this with h | h <;> omega
  | some a1=>simp[execOp,ha.ev hx,ha.ev hy,Instr.indexAt,asIntOf,run_underlying ht,hi,aq hz,ea,wide]) hk
theorem GG{w:World}{s:Value}{xs:List Value}(h:Rd w s xs)(hne:0<xs.length)(i j:Nat):(ea s i).add j=ea s (i+j):=by
 obtain⟨a0,cap,rfl,h1,h2,h3⟩:=h.shape
 cases a0 with
 | none=>obtain⟨h,_⟩:=h2 rfl;subst h;simp at hne
 | some a1=>
  have:=h3 a1 rfl
  obtain⟨b,o,sp⟩:=a1
  simp only at this;subst this
  simp only[ea,cz,Nat.add_assoc]
theorem eI{x:Operand}{s:Value}{kk:IntKind}{i m:Nat}{xss:List (List Nat)}{zs:List Nat}{A:TypeId}(hx:ev l x=some (.pointer (some (ea s (i*m)))))(hs:cD P A=true)(hz:ay P A=some m)(hr:RdW c W s (xss.flatten.map (N kk)))
  (hv:∀v∈xss,v.length=m) (hi:xss[i]?=some zs) (hm:0<m)
  (hn:Nat.blt d n.sz=true) (hk:Go c n ((d,LV kk zs)::l) W (wpList P ops Q rest)):
  Go c n l W (wpList P ops Q (⟨some d,.load A x,T,pos,after,none⟩::rest)):=
 aw rfl rfl hn (fun a w ha hw=>by
  have hzl:zs.length=m:=hv zs (List.mem_of_getElem? hi)
  have hne:0<(xss.flatten.map (N kk)).length:=by
   have hmem:=List.mem_of_getElem? hi
   cases hq:xss.flatten with
   | nil=>
    have:=List.flatten_eq_nil_iff.1 hq zs hmem
    subst this;simp at hzl;omega
   | cons a r=>simp
  have hp:=ab.nth hv hi
  have hl:(loadCells (ea s (i*m)) (zs.map (N kk)).length).run P w = .ok (zs.map (N kk)).toArray w:=
   run_loadCells_list (P:=P) w _ (zs.map (N kk)) (fun j v hv=>by
    rw[GG (hr w hw) hne]
    refine(hr w hw).cells _ v ?_
    rw[List.getElem?_map,Option.map_eq_some_iff]at hv
    obtain⟨u,hu,rfl⟩:=hv
    rw[List.getElem?_map,hp.get j u hu];rfl)
  rw[List.length_map,hzl]at hl
  simp[execOp,ha.ev hx,Instr.loadAt,Instr.sureAddr,loadVar,bV hs,aq hz,hl,LV]) hk
end
section
attribute [local irreducible] Code.wp wpList Af bodyPost L.Go ab
open Num
attribute [local simp] ae
theorem K5{a b:Prop}(k:b)(h:Rm b→a:=by intro k;(first|refine Z01 ?_|refine Z02 ?_|refine Z03 ?_|refine Z04 ?_|refine Z05 ?_|refine Z06 ?_|refine Z07 ?_|refine Z08 ?_|refine Z09 ?_|refine Z10 ?_|refine Z11 ?_|refine Z12 ?_|refine Z13 ?_|refine Z14 ?_|refine Z17 ?_|refine Z18 ?_|refine Z19 ?_|refine Z20 ?_|refine Z21 ?_|refine Z36 ?_|refine Z49 ?_|refine Z50 ?_|refine Z51 ?_|refine Z52 ?_|refine Z62 ?_|refine Z63 ?_);exact k.h):a:=h ⟨k⟩
theorem Wq{a b:Prop}(k:b)(h:Rm b→a:=by intro k;(first|refine Z01 ?_|refine Z02 ?_|refine Z17 ?_|refine Z18 ?_|refine Z19 ?_|refine Z20 ?_|refine Z21 ?_|refine Z36 ?_|refine Z49 ?_|refine Z50 ?_|refine Z62 ?_|refine Z63 ?_);exact k.h):a:=h ⟨k⟩
theorem Wu{a b:Prop}(k:b)(h:Rm b→a:=by intro k;refine R.Zpp (by rfl) (by intro _ _ _;(first|refine Z20 ?_|refine Z21 ?_|refine Z62 ?_);exact Zq) ?_;exact k.h):a:=h ⟨k⟩
theorem NQ{S1 a b:Prop}(s1:S1)(k:b)(h:S1→Rm b→a:=by intro s1 k;refine R.Zpp (by rfl) (by intro _ _ _;refine af (by rfl) (by rfl) (by rfl) s1 (RdW.own fd) (by rfl) ?_;exact Zq) ?_;exact k.h):a:=h s1 ⟨k⟩
theorem Wv{a b:Prop}(k:b)(h:Rm b→a:=by intro k;refine R.Zpn (by rfl) (by intro _ _ _;(first|refine Z84 fun _=>?_|refine Z85 fun _=>?_);exact R.Zpx) ?_;exact k.h):a:=h ⟨k⟩
set_option maxHeartbeats 8000000 in
theorem Eh(s1 s2:Value)(m d:List Nat)(k:Nat)(hm:Lt 256 m)(hd:Lt 256 d)(hl1:m.length<1073741824)(h1:1≤d.length)(h2:d.length≤255)(hk1:1≤k)(hk:k≤63):
  Spec Tryz.prog 21 [s1,s2,N .i64 k] (fun w=>Rd w s1 (m.map (N .u8))∧Rd w s2 (d.map (N .u8))) [] (fun v W=>∃x,v = .tuple [x,N .i64 0].toArray∧W=[.sl (wide 12 x) ((j1 (fm m d (128*k)) k).flatten.map (N .u64)) 34]):=by
 refine ad Tryz.func21 rfl rfl rfl fun w hr=>?_
 have hr1:=RdC.mk0 hr.1
 have hr2:=RdC.mk0 hr.2
 have hxl:=FT m d (128*k)
 have hxb:=J9 m d (128*k)
 repeat (first|refine y_8 ?_|(refine ax (by rfl) (by rfl) (by rfl) (Br s1 s2 m d (128*k) hm hd hl1 h1 h2 (by omega) (by omega)) .nil (fun w hw=>⟨RdW.old hr1 w hw,RdW.old hr2 w hw⟩) (by rfl) ?_;rintro _ _ ⟨x,rfl,rfl⟩)|refine K5 ?_|refine Z84 fun _=>?_|refine Z85 fun _=>?_)
 generalize fm m d (128*k)=b at *
 refine iD 12 34 ?_
 refine az (ι:=Nat×Value×Value) (fun q=>q.1≤k) (fun q=>[(9,q.2.1),(10,N .i64 0),(11,q.2.2)]) (fun q=>[.sl (wide 12 q.2.2) ((j1 b q.1).flatten.map (N .u64)) 34,.sl q.2.1 ((b.drop (128*q.1)).map (N .u8)) 5]) (fun q=>k-q.1) (0,x,.slice none 0 0) (by simp) sbq (by simp only[Rc];exact sw) ?_
 rintro⟨i,v,u⟩ hi
 simp only at hi ⊢
 have hdl:(b.drop (128*i)).length=128*k-128*i:=by rw[List.length_drop,hxl]
 have hfs:=sZ b i
 have hdb:Lt 256 (b.drop (128*i)):=fun y hy=>hxb y (List.mem_of_mem_drop hy)
 have hnx:b.drop (128*(i+1))=(b.drop (128*i)).drop 128:=by rw[List.drop_drop];congr 1
 have hfl:=sY b i
 have hfl':=j2 b i
 generalize b.drop (128*i)=e at *
 generalize hL:j1 b i=L at *
 repeat (first|refine K5 ?_|refine Z84 fun _=>?_|refine Z85 fun _=>?_)
 refine an (by rfl) (fun h=>?_) (fun h=>?_)
 ·rw[hdl]at h
  have ha:(e.take 64).length=64:=by rw[List.length_take,hdl];omega
  have hc:((e.take 128).drop 64).length=64:=by rw[List.length_drop,List.length_take,hdl];omega
  have hab:Lt 256 (e.take 64):=fun y hy=>hdb y (List.mem_of_mem_take hy)
  have hcb:Lt 256 ((e.take 128).drop 64):=fun y hy=>hdb y (List.mem_of_mem_take (List.mem_of_mem_drop hy))
  have hw1:=fun s=>ik s (e.take 64) hab (by omega)
  have hw2:=fun s=>ik s ((e.take 128).drop 64) hcb (by omega)
  rw[ha]at hw1
  rw[hc]at hw2
  have hv1:=fun s=>CN s (e.take 64) hab ha
  have hv2:=fun s=>CN s ((e.take 128).drop 64) hcb hc
  have hfe:=BZ e
  have hE:∀y∈[fel e],y.length=12:=fun y hy=>by rw[List.mem_singleton.1 hy];exact B0 _
  have hE1:=qJ hE
  have hs1:∀(c:Cx)(W:List Res),RdW c W v (e.map (N .u8))→RdW c W (sub v 0 64) ((e.take 64).map (N .u8)):=fun c W h=>RdW.subN h (lo:=0) (hi:=64) (by omega) (by omega)
  have hs2:∀(c:Cx)(W:List Res),RdW c W v (e.map (N .u8))→RdW c W (sub v 64 128) (((e.take 128).drop 64).map (N .u8)):=fun c W h=>RdW.subN h (lo:=64) (hi:=128) (by omega) (by omega)
  have hbd:(L.length+[fel e].length)*96≤140737488355328:=by rw[hfl'];simp;omega
  have hbd2:L.length+[fel e].length<9223372036854775808:=by rw[hfl'];simp;omega
  have hone:0<[fel e].length:=Nat.one_pos
  repeat (first|refine K5 ?_|refine Z84 fun _=>?_|refine Z85 fun _=>?_)
  refine R.ag [0,1,5,2,6,3,7,4,8,9,10,11,12] (by rfl) ?_
  repeat (first|(refine R.Zpf (by rfl) (by intro _ _ _;(first|(refine cC (by rfl) (by rfl) (by rfl) (by rfl) (by simp;done) (by simp;done) (by rfl) ?_;rw[← hfe])|refine Wq ?_);exact Zq) ?_)|refine Wu ?_|refine NQ (hv1 _) ?_|refine NQ (hv2 _) ?_|(refine R.Zpd (by rfl) (by intro _ _ _;(refine av (m:=12) (kk:=.u64) (vss:=[fel e]) (by rfl) (by rfl) (by rfl) (by rfl) (by rfl) (by rfl) (by rfl) hE (by rfl) (by rfl) fun _=>?_);exact R.dN) fun _=>?_)|(refine R.T8 [4,7,8,9,10,11,12] [8,3,4,9,10,11,12] (by rfl) (by rfl) (by intro _ _ _;(refine ax (by rfl) (by rfl) (by rfl) (hw1 _) .nil (hs1 _ _ (RdW.own fd)) (by rfl) ?_;rintro x1 _ rfl);exact R.wL) (by intro _ _ _;(refine ax (by rfl) (by rfl) (by rfl) (hw2 _) .nil (hs2 _ _ (RdW.own fd)) (by rfl) ?_;rintro x2 _ rfl);exact R.wL) (fun _=>?_) (fun _=>?_))|(refine R.Zpc (by rfl) (by intro _ _ _;(refine ax (by rfl) (by rfl) (by rfl) (hw1 _) .nil (hs1 _ _ (RdW.own fd)) (by rfl) ?_;rintro x1 _ rfl);exact R.wL) fun _=>?_)|(refine R.Zpc (by rfl) (by intro _ _ _;(refine ax (by rfl) (by rfl) (by rfl) (hw2 _) .nil (hs2 _ _ (RdW.own fd)) (by rfl) ?_;rintro x2 _ rfl);exact R.wL) fun _=>?_)|(refine Wv ?_;intro _)|(refine R.Zpn (by rfl) (by intro _ _ _;(refine kx (m:=12) (kk:=.u64) (xss:=L) (yss:=[fel e]) (by rfl) (by rfl) fd (RdW.slv fd hE1) (by rfl) (by rfl) (by rfl) (by rfl) (by decide) hfl hE1 hone hbd hbd2 (by rfl) fun _=>?_;rw[← hfs]);exact R.Zpx) fun _=>?_))
  all_goals
   repeat (first|(refine R.Zpf (by rfl) (by intro _ _ _;(first|(refine cC (by rfl) (by rfl) (by rfl) (by rfl) (by simp;done) (by simp;done) (by rfl) ?_;rw[← hfe])|refine Wq ?_);exact Zq) ?_)|refine Wu ?_|refine NQ (hv1 _) ?_|refine NQ (hv2 _) ?_|(refine R.Zpd (by rfl) (by intro _ _ _;(refine av (m:=12) (kk:=.u64) (vss:=[fel e]) (by rfl) (by rfl) (by rfl) (by rfl) (by rfl) (by rfl) (by rfl) hE (by rfl) (by rfl) fun _=>?_);exact R.dN) fun _=>?_)|(refine R.T8 [4,7,8,9,10,11,12] [8,3,4,9,10,11,12] (by rfl) (by rfl) (by intro _ _ _;(refine ax (by rfl) (by rfl) (by rfl) (hw1 _) .nil (hs1 _ _ (RdW.own fd)) (by rfl) ?_;rintro x1 _ rfl);exact R.wL) (by intro _ _ _;(refine ax (by rfl) (by rfl) (by rfl) (hw2 _) .nil (hs2 _ _ (RdW.own fd)) (by rfl) ?_;rintro x2 _ rfl);exact R.wL) (fun _=>?_) (fun _=>?_))|(refine R.Zpc (by rfl) (by intro _ _ _;(refine ax (by rfl) (by rfl) (by rfl) (hw1 _) .nil (hs1 _ _ (RdW.own fd)) (by rfl) ?_;rintro x1 _ rfl);exact R.wL) fun _=>?_)|(refine R.Zpc (by rfl) (by intro _ _ _;(refine ax (by rfl) (by rfl) (by rfl) (hw2 _) .nil (hs2 _ _ (RdW.own fd)) (by rfl) ?_;rintro x2 _ rfl);exact R.wL) fun _=>?_)|(refine Wv ?_;intro _)|(refine R.Zpn (by rfl) (by intro _ _ _;(refine kx (m:=12) (kk:=.u64) (xss:=L) (yss:=[fel e]) (by rfl) (by rfl) fd (RdW.slv fd hE1) (by rfl) (by rfl) (by rfl) (by rfl) (by decide) hfl hE1 hone hbd hbd2 (by rfl) fun _=>?_;rw[← hfs]);exact R.Zpx) fun _=>?_))
  all_goals refine R.Zp0 ?_
  all_goals
   repeat (first|refine K5 ?_|refine Z84 fun _=>?_|refine Z85 fun _=>?_)
   rename_i v9
   refine nH (s:=v) 128 (List.map (N .u8) e).length fd (by rw[List.length_map];omega) (Nat.le_refl _) ?_
   rw[List.take_length,← List.map_drop,← hnx]
   exact ao (i+1,sub v 128 _,v9) (by simp only;omega) (by simp only;omega) sbq sw
 ·rw[hdl]at h
  have hik:i=k:=by omega
  subst hik
  subst hL
  repeat (first|refine K5 ?_|refine Z84 fun _=>?_|refine Z85 fun _=>?_)
  exact Ze2 fun _ hw=>aa hw (Wout:=[.sl (wide 12 u) ((j1 b i).flatten.map (N .u64)) 34]) (by exact sw) ⟨_,rfl,rfl⟩
end
end Go.Proofs.YtndhfbecpghinaaGreat.L
namespace Go.Proofs.YtndhfbecpghinaaGreat.Num
theorem RT{a b p q:Nat}(h:a<p):(a+p*b)%(p*q)=a+p*(b%q):=by
 rw[Nat.mod_mul,Nat.add_mul_mod_self_left,Nat.mod_eq_of_lt h,Nat.add_mul_div_left _ _ (Nat.lt_of_le_of_lt (Nat.zero_le _) h),Nat.div_eq_of_lt h,Nat.zero_add]
theorem A7{w:Nat}(hw:w≤63)(X i:Nat):
  ((X/W^i%W) >>> w+(X/W^(i+1)%W) <<< (64-w)%18446744073709551616)%18446744073709551616=X/2^w/W^i%W:=by
 have e1:X/2^w/W^i=X/W^i/2^w:=by rw[Nat.div_div_eq_div_mul,Nat.mul_comm,← Nat.div_div_eq_div_mul]
 have e2:X/W^(i+1)=X/W^i/W:=by rw[Nat.pow_succ,Nat.div_div_eq_div_mul]
 rw[e1,e2,Nat.shiftRight_eq_div_pow,Nat.shiftLeft_eq]
 generalize X/W^i=Y
 have hW:W=2^w*2^(64-w):=by rw[← Nat.pow_add,W_2,show w+(64-w)=64 by omega]
 have hW':(18446744073709551616:Nat)=2^(64-w)*2^w:=by rw[← Nat.pow_add,show 64-w+w=64 by omega]
 have hY:=Nat.mod_add_div Y W
 have ha:=Nat.two_pow_pos w
 have hb:=Nat.two_pow_pos (64-w)
 have h3:Y/W%W*2^(64-w)%18446744073709551616=2^(64-w)*(Y/W%2^w):=by
  rw[hW',Nat.mul_comm (Y/W%W),Nat.mul_mod_mul_left,hW,Nat.mod_mul_right_mod]
 have h4:Y/2^w=Y%W/2^w+2^(64-w)*(Y/W):=by
  conv=>lhs;rw[← hY]
  rw[hW,Nat.mul_assoc,Nat.add_mul_div_left _ _ ha,← hW]
 have h5:Y%W/2^w<2^(64-w):=by
  refine Nat.div_lt_of_lt_mul ?_
  rw[← hW];exact Nat.mod_lt _ mv
 have h6:Y/2^w%W=Y%W/2^w+2^(64-w)*(Y/W%2^w):=by
  rw[h4]
  have:=RT (b:=Y/W) (q:=2^w) h5
  rwa [Nat.mul_comm (2^(64-w)) (2^w),← hW]at this
 rw[h3,h6]
 refine Nat.mod_eq_of_lt ?_
 have h7:Y/W%2^w<2^w:=Nat.mod_lt _ ha
 have h8:=Nat.mul_le_mul_left (2^(64-w)) (show Y/W%2^w+1≤2^w from h7)
 rw[← hW',Nat.mul_add]at h8
 omega
end Go.Proofs.YtndhfbecpghinaaGreat.Num
namespace Go.Proofs.YtndhfbecpghinaaGreat.L.R
open Go Go.Proofs.YtndhfbecpghinaaGreat.L
section
variable {P:Program} {c:Cx} {n:Nn} {os:List Oper} {K:Act→World→Prop} {E:En} {W:List Res} {l:Sl} {i d:Nat} {o:Oper} {rest:List Nat}
def OpX{X:Type}(P:Program)(c:Cx)(n:Nn)(W:List Res)(G:X→Value)(F:X→List Res)(d:Nat)(lr:Sl)(o:Oper):Prop:=
 ∀w0 m,SatW c W w0→Go ⟨w0,fps W⟩ n (lr++m) W (wpList P #[] (fun e a w=>e = .normal∧∃b,SatA n ((d,G b)::(lr++m)) a∧SatW ⟨w0,fps W⟩ (F b++W) w) [o])
structure Mk {X:Type} (P:Program) (c:Cx) (n:Nn) (os:List Oper) (E:En) (W:List Res) (l:Sl) (G:X→Value) (F:X→List Res) (i d:Nat) (o:Oper):Prop where
 ho:os[i]?=some o
 h:OpX P c n W G F d (bR os.toArray o l) (noG o)
 hi:iv i E=true
 hd:o.dst=some d
 hn:Nat.blt d n.sz=true
 hg:bO os.toArray l o=some true
 hc:iu os (E++[(i,.alc)])=true
theorem Mk.mk'{X:Type}{G:X→Value}{F:X→List Res}(ho:os[i]?=some o)(h:OpX P c n W G F d (bR os.toArray o l) (noG o))
  (hi:iv i E=true:=by rfl) (hd:o.dst=some d:=by rfl) (hn:Nat.blt d n.sz=true:=by rfl) (hg:bO os.toArray l o=some true:=by rfl)
  (hc:iu os (E++[(i,.alc)])=true:=by rfl):Mk P c n os E W l G F i d o:=⟨ho,h,hi,hd,hn,hg,hc⟩
def Mks(P:Program)(c:Cx)(n:Nn)(os:List Oper)(K:Act→World→Prop)(E:En)(W:List Res)(l:Sl)(i:Nat)(nx:List Nat):Prop:=
 ∃(X:Type)(G:X→Value)(F:X→List Res)(d:Nat)(o:Oper),Mk P c n os E W l G F i d o∧∀b,QF P c n os K (E++[(i,.alc)]) (F b++W) ((d,G b)::l) nx
theorem Mks.mk{X:Type}{G:X→Value}{F:X→List Res}{nx:List Nat}(h:Mk P c n os E W l G F i d o)(hr:∀b,QF P c n os K (E++[(i,.alc)]) (F b++W) ((d,G b)::l) nx):Mks P c n os K E W l i nx:=⟨X,G,F,d,o,h,hr⟩
theorem Zpm{is:List Nat}{nx:Nat→List Nat}(hne:is≠[])(h:∀i∈is,Mks P c n os K E W l i (nx i))(hdesc:f4 os is rest E=true):QF P c n os K E W l (is++rest):=by
 have hch:∃o:Nat→Oper,∀i∈is,os[i]?=some (o i):=by
  refine⟨fun i=>(os[i]?).getD ⟨none,.move (.const undef),0, "",#[],none⟩,fun i hi=>?_⟩
  obtain⟨X,G,F,d,o,h1,_⟩:=h i hi
  show os[i]?=some ((os[i]?).getD _)
  rw[h1.ho];rfl
 obtain⟨o,ho⟩:=hch
 refine QF.nd (nx:=nx) (o:=o) (kd:=fun _=>.alc)
  (Φ:=fun i u W'=>∃(X:Type)(G:X→Value)(F:X→List Res)(d:Nat),Mk P c n os E W l G F i d (o i)∧(∀b,QF P c n os K (E++[(i,.alc)]) (F b++W) ((d,G b)::l) (nx i))∧∃b,u=some (d,G b)∧W'=F b++W)
  hne ?_ ho ?_ hdesc ?_ ?_ ?_ ?_
 ·intro i hi
  obtain⟨X,G,F,d,o',h1,_⟩:=h i hi
  exact h1.hi
 ·intro i hi
  obtain⟨X,G,F,d,o',h1,_⟩:=h i hi
  exact h1.hc
 ·rintro i hi u W' ⟨X,G,F,d,h1,_,b,rfl,rfl⟩
  exact⟨h1.hd,fun d' hd'=>by have:=h1.hd;rw[hd']at this;cases this;exact h1.hn,.inr ⟨rfl,F b,rfl⟩⟩
 ·intro i hi
  obtain⟨X,G,F,d,o',h1,_⟩:=h i hi
  have e:=h1.ho
  rw[ho i hi]at e;cases e
  exact h1.hg
 ·intro i hi
  obtain⟨X,G,F,d,o',h1,h2⟩:=h i hi
  have e:=h1.ho
  rw[ho i hi]at e;cases e
  exact fun w0 m hw a w ha hw'=>bC (h1.h w0 m hw a w ha hw') rfl (fun _ _ _ h=>h.1) fun a w ⟨q1,b,q2,q3⟩=>⟨q1,some (d,G b),_,⟨X,G,F,d,h1,h2,b,rfl,rfl⟩,q2,q3⟩
 ·rintro i hi u W' ⟨X,G,F,d,_,h2,b,rfl,rfl⟩
  exact h2 b
theorem zU(n1 n2:List Nat){j:Nat}(h1:Mks P c n os K E W l i n1)(h2:Mks P c n os K E W l j n2)(hij:Nat.beq i j=false:=by rfl)(hdesc:f4 os [i,j] rest E=true:=by rfl):QF P c n os K E W l (i::j::rest):=by
 have hne:¬j=i:=fun h=>by subst h;rw[Nat.beq_refl]at hij;cases hij
 refine Zpm (is:=[i,j]) (nx:=fun k=>if k=i then n1 else n2) (by simp) (two ?_ ?_) hdesc
 ·simp only[if_true];exact h1
 ·simp only[if_neg hne];exact h2
theorem WJ(n1 n2 n3:List Nat){j k:Nat}(h1:Mks P c n os K E W l i n1)(h2:Mks P c n os K E W l j n2)(h3:Mks P c n os K E W l k n3)(hij:Nat.beq i j=false:=by rfl)(hik:Nat.beq i k=false:=by rfl)(hjk:Nat.beq j k=false:=by rfl)
  (hdesc:f4 os [i,j,k] rest E=true:=by rfl):QF P c n os K E W l (i::j::k::rest):=by
 have hne:¬j=i:=fun h=>by subst h;rw[Nat.beq_refl]at hij;cases hij
 have hne2:¬k=i:=fun h=>by subst h;rw[Nat.beq_refl]at hik;cases hik
 have hne3:¬k=j:=fun h=>by subst h;rw[Nat.beq_refl]at hjk;cases hjk
 refine Zpm (is:=[i,j,k]) (nx:=fun q=>if q=i then n1 else if q=j then n2 else n3) (by simp) (fun q hq=>?_) hdesc
 rcases List.mem_cons.1 hq with rfl | hq
 ·simp only[if_true];exact h1
 rcases List.mem_cons.1 hq with rfl | hq
 ·simp only[if_neg hne,if_true];exact h2
 ·have:=List.mem_singleton.1 hq
  subst this
  simp only[if_neg hne2,if_neg hne3];exact h3
theorem Ga{j:Nat}(h1:Mks P c n os K E W l i (j::rest))(h2:Mks P c n os K E W l j (i::rest))(hij:Nat.beq i j=false:=by rfl)(hdesc:f4 os [i,j] rest E=true:=by rfl):QF P c n os K E W l (i::j::rest):=zU _ _ h1 h2 hij hdesc
theorem T9{j k:Nat}(h1:Mks P c n os K E W l i (j::k::rest))(h2:Mks P c n os K E W l j (i::k::rest))(h3:Mks P c n os K E W l k (i::j::rest))(hij:Nat.beq i j=false:=by rfl)(hik:Nat.beq i k=false:=by rfl)(hjk:Nat.beq j k=false:=by rfl)
  (hdesc:f4 os [i,j,k] rest E=true:=by rfl):QF P c n os K E W l (i::j::k::rest):=WJ _ _ _ h1 h2 h3 hij hik hjk hdesc
theorem iH{b:Nat}{v:Value}{T:TypeId}{L:Sl}:
  Go c n ((d,pt b 0)::L) (.blk b v T::W) (wpList P #[] (fun e a w=>e = .normal∧∃b,SatA n ((d,(fun b=>pt b 0) b)::L) a∧SatW c ((fun b=>[.blk b v T]) b++W) w) []):=
 fun _ _ ha hw=>wpList_nil ⟨rfl,b,ha,hw⟩
theorem iI{v:Value}{xs:List Value}{T:TypeId}{L:Sl}:
  Go c n ((d,v)::L) (.sl v xs T::W) (wpList P #[] (fun e a w=>e = .normal∧∃v,SatA n ((d,(fun v=>v) v)::L) a∧SatW c ((fun v=>[.sl v xs T]) v++W) w) []):=
 fun _ _ ha hw=>wpList_nil ⟨rfl,v,ha,hw⟩
end
end Go.Proofs.YtndhfbecpghinaaGreat.L.R
namespace Go.Proofs.YtndhfbecpghinaaGreat.L
open Go
section
variable {P:Program} {c:Cx} {n:Nn} {l:Sl} {W:List Res} {x:Code} {Q:Exit→Act→World→Prop}
theorem nz(S:Nat→Sl)(R:Nat→List Res)(hK:∀a,Go c n (S a) (R a) (Q .normal))(h:(∀a,Go c n (S a) (R a) (Q .normal))→Go c n l W (x.wp P Q)):Go c n l W (x.wp P Q):=h hK
theorem C4(S:Nat→Nat→Sl)(R:Nat→Nat→List Res)(hK:∀a b,Go c n (S a b) (R a b) (Q .normal))(h:(∀a b,Go c n (S a b) (R a b) (Q .normal))→Go c n l W (x.wp P Q)):Go c n l W (x.wp P Q):=h hK
theorem Nd(S:Nat→Nat→Nat→Sl)(R:Nat→Nat→Nat→List Res)(hK:∀a b d,Go c n (S a b d) (R a b d) (Q .normal))(h:(∀a b d,Go c n (S a b d) (R a b d) (Q .normal))→Go c n l W (x.wp P Q)):Go c n l W (x.wp P Q):=h hK
end
end Go.Proofs.YtndhfbecpghinaaGreat.L
namespace Go.Proofs.YtndhfbecpghinaaGreat.L
open Go Go.Proofs
set_option maxRecDepth 100000
@[irreducible] def GL(ys:List Nat)(i:Bool):Value:=.agg (ys.map (N .u64)++[Value.bool i]).toArray
theorem cw(ys:List Nat)(i:Bool):GL ys i = .agg (ys.map (N .u64)++[Value.bool i]).toArray:=by unfold GL;rfl
theorem wF(ys:List Nat)(i:Bool):(GL ys i).cells=(ys.map (N .u64)++[Value.bool i]).toArray:=by rw[cw];rfl
inductive FillsV (pl:List (Nat×Nat)):List Value→List (Nat×Value)→List Value→Prop
 | nil {ys:List Value}:FillsV pl ys [] ys
 | cons {pre old post out:List Value} {i:Nat} {v:Value} {rest:List (Nat×Value)} (hp:pl[i]?=some (pre.length,old.length)) (hz:v.cells.size=old.length) (h:FillsV pl (pre++v.cells.toList++post) rest out):
   FillsV pl (pre++old++post) ((i,v)::rest) out
theorem Rf{pl:List (Nat×Nat)}{ys out:List Value}{ps:List (Nat×Value)}(h:FillsV pl ys ps out):
  Instr.fill (pl.toArray[·]?) ys.toArray ps=some out.toArray:=by
 induction h with
 | nil=>rfl
 | cons hp hz h ih=>
  rename_i pre old post out i v rest
  have e:=kI (place:=(pl.toArray[·]?)) (i:=i) (v:=v) (rest:=rest) (pre:=pre) (old:=old) (post:=post) (by simpa using hp) hz
  rw[e]
  exact ih
section
variable {P:Program}
theorem Jg{w:World}{t A E:TypeId}{f0 f1 f2 g0 g1:Field}{m:Nat}(ht:P.underlying t=some (.struct #[f0,f1,f2]))(hst:P.stoodInHeld t=false)(hn0:(f0.name != "_")=true)(hn1:(f1.name != "_")=true)(hn2:(f2.name != "_")=true)
  (k0:f0.type=A) (k1:f1.type=A) (hs:ay P A=some (m+m)) (ho0:f0.offset=0) (ho1:f1.offset=m+m) (ho2:f2.offset=m+m+(m+m)) (h2:P.underlying f2.type=some .bool)
  (hA:P.underlying A=some (.struct #[g0,g1])) (hstA:P.stoodInHeld A=false) (gn0:(g0.name != "_")=true) (gn1:(g1.name != "_")=true)
  (h0:P.underlying g0.type=some (.array m E)) (h1:P.underlying g1.type=some (.array m E)) (hs0:ay P g0.type=some m) (hs1:ay P g1.type=some m) (go0:g0.offset=0) (go1:g1.offset=m)
  (hE:P.underlying E=some (.int .u64)) (hz:ay P E=some 1) {a b e f a' b' e' f':List Nat} {i j:Bool} (la:a.length=m) (lb:b.length=m) (le:e.length=m) (lf:f.length=m) (la':a'.length=m) (lb':b'.length=m) (le':e'.length=m) (lf':f'.length=m):
  (Op.equalIn 10000 t (GL ((a++b)++(e++f)) i) (GL ((a'++b')++(e'++f')) j)).run P w = .ok (((decide (a=a')&&decide (b=b'))&&(decide (e=e')&&decide (f=f')))&&decide (i=j)) w:=by
 have hf:P.fieldsOf t = #[f0,f1,f2]:=by unfold Program.fieldsOf;rw[ht]
 rw[cw,cw]
 have q:=run_equalIn_struct (P:=P) w 9999 t (((a++b)++(e++f)).map (N .u64)++[Value.bool i]).toArray (((a'++b')++(e'++f')).map (N .u64)++[Value.bool j]).toArray (by rw[hf];exact ht) hst
 rw[hf]at q
 rw[q]
 have a0:cD P A=true:=by unfold cD;rw[hA]
 have p0:∀(zs ts:List Nat)(o:Bool),zs.length=m+m→(part f0.type ((zs++ts).map (N .u64)++[Value.bool o]).toArray f0.offset).run P w = .ok (LV .u64 zs) w:=fun zs ts o hl=>by
  have he:=(((ab.l (ys:=ts) hl).map (N .u64)).inl (ys:=[Value.bool o])).ext
  rw[Nat.zero_add]at he
  simp only[part,Sem.run_bind,bV a0,Result.andThen_ok,if_true,k0,aq hs,ho0,Nat.zero_add,he,Sem.run_pure,LV]
 have p1:∀(zs ts:List Nat)(o:Bool),zs.length=m+m→ts.length=m+m→(part f1.type ((zs++ts).map (N .u64)++[Value.bool o]).toArray f1.offset).run P w = .ok (LV .u64 ts) w:=fun zs ts o hl hl'=>by
  have he:=(((ab.r (xs:=zs) hl hl').map (N .u64)).inl (ys:=[Value.bool o])).ext
  simp only[part,Sem.run_bind,bV a0,Result.andThen_ok,if_true,k1,aq hs,ho1,he,Sem.run_pure,LV]
 have p2:∀(zs:List Nat)(o:Bool),zs.length=m+m+(m+m)→(part f2.type (zs.map (N .u64)++[Value.bool o]).toArray f2.offset).run P w = .ok (.bool o) w:=fun zs o hl=>by
  have ha:(isAgg f2.type).run P w = .ok false w:=by simp[isAgg,run_underlying h2]
  simp[part,Sem.run_bind,ha,ho2,← hl]
 have r0:=fG 9996 (w:=w) (k:=.u64) (t:=A) hA hstA gn0 gn1 h0 h1 hs0 hs1 go0 go1 hE hz la lb la' lb'
 have r1:=fG 9996 (w:=w) (k:=.u64) (t:=A) hA hstA gn0 gn1 h0 h1 hs0 hs1 go0 go1 hE hz le lf le' lf'
 rw[← k0]at r0
 rw[← k1]at r1
 have r2:=run_equalIn_bool w 9998 f2.type i j h2
 have n0:f0.name ≠ "_":=by simpa using hn0
 have n1:f1.name ≠ "_":=by simpa using hn1
 have n2:f2.name ≠ "_":=by simpa using hn2
 have l1:(a++b).length=m+m:=by simp[la,lb]
 have l2:(e++f).length=m+m:=by simp[le,lf]
 have l1':(a'++b').length=m+m:=by simp[la',lb']
 have l2':(e'++f').length=m+m:=by simp[le',lf']
 simp only[Op.eqFields,if_pos n0,if_pos n1,if_pos n2,Sem.run_bind,p0 _ _ _ l1,p0 _ _ _ l1',p1 _ _ _ l1 l2,p1 _ _ _ l1' l2',p2 _ _ (show((a++b)++(e++f)).length=m+m+(m+m) by rw[List.length_append,l1,l2]),p2 _ _ (show((a'++b')++(e'++f')).length=m+m+(m+m) by rw[List.length_append,l1',l2']),Result.andThen_ok,r0,r1,r2,Sem.run_ite,Sem.run_pure]
 cases decide (a=a') <;> cases decide (b=b') <;> cases decide (e=e') <;> cases decide (f=f') <;> cases i <;> cases j <;> rfl
end
section
variable {P:Program} {c:Cx} {n:Nn} {l:Sl} {W:List Res} {ops:Array Oper} {Q:Exit→Act→World→Prop} {rest:List Oper}
variable {d:Nat} {T:TypeId} {pos:String} {after:Array Edge}
def RJ(kk:IntKind):Operand→Option Nat
 | .const (.int k (.ofNat n))=>if k=kk then some n else none
 | _=>none
def Ma(kk:IntKind):List (Nat×Operand)→Option (List Nat)
 | []=>some []
 | p::r=>match RJ kk p.2,Ma kk r with
  | some n,some ns=>some (n::ns)
  | _,_=>none
theorem L9{kk:IntKind}{o:Operand}{n:Nat}(h:RJ kk o=some n):ev l o=some (N kk n):=by
 unfold RJ at h
 split at h
 ·split at h
  ·rename_i hk
   cases h
   subst hk
   rfl
  ·cases h
 ·cases h
theorem xO{kk:IntKind}:∀{ps:List (Nat×Operand)}{vs:List Nat},Ma kk ps=some vs→evs l (ps.map (·.2))=some (vs.map (N kk))
 | [],vs,h=>by
  cases h;rfl
 | p::r,vs,h=>by
  unfold Ma at h
  split at h
  ·rename_i n ns h1 h2
   cases h
   simp only[List.map_cons,evs,L9 h1,xO h2]
  ·cases h
theorem oF{t E:TypeId}{m:Nat}{ps:List (Nat×Operand)}{kk:IntKind}{vs:List Nat}(ht:P.underlying t=some (.array m E))(hz:cH P t=some (LV kk (List.replicate m 0)))(hs:ay P E=some 1)
  (hq:Seq 0 ps=true) (hv:Ma kk ps=some vs) (hl:ps.length=vs.length) (hm:Nat.ble vs.length m=true) (hn:Nat.blt d n.sz=true)
  (hk:Go c n ((d,LV kk (vs++List.replicate (m-vs.length) 0))::l) W (wpList P ops Q rest)):
  Go c n l W (wpList P ops Q (⟨some d,.build t ps.toArray,T,pos,after,none⟩::rest)):=bk ht hz hs hq hl hm (xO hv) hn hk
theorem oG{t:TypeId}{fs:Array Field}{pl:List (Nat×Nat)}{z out:List Value}{is:List Nat}{xs:List Operand}{vs:List Value}(ht:P.underlying t=some (.struct fs))(hpl:jT P fs.toList=some pl)(hz:cH P t=some (.agg z.toArray))
  (hv:evs l xs=some vs) (hf:FillsV pl z (is.zip vs) out) (hn:Nat.blt d n.sz=true)
  (hk:Go c n ((d,.agg out.toArray)::l) W (wpList P ops Q rest)):Go c n l W (wpList P ops Q (⟨some d,.build t (is.zip xs).toArray,T,pos,after,none⟩::rest)):=
 aw rfl rfl hn (fun a w ha hw=>by
  have he:((is.zip xs).map fun(p:Nat×Operand)=>(p.1,a.eval p.2))=is.zip vs:=by
   have h1:xs.map a.eval=vs:=ha.evs hv
   have h2:(is.zip xs).map (fun(p:Nat×Operand)=>(p.1,a.eval p.2))=is.zip (xs.map a.eval):=by rw[List.zip_map_right];rfl
   rw[h2,h1]
  have hpp:(fs.mapM fun(f:Field)=>(do let s ← sizeOf f.type;pure (f.offset,s):Sem (Nat×Nat))).run P w = .ok pl.toArray w:=CX hpl
  have hff:=Rf hf
  rw[← he]at hff
  simp only[execOp,Instr.build,Sem.run_bind,run_underlying ht,cn hz,hpp,Result.andThen_ok,List.map_toArray,Value.cells]
  rw[hff]
  rfl) hk
theorem tU{t:TypeId}{fs:Array Field}{m:Nat}{xs ys:List Nat}{x y:Operand}(ht:P.underlying t=some (.struct fs))(hpl:jT P fs.toList=some [(0,m),(m,m),(m+m,1)])(hz:cH P t=some (GL (List.replicate (m+m) 0) false))
  (hv:evs l [x,y]=some [LV .u64 xs,LV .u64 ys]) (h1:xs.length=m) (h2:ys.length=m) (hn:Nat.blt d n.sz=true)
  (hk:Go c n ((d,GL (xs++ys) false)::l) W (wpList P ops Q rest)):Go c n l W (wpList P ops Q (⟨some d,.build t #[(0,x),(1,y)],T,pos,after,none⟩::rest)):=
 oG (is:=[0,1]) (xs:=[x,y]) (vs:=[LV .u64 xs,LV .u64 ys]) (z:=List.replicate m (N .u64 0)++List.replicate m (N .u64 0)++[Value.bool false]) (out:=xs.map (N .u64)++ys.map (N .u64)++[Value.bool false]) ht hpl (by
  rw[hz,cw,List.map_replicate,List.replicate_append_replicate]) hv (by
  have e:List.replicate m (N .u64 0)++List.replicate m (N .u64 0)++[Value.bool false]=[]++List.replicate m (N .u64 0)++(List.replicate m (N .u64 0)++[Value.bool false]):=by rw[List.nil_append,List.append_assoc]
  rw[e]
  refine .cons (by simp) (by simpa[LV,Value.cells]using h1) ?_
  have e2:[]++(LV .u64 xs).cells.toList++(List.replicate m (N .u64 0)++[Value.bool false])=xs.map (N .u64)++List.replicate m (N .u64 0)++[Value.bool false]:=by simp[LV,Value.cells]
  rw[e2]
  refine .cons (by simp[h1]) (by simpa[LV,Value.cells]using h2) ?_
  have e3:(LV .u64 ys).cells.toList=ys.map (N .u64):=by simp[LV,Value.cells]
  rw[e3]
  exact .nil) hn (by rw[cw,List.map_append]at hk;exact hk)
theorem rV{t:TypeId}{fs:Array Field}{m:Nat}{x:Operand}{i:Bool}(ht:P.underlying t=some (.struct fs))(hpl:jT P fs.toList=some [(0,m),(m,m),(m+m,1)])(hz:cH P t=some (GL (List.replicate (m+m) 0) false))
  (hv:evs l [x]=some [Value.bool i]) (hn:Nat.blt d n.sz=true)
  (hk:Go c n ((d,GL (List.replicate (m+m) 0) i)::l) W (wpList P ops Q rest)):Go c n l W (wpList P ops Q (⟨some d,.build t #[(2,x)],T,pos,after,none⟩::rest)):=
 oG (is:=[2]) (xs:=[x]) (vs:=[Value.bool i]) (z:=(List.replicate (m+m) 0).map (N .u64)++[Value.bool false]++[]) (out:=(List.replicate (m+m) 0).map (N .u64)++[Value.bool i]++[]) ht hpl (by
  rw[hz,cw];simp) hv (by
  refine .cons (by simp) (by simp[Value.cells]) ?_
  have e3:(Value.bool i).cells.toList=[Value.bool i]:=by simp[Value.cells]
  rw[e3]
  exact .nil) hn (by rw[cw]at hk;simpa using hk)
theorem eJ{x y:Operand}{b m:Nat}{ys zs:List Nat}{i j:Bool}{E U:TypeId}{R:List Res}(hx:ev l x=some (pt b 0))(hy:ev l y=some (GL zs j))(hf:Find W (.blk b (GL ys i) U) R)(hz:ay P E=some (m+1))(hl:ys.length=m)(hl':zs.length=m)
  (hk:Go c n l (.blk b (GL zs j) U::R) (wpList P ops Q rest)):Go c n l W (wpList P ops Q (⟨none,.store E x y,T,pos,after,none⟩::rest)):=by
 rw[cw]at hy hf hk
 exact r5 hx hy hf hz (by simp[hl]) (by simp[hl']) (by
  intro v hv
  simp only[List.mem_append,List.mem_map,List.mem_singleton]at hv
  rcases hv with⟨_,_,rfl⟩ | rfl <;> rfl) hk
theorem db{x:Operand}{b m:Nat}{ys:List Nat}{i:Bool}{E U:TypeId}{R:List Res}(hx:ev l x=some (pt b 0))(hf:Find W (.blk b (GL ys i) U) R)(hs:cD P E=true)(hz:ay P E=some (m+1))(hl:ys.length=m)
  (hn:Nat.blt d n.sz=true) (hk:Go c n ((d,GL ys i)::l) W (wpList P ops Q rest)):Go c n l W (wpList P ops Q (⟨some d,.load E x,T,pos,after,none⟩::rest)):=by
 rw[cw]at hf hk
 exact t7 hx hf hs hz (by simp[hl]) hn hk
theorem cQ{x:Operand}{b off m:Nat}{ys zs:List Nat}{i:Bool}{E U:TypeId}{R:List Res}(hx:ev l x=some (pt b off))(hf:Find W (.blk b (GL ys i) U) R)(hs:cD P E=true)(hz:ay P E=some m)
  (hp:ab ys off m zs) (hn:Nat.blt d n.sz=true)
  (hk:Go c n ((d,LV .u64 zs)::l) W (wpList P ops Q rest)):Go c n l W (wpList P ops Q (⟨some d,.load E x,T,pos,after,none⟩::rest)):=
 aw rfl rfl hn (fun a w ha hw=>by
  have hh:w.heap[b]?=some (.cells (GL ys i).cells U (0,0)):=hw.holds _ hf.mem
  rw[wF]at hh
  have hl:zs.length=m:=by obtain⟨_,_,_,_,h⟩:=hp;exact h
  have:=cc (P:=P) (w:=w) (b:=b) (off:=off) (cs:=zs.map (N .u64)) hs (by simpa[hl]using hz) hh (fun j v hv=>by
   have:=((hp.map (N .u64)).inl (ys:=[Value.bool i])).get j v hv
   simpa using this)
  simp[execOp,ha.ev hx,Instr.loadAt,Instr.sureAddr,this,LV]) hk
theorem wb{x:Operand}{b off:Nat}{ys:List Nat}{i:Bool}{E U:TypeId}{R:List Res}(hx:ev l x=some (pt b off))(hf:Find W (.blk b (GL ys i) U) R)(hs:kv P E=true)(hl:ys.length=off)(hn:Nat.blt d n.sz=true)
  (hk:Go c n ((d,.bool i)::l) W (wpList P ops Q rest)):Go c n l W (wpList P ops Q (⟨some d,.load E x,T,pos,after,none⟩::rest)):=
 aw rfl rfl hn (fun a w ha hw=>by
  have hh:w.heap[b]?=some (.cells (GL ys i).cells U (0,0)):=hw.holds _ hf.mem
  rw[wF]at hh
  have hc:w.cell? ⟨b,off,none⟩=some (.bool i):=by
   rw[cell_of_row w b off _ U _ hh];simp[← hl]
  simp[execOp,ha.ev hx,Instr.loadAt,Instr.sureAddr,cL hs hc]) hk
theorem aQ{fn:Func}{R:Ending→World→Prop}{t:Tmp}{b m:Nat}{T U:TypeId}{ys:List Nat}{i:Bool}{R0:List Res}
  (hres:fn.results = #[.cell t T]) (hv:lk l t=some (pt b 0)) (hf:Find W (.blk b (GL ys i) U) R0) (hs:cD P T=true) (hz:ay P T=some (m+1)) (hl:ys.length=m)
  (hR:∀w,SatW c W w→R (.returned (GL ys i)) w) (hD:n.df=[]:=by rfl):Go c n l W (bodyPost P fn R .ret):=by
 rw[cw]at hf
 exact C7 hres hv hf hs (by rw[hz];simp[hl]) (by rw[cw]at hR;exact hR) hD
theorem Ni{r:Bool}{t A E yt:TypeId}{f0 f1 f2 g0 g1:Field}{m:Nat}{x y:Operand}{a b e f a' b' e' f':List Nat}{i j:Bool}
  (hr:(((decide (a=a')&&decide (b=b'))&&(decide (e=e')&&decide (f=f')))&&decide (i=j))=r)
  (hx:ev l x=some (GL ((a++b)++(e++f)) i)) (hy:ev l y=some (GL ((a'++b')++(e'++f')) j)) (ht:P.underlying t=some (.struct #[f0,f1,f2])) (hst:P.stoodInHeld t=false) (hn0:(f0.name != "_")=true) (hn1:(f1.name != "_")=true) (hn2:(f2.name != "_")=true)
  (k0:f0.type=A) (k1:f1.type=A) (hs:ay P A=some (m+m)) (ho0:f0.offset=0) (ho1:f1.offset=m+m) (ho2:f2.offset=m+m+(m+m)) (h2:P.underlying f2.type=some .bool)
  (hA:P.underlying A=some (.struct #[g0,g1])) (hstA:P.stoodInHeld A=false) (gn0:(g0.name != "_")=true) (gn1:(g1.name != "_")=true)
  (h0:P.underlying g0.type=some (.array m E)) (h1:P.underlying g1.type=some (.array m E)) (hs0:ay P g0.type=some m) (hs1:ay P g1.type=some m) (go0:g0.offset=0) (go1:g1.offset=m)
  (hE:P.underlying E=some (.int .u64)) (hz:ay P E=some 1) (hg:P.eqGuardType P.depth t=false)
  (la:a.length=m) (lb:b.length=m) (le:e.length=m) (lf:f.length=m) (la':a'.length=m) (lb':b'.length=m) (le':e'.length=m) (lf':f'.length=m) (hn:Nat.blt d n.sz=true)
  (hk:Go c n ((d,.bool r)::l) W (wpList P ops Q rest)):Go c n l W (wpList P ops Q (⟨some d,.binOp .eql t x y yt,T,pos,after,none⟩::rest)):=
 aw rfl rfl hn (fun w0 w ha _=>by
  have q1:=Jg (w:=w) (i:=i) (j:=j) ht hst hn0 hn1 hn2 k0 k1 hs ho0 ho1 ho2 h2 hA hstA gn0 gn1 h0 h1 hs0 hs1 go0 go1 hE hz la lb le lf la' lb' le' lf'
  rw[hr]at q1
  rw[cw]at hx hy
  rw[cw,cw]at q1
  have q2:=run_eqGuard_agg (P:=P) w .eql t x y (((a++b)++(e++f)).map (N .u64)++[Value.bool i]).toArray (((a'++b')++(e'++f')).map (N .u64)++[Value.bool j]).toArray hg
  have q3:=run_eql_struct (P:=P) w t (((a++b)++(e++f)).map (N .u64)++[Value.bool i]).toArray (((a'++b')++(e'++f')).map (N .u64)++[Value.bool j]).toArray
  rw[q1]at q3
  simp only[execOp,ha.ev hx,ha.ev hy,Sem.run_bind,q2,Result.andThen_ok,q3,Sem.run_pure]) hk
end
abbrev AV(vs:List Value):Value:=.agg vs.toArray
theorem F5(ys:List Nat)(i:Bool):GL ys i=AV (ys.map (N .u64)++[Value.bool i]):=cw ys i
theorem qF{m:Nat}{zs:List Value}(hzs:zs.length=m):∀(vss:List (List Value))(i:Nat)(done:List Value),(∀v∈vss,v.length=m)→done.length=i*m →
  Instr.fill (fun i=>some (i*m,m)) (done++(List.replicate vss.length zs).flatten).toArray ((vss.zipIdx i).map fun p=>(p.2,AV p.1))=some (done++vss.flatten).toArray
 | [],i,done,_,_=>by simp[Instr.fill]
 | v::r,i,done,hv,hd=>by
  have h1:=hv v (List.mem_cons_self ..)
  have ih:=qF hzs r (i+1) (done++v) (fun u hu=>hv u (List.mem_cons_of_mem _ hu)) (by simp[hd,h1,Nat.add_mul])
  have e:=kI (place:=fun i=>some (i*m,m)) (i:=i) (v:=AV v) (rest:=(r.zipIdx (i+1)).map fun p=>(p.2,AV p.1)) (pre:=done) (old:=zs) (post:=(List.replicate r.length zs).flatten)
   (by simp[hd,hzs]) (by simp[Value.cells,h1,hzs])
  have hrep:done++(List.replicate (v::r).length zs).flatten=done++zs++(List.replicate r.length zs).flatten:=by
   rw[List.length_cons,List.replicate_succ,List.flatten_cons,List.append_assoc]
  rw[hrep,List.zipIdx_cons,List.map_cons,e]
  have hc:(AV v).cells.toList=v:=by simp[Value.cells]
  rw[hc,ih]
  simp
section
variable {P:Program} {c:Cx} {n:Nn} {l:Sl} {W:List Res} {ops:Array Oper} {Q:Exit→Act→World→Prop} {rest:List Oper}
variable {d:Nat} {T:TypeId} {pos:String} {after:Array Edge}
theorem o0{a:Act}:∀{ps:List (Nat×Operand)}{i:Nat}{vss:List (List Value)}(_:SatA n l a)(_:Seq i ps=true)(_:evs l (ps.map (·.2))=some (vss.map (AV))),
  (ps.map fun(i,x)=>(i,a.eval x))=(vss.zipIdx i).map fun p=>(p.2,AV p.1)
 | [],i,vss,_,_,he=>by
  have:vss=[]:=by
   cases vss with
   | nil=>rfl
   | cons v r=>simp[evs]at he
  subst this;rfl
 | (q,x)::r,i,vss,ha,hs,he=>by
  simp only[Seq,Bool.and_eq_true]at hs
  have hq:=Nat.eq_of_beq_eq_true hs.1
  subst hq
  simp only[List.map_cons,evs]at he
  split at he
  ·rename_i v us hx hr
   cases vss with
   | nil=>simp at he
   | cons v0 vr=>
    simp at he
    obtain⟨h1,h2⟩:=he
    subst h1
    subst h2
    have ih:=o0 (ps:=r) (i:=q+1) (vss:=vr) ha hs.2 hr
    simp only[List.map_cons,List.zipIdx_cons,ih,ha.ev hx]
  ·simp at he
theorem zO{m k:Nat}{zs:List Value}(hz:zs.length=m)(hm:0<m):(Array.range (k*m)).map (fun j=>zs.toArray[j%zs.toArray.size]!)=((List.replicate k zs).flatten).toArray:=by
 have hl:((List.replicate k zs).flatten).length=k*m:=by simp[hz]
 apply Array.ext
 ·simp[hz]
 ·intro j h1 h2
  have hj:j%m<m:=Nat.mod_lt _ hm
  have hjk:j<k*m:=by simpa using h1
  have hd:j/m<k:=(Nat.div_lt_iff_lt_mul hm).2 hjk
  have hp:=ab.nth (vss:=List.replicate k zs) (i:=j/m) (zs:=zs) (fun v hv=>by rw[List.eq_of_mem_replicate hv,hz]) (by rw[List.getElem?_replicate,if_pos hd])
  have e:=hp.get (j%m) (zs[j%m]'(by omega)) (by rw[List.getElem?_eq_getElem])
  have e2:j/m*m+j%m=j:=by rw[Nat.mul_comm];exact Nat.div_add_mod j m
  rw[e2]at e
  have e3:((List.replicate k zs).flatten)[j]'(by rw[hl];exact hjk)=zs[j%m]'(by omega):=by
   rw[List.getElem?_eq_getElem (by rw[hl];exact hjk)]at e
   exact Option.some.inj e
  simp only[Array.getElem_map,Array.getElem_range,List.getElem_toArray,List.size_toArray,hz]
  rw[e3]
  simp[hz,hj]
theorem rX{t E:TypeId}{k m:Nat}{ps:List (Nat×Operand)}{zs:List Value}{vss:List (List Value)}(ht:P.underlying t=some (.slice E))(hz:cH P E=some (AV zs))(hs:ay P E=some m)(hzl:zs.length=m)
  (hm:Nat.blt 0 (k*m)=true) (hq:Seq 0 ps=true) (hl:vss.length=k) (hv:evs l (ps.map (·.2))=some (vss.map (AV))) (hlen:∀v∈vss,v.length=m) (hk24:Nat.ble (k*m) 16777216=true) (hn:Nat.blt d n.sz=true)
  (hk:∀b,Go c n ((d,slv b k)::l) (.blk b (AV vss.flatten) E::W) (wpList P ops Q rest)):
  Go c n l W (wpList P ops Q (⟨some d,.buildSlice t k ps.toArray,T,pos,after,none⟩::rest)):=
 fi rfl rfl hn (Φ:=fun u V=>∃b,u=slv b k∧V = .blk b (AV vss.flatten) E::W)
  (fun a w ha hw=>by
   have hp:=o0 ha hq hv
   have hm0:0<k*m:=by simpa[Nat.blt_eq]using hm
   have hmm:0<m:=Nat.pos_of_mul_pos_left hm0
   have hle:¬(16777216<k*m):=by have:=Nat.le_of_ble_eq_true hk24;omega
   have hne:¬(k*m=0):=by omega
   have hfill:=qF hzl vss 0 [] hlen (by simp)
   simp only[List.nil_append]at hfill
   rw[hl]at hfill
   have h0:=zO (k:=k) hzl hmm
   refine⟨_,_,_,?_,hw.alloc (o:=.cells (vss.flatten).toArray E) (r:=.blk w.heap.size (AV vss.flatten) E) rfl ?_,_,rfl,rfl⟩
   ·have hz2:(AV zs).cells=zs.toArray:=by simp[Value.cells]
    simp only[execOp,Instr.buildSlice,Sem.run_bind,run_underlying ht,aq hs,Result.andThen_ok,List.map_toArray,hp]
    simp only[show(2:Nat)^24=16777216 from rfl,gt_iff_lt,if_neg hle,if_neg hne,Sem.run_bind,cn hz,Result.andThen_ok,Sem.run_pure,hz2,h0,hfill]
    simp[newRow,slv]
   ·simp[Res.holds,Value.cells])
  (fun u V ⟨b,hu,hV⟩=>by subst hu;subst hV;exact hk b)
theorem md{x:Operand}{s:Value}{i m:Nat}{xss:List (List Value)}{zs:List Value}{A:TypeId}(hx:ev l x=some (.pointer (some (ea s (i*m)))))(hs:cD P A=true)(hz:ay P A=some m)(hr:RdW c W s (xss.flatten))
  (hv:∀v∈xss,v.length=m) (hi:xss[i]?=some zs) (hm:0<m)
  (hn:Nat.blt d n.sz=true) (hk:Go c n ((d,AV zs)::l) W (wpList P ops Q rest)):
  Go c n l W (wpList P ops Q (⟨some d,.load A x,T,pos,after,none⟩::rest)):=
 aw rfl rfl hn (fun a w ha hw=>by
  have hzl:zs.length=m:=hv zs (List.mem_of_getElem? hi)
  have hne:0<(xss.flatten).length:=by
   have hmem:=List.mem_of_getElem? hi
   cases hq:xss.flatten with
   | nil=>
    have:=List.flatten_eq_nil_iff.1 hq zs hmem
    subst this;simp at hzl;omega
   | cons a r=>simp
  have hp:=ab.nth hv hi
  have hl:(loadCells (ea s (i*m)) (zs).length).run P w = .ok (zs).toArray w:=
   run_loadCells_list (P:=P) w _ (zs) (fun j v hv=>by
    rw[GG (hr w hw) hne]
    refine(hr w hw).cells _ v ?_
    exact hp.get j v hv)
  rw[hzl]at hl
  simp[execOp,ha.ev hx,Instr.loadAt,Instr.sureAddr,loadVar,bV hs,aq hz,hl]) hk
theorem dK{x y:Operand}{s y0:Value}{m:Nat}{zs:List Value}{xss yss:List (List Value)}{t E:TypeId}{by':Nat}{R:List Res}(hx:ev l x=some s)(hy:ev l y=some y0)(hf:Find W (.sl (wide m s) (xss.flatten) E) R)(hr:RdW c W (wide m y0) (yss.flatten))
  (ht:P.underlying t=some (.slice E)) (hz:cH P E=some (AV zs)) (hs:ay P E=some m) (hb:lI P E=some by') (hzl:zs.length=m) (hone:∀v∈yss.flatten,v.oneCell'=true) (hm:0<m)
  (hxl:xss.flatten.length=xss.length*m) (hyl:yss.flatten.length=yss.length*m) (hj:0<yss.length)
  (hbd:(xss.length+yss.length)*by'≤140737488355328) (h63:xss.length+yss.length<9223372036854775808) (hn:Nat.blt d n.sz=true)
  (hk:∀s',Go c n ((d,s')::l) (.sl (wide m s') ((xss++yss).flatten) E::R) (wpList P ops Q rest)):
  Go c n l W (wpList P ops Q (⟨some d,.call { callee:=.builtin .append,args:=#[x,y],argTypes:=#[t,t] },T,pos,after,none⟩::rest)):=
 fi rfl rfl hn (Φ:=fun u V=>V = .sl (wide m u) ((xss++yss).flatten) E::R)
  (fun a w ha hw=>by
   have hY:=hr w hw
   have hX:=RdW.own hf w hw
   have hw:=hw.perm hf.perm
   obtain⟨a0,cap0,he0,_⟩:=hX.shape
   obtain⟨c0,hs0,_⟩:=fJ (k:=xss.length) hm he0 hxl
   subst hs0
   obtain⟨a1,cap1,he1,_⟩:=hY.shape
   obtain⟨c1,hs1,_⟩:=fJ (k:=yss.length) hm he1 hyl
   subst hs1
   obtain⟨s',w',h2,h3,h4,h5⟩:=nu (P:=P) (ty:=T) hm ht hz hs hb (by simp[Value.cells,hzl]) (hw.holds _ (List.mem_cons_self ..)) hY hxl hyl hone hj hbd h63
   refine⟨s',w',_,by simp[execOp,ha.ev hx,ha.ev hy,resolve,invoke,builtin,h2],?_,rfl⟩
   have e:(xss++yss).flatten=xss.flatten++yss.flatten:=by simp
   rw[e]
   rcases h5 with h5 | h5
   ·exact hw.upd h5 h4 h3
   ·have hlt:=hw.lt
    have hn:=hw.nd
    simp only[fps,List.flatMap_cons]at hn hlt
    obtain⟨n1,n2,n3⟩:=List.nodup_append.1 hn
    refine⟨hw.ext.trans h4 (fun q hq=>hw.own q (by simp only[fps,List.flatMap_cons,List.mem_append];exact .inl hq)),?_,?_,?_⟩
    ·intro r hr
     rcases List.mem_cons.1 hr with rfl | hr
     ·exact h3
     ·exact Res.holds_congr (hw.holds r (List.mem_cons_of_mem _ hr)) fun b hb=>h4.block b (Res.fp_lt (hw.holds r (List.mem_cons_of_mem _ hr)) b hb) fun hb'=>n3 b hb' b (List.mem_flatMap.2 ⟨r,hr,hb⟩) rfl
    ·intro b hb
     simp only[fps,List.flatMap_cons,h5,List.mem_append,List.mem_singleton]at hb
     rcases hb with rfl | hb
     ·exact .inl hw.ext.size
     ·exact hw.own b (by simp only[fps,List.flatMap_cons,List.mem_append];exact .inr hb)
    ·simp only[fps,List.flatMap_cons,h5]
     refine List.nodup_append.2 ⟨by simp,n2,fun p hp q hq=>?_⟩
     simp only[List.mem_singleton]at hp;subst hp
     have:=hlt q (List.mem_append.2 (.inr hq));omega)
  (fun u V hV=>by subst hV;exact hk u)
theorem RdW.slvV{b k m:Nat}{vs:List Value}{U:TypeId}{R:List Res}(h:Find W (.blk b (AV vs) U) R)(hl:vs.length=k*m):RdW c W (wide m (L.slv b k)) vs:=by
 have:=RdW.arr (c:=c) (lo:=0) (hi:=k*m) h (Nat.zero_le _) (Nat.le_refl _) (by simpa using hl)
 rw[List.drop_zero,List.take_of_length_le (by omega)]at this
 have e:wide m (L.slv b k)=fj b (k*m) 0 (k*m):=by simp[wide,fj]
 rw[e];exact this
end
section
variable {P:Program} {c:Cx} {n:Nn} {l:Sl} {W:List Res} {ops:Array Oper} {Q:Exit→Act→World→Prop} {rest:List Oper}
variable {d:Nat} {T:TypeId} {pos:String} {after:Array Edge}
theorem Tc{x y:Operand}{b off m:Nat}{pre zs us post:List Value}{E U:TypeId}{R:List Res}(hx:ev l x=some (pt b off))(hy:ev l y=some (.agg us.toArray))(hf:Find W (.blk b (.agg (pre++zs++post).toArray) U) R)(hz:ay P E=some m)
  (h0:pre.length=off) (hl:zs.length=m) (hl':us.length=m) (h1:∀v∈us,v.oneCell'=true)
  (hk:Go c n l (.blk b (.agg (pre++us++post).toArray) U::R) (wpList P ops Q rest)):Go c n l W (wpList P ops Q (⟨none,.store E x y,T,pos,after,none⟩::rest)):=
 tW rfl rfl (fun a w ha hw=>by
  have hw:=hw.perm hf.perm
  have hh:w.heap[b]?=some (.cells (pre++zs++post).toArray U (0,0)):=hw.holds _ (List.mem_cons_self ..)
  refine⟨w.setRow b (pre++us++post).toArray,?_,ce hw rfl rfl hh (fun w' h=>h)⟩
  have hst:=en (P:=P) (off:=off) (vs:=us) hh (by simp[h0,hl,hl']) h1
  have e:(pre++zs++post).take off++us++(pre++zs++post).drop (off+us.length)=pre++us++post:=by
   subst h0
   have a1:(pre++zs++post).take pre.length=pre:=by rw[List.append_assoc];exact List.take_left
   have a2:(pre++zs++post).drop (pre.length+us.length)=post:=by
    rw[hl',← hl,← List.length_append];exact List.drop_left
   rw[a1,a2]
  rw[e]at hst
  simp[execOp,ha.ev hx,ha.ev hy,Instr.storeAt,Instr.sureAddr,storeVar,aq hz,Value.cells,hl',hst]) hk
theorem Vc{kk:IntKind}(us:List Nat):∀v∈us.map (N kk),v.oneCell'=true:=by
 intro v hv
 obtain⟨u,_,rfl⟩:=List.mem_map.1 hv
 rfl
theorem wk{x y:Operand}{b off m:Nat}{pre zs us post:List Nat}{i:Bool}{E U:TypeId}{R:List Res}(hx:ev l x=some (pt b off))(hy:ev l y=some (LV .u64 us))(hf:Find W (.blk b (GL (pre++zs++post) i) U) R)(hz:ay P E=some m)
  (h0:pre.length=off) (hl:zs.length=m) (hl':us.length=m)
  (hk:Go c n l (.blk b (GL (pre++us++post) i) U::R) (wpList P ops Q rest)):Go c n l W (wpList P ops Q (⟨none,.store E x y,T,pos,after,none⟩::rest)):=by
 rw[cw]at hf hk
 have e1:∀z:List Nat,(pre++z++post).map (N .u64)++[Value.bool i]=pre.map (N .u64)++z.map (N .u64)++(post.map (N .u64)++[Value.bool i]):=fun z=>by simp
 rw[e1]at hf hk
 exact Tc hx hy hf hz (by simpa using h0) (by simpa using hl) (by simpa using hl') (Vc us) hk
theorem nI{x y:Operand}{b off m:Nat}{pre zs us:List Nat}{i:Bool}{E U:TypeId}{R:List Res}(hx:ev l x=some (pt b off))(hy:ev l y=some (LV .u64 us))(hf:Find W (.blk b (GL (pre++zs) i) U) R)(hz:ay P E=some m)
  (h0:pre.length=off) (hl:zs.length=m) (hl':us.length=m)
  (hk:Go c n l (.blk b (GL (pre++us) i) U::R) (wpList P ops Q rest)):Go c n l W (wpList P ops Q (⟨none,.store E x y,T,pos,after,none⟩::rest)):=
 wk (post:=[]) hx hy (by rw[List.append_nil];exact hf) hz h0 hl hl' (by rw[List.append_nil];exact hk)
end
section
variable {α:Type}
theorem ab.t0{xs ys zs:List α}{m:Nat}(h:xs.length=m):ab (xs++(ys++zs)) 0 m xs:=ab.l h
theorem ab.t1{xs ys zs:List α}{m:Nat}(h:xs.length=m)(h2:ys.length=m):ab (xs++(ys++zs)) m m ys:=⟨xs,zs,by simp,h,h2⟩
theorem ab.t2{xs ys zs:List α}{m:Nat}(h:xs.length=m)(h2:ys.length=m)(h3:zs.length=m):ab (xs++(ys++zs)) (m+m) m zs:=⟨xs++ys,[],by simp,by simp[h,h2],h3⟩
end
section
variable {P:Program}
theorem Jf{w:World}{t A E:TypeId}{f0 f1 f2 g0 g1:Field}{m:Nat}(ht:P.underlying t=some (.struct #[f0,f1,f2]))(hst:P.stoodInHeld t=false)(hn0:(f0.name != "_")=true)(hn1:(f1.name != "_")=true)(hn2:(f2.name != "_")=true)
  (k0:f0.type=A) (k1:f1.type=A) (k2:f2.type=A) (hs:ay P A=some (m+m)) (ho0:f0.offset=0) (ho1:f1.offset=m+m) (ho2:f2.offset=m+m+(m+m))
  (hA:P.underlying A=some (.struct #[g0,g1])) (hstA:P.stoodInHeld A=false) (gn0:(g0.name != "_")=true) (gn1:(g1.name != "_")=true)
  (h0:P.underlying g0.type=some (.array m E)) (h1:P.underlying g1.type=some (.array m E)) (hs0:ay P g0.type=some m) (hs1:ay P g1.type=some m) (go0:g0.offset=0) (go1:g1.offset=m)
  (hE:P.underlying E=some (.int .u64)) (hz:ay P E=some 1) {a b e f g h a' b' e' f' g' h':List Nat} (la:a.length=m) (lb:b.length=m) (le:e.length=m) (lf:f.length=m) (lg:g.length=m) (lh:h.length=m) (la':a'.length=m) (lb':b'.length=m) (le':e'.length=m) (lf':f'.length=m) (lg':g'.length=m) (lh':h'.length=m):
  (Op.equalIn 10000 t (LV .u64 ((a++b)++((e++f)++(g++h)))) (LV .u64 ((a'++b')++((e'++f')++(g'++h'))))).run P w = .ok (((decide (a=a')&&decide (b=b'))&&(decide (e=e')&&decide (f=f')))&&(decide (g=g')&&decide (h=h'))) w:=by
 have hf:P.fieldsOf t = #[f0,f1,f2]:=by unfold Program.fieldsOf;rw[ht]
 have q:=run_equalIn_struct (P:=P) w 9999 t (((a++b)++((e++f)++(g++h))).map (N .u64)).toArray (((a'++b')++((e'++f')++(g'++h'))).map (N .u64)).toArray (by rw[hf];exact ht) hst
 rw[hf]at q
 simp only[LV]
 rw[q]
 have a0:cD P A=true:=by unfold cD;rw[hA]
 have pp:∀(fl:Field)(k:fl.type=A)(vs zs:List Nat)(off:Nat)(ho:fl.offset=off),ab vs off (m+m) zs→(part fl.type (vs.map (N .u64)).toArray fl.offset).run P w = .ok (LV .u64 zs) w:=fun fl k vs zs off ho hp=>by
  have he:=(hp.map (N .u64)).ext
  simp only[part,Sem.run_bind,k,bV a0,Result.andThen_ok,if_true,aq hs,ho,he,Sem.run_pure,LV]
 have r0:=fG 9996 (w:=w) (k:=.u64) (t:=A) hA hstA gn0 gn1 h0 h1 hs0 hs1 go0 go1 hE hz la lb la' lb'
 have r1:=fG 9996 (w:=w) (k:=.u64) (t:=A) hA hstA gn0 gn1 h0 h1 hs0 hs1 go0 go1 hE hz le lf le' lf'
 have r2:=fG 9996 (w:=w) (k:=.u64) (t:=A) hA hstA gn0 gn1 h0 h1 hs0 hs1 go0 go1 hE hz lg lh lg' lh'
 rw[← k0]at r0
 rw[← k1]at r1
 rw[← k2]at r2
 have n0:f0.name ≠ "_":=by simpa using hn0
 have n1:f1.name ≠ "_":=by simpa using hn1
 have n2:f2.name ≠ "_":=by simpa using hn2
 have l1:(a++b).length=m+m:=by simp[la,lb]
 have l2:(e++f).length=m+m:=by simp[le,lf]
 have l3:(g++h).length=m+m:=by simp[lg,lh]
 have l1':(a'++b').length=m+m:=by simp[la',lb']
 have l2':(e'++f').length=m+m:=by simp[le',lf']
 have l3':(g'++h').length=m+m:=by simp[lg',lh']
 simp only[Op.eqFields,if_pos n0,if_pos n1,if_pos n2,Sem.run_bind,pp _ k0 _ _ _ ho0 (ab.t0 l1),pp _ k0 _ _ _ ho0 (ab.t0 l1'),pp _ k1 _ _ _ ho1 (ab.t1 l1 l2),pp _ k1 _ _ _ ho1 (ab.t1 l1' l2'),pp _ k2 _ _ _ ho2 (ab.t2 l1 l2 l3),pp _ k2 _ _ _ ho2 (ab.t2 l1' l2' l3'),Result.andThen_ok,r0,r1,r2,Sem.run_ite,Sem.run_pure]
 cases decide (a=a') <;> cases decide (b=b') <;> cases decide (e=e') <;> cases decide (f=f') <;> cases decide (g=g') <;> cases decide (h=h') <;> rfl
end
section
variable {P:Program} {c:Cx} {n:Nn} {l:Sl} {W:List Res} {ops:Array Oper} {Q:Exit→Act→World→Prop} {rest:List Oper}
variable {d:Nat} {T:TypeId} {pos:String} {after:Array Edge}
theorem tT{t:TypeId}{fs:Array Field}{m:Nat}{k:IntKind}{xs ys zs:List Nat}{x y z:Operand}(ht:P.underlying t=some (.struct fs))(hpl:jT P fs.toList=some [(0,m),(m,m),(m+m,m)])(hz:cH P t=some (LV k (List.replicate (m+(m+m)) 0)))
  (hv:evs l [x,y,z]=some [LV k xs,LV k ys,LV k zs]) (h1:xs.length=m) (h2:ys.length=m) (h3:zs.length=m) (hn:Nat.blt d n.sz=true)
  (hk:Go c n ((d,LV k (xs++(ys++zs)))::l) W (wpList P ops Q rest)):Go c n l W (wpList P ops Q (⟨some d,.build t #[(0,x),(1,y),(2,z)],T,pos,after,none⟩::rest)):=
 eF (is:=[0,1,2]) (xs:=[x,y,z]) (vs:=[xs,ys,zs]) ht hpl hz hv (by
  have e:List.replicate (m+(m+m)) 0=[]++List.replicate m 0++(List.replicate m 0++List.replicate m 0):=by rw[List.nil_append,List.replicate_append_replicate,List.replicate_append_replicate]
  rw[e]
  refine .cons (by simp) (by simpa using h1) ?_
  have e2:[]++xs++(List.replicate m 0++List.replicate m 0)=xs++List.replicate m 0++List.replicate m 0:=by simp
  rw[e2]
  refine .cons (by simp[h1]) (by simpa using h2) ?_
  have e3:xs++ys++List.replicate m 0=(xs++ys)++List.replicate m 0++[]:=by simp
  rw[e3]
  refine .cons (by simp[h1,h2]) (by simpa using h3) ?_
  rw[List.append_nil,List.append_assoc];exact .nil) hn hk
theorem C9{r:Bool}{t A E yt:TypeId}{f0 f1 f2 g0 g1:Field}{m:Nat}{x y:Operand}{a b e f g h a' b' e' f' g' h':List Nat}
  (hr:(((decide (a=a')&&decide (b=b'))&&(decide (e=e')&&decide (f=f')))&&(decide (g=g')&&decide (h=h')))=r)
  (hx:ev l x=some (LV .u64 ((a++b)++((e++f)++(g++h))))) (hy:ev l y=some (LV .u64 ((a'++b')++((e'++f')++(g'++h'))))) (ht:P.underlying t=some (.struct #[f0,f1,f2])) (hst:P.stoodInHeld t=false) (hn0:(f0.name != "_")=true) (hn1:(f1.name != "_")=true) (hn2:(f2.name != "_")=true)
  (k0:f0.type=A) (k1:f1.type=A) (k2:f2.type=A) (hs:ay P A=some (m+m)) (ho0:f0.offset=0) (ho1:f1.offset=m+m) (ho2:f2.offset=m+m+(m+m))
  (hA:P.underlying A=some (.struct #[g0,g1])) (hstA:P.stoodInHeld A=false) (gn0:(g0.name != "_")=true) (gn1:(g1.name != "_")=true)
  (h0:P.underlying g0.type=some (.array m E)) (h1:P.underlying g1.type=some (.array m E)) (hs0:ay P g0.type=some m) (hs1:ay P g1.type=some m) (go0:g0.offset=0) (go1:g1.offset=m)
  (hE:P.underlying E=some (.int .u64)) (hz:ay P E=some 1) (hg:P.eqGuardType P.depth t=false)
  (la:a.length=m) (lb:b.length=m) (le:e.length=m) (lf:f.length=m) (lg:g.length=m) (lh:h.length=m) (la':a'.length=m) (lb':b'.length=m) (le':e'.length=m) (lf':f'.length=m) (lg':g'.length=m) (lh':h'.length=m) (hn:Nat.blt d n.sz=true)
  (hk:Go c n ((d,.bool r)::l) W (wpList P ops Q rest)):Go c n l W (wpList P ops Q (⟨some d,.binOp .eql t x y yt,T,pos,after,none⟩::rest)):=
 aw rfl rfl hn (fun w0 w ha _=>by
  have q1:=Jf (w:=w) ht hst hn0 hn1 hn2 k0 k1 k2 hs ho0 ho1 ho2 hA hstA gn0 gn1 h0 h1 hs0 hs1 go0 go1 hE hz la lb le lf lg lh la' lb' le' lf' lg' lh'
  rw[hr]at q1
  have q2:=run_eqGuard_agg (P:=P) w .eql t x y (((a++b)++((e++f)++(g++h))).map (N .u64)).toArray (((a'++b')++((e'++f')++(g'++h'))).map (N .u64)).toArray hg
  have q3:=run_eql_struct (P:=P) w t (((a++b)++((e++f)++(g++h))).map (N .u64)).toArray (((a'++b')++((e'++f')++(g'++h'))).map (N .u64)).toArray
  simp only[LV]at q1 hx hy
  rw[q1]at q3
  simp only[execOp,ha.ev hx,ha.ev hy,Sem.run_bind,q2,Result.andThen_ok,q3,Sem.run_pure]) hk
theorem Ba{t:TypeId}{fs:Array Field}{pl:List (Nat×Nat)}{m:Nat}(ht:P.underlying t=some (.struct fs))(hpl:jT P fs.toList=some pl)(hz:cH P t=some (GL (List.replicate m 0) false))(hn:Nat.blt d n.sz=true)
  (hk:Go c n ((d,GL (List.replicate m 0) false)::l) W (wpList P ops Q rest)):Go c n l W (wpList P ops Q (⟨some d,.build t #[],T,pos,after,none⟩::rest)):=
 oG (is:=[]) (xs:=[]) (vs:=[]) (z:=(List.replicate m 0).map (N .u64)++[Value.bool false]) (out:=(List.replicate m 0).map (N .u64)++[Value.bool false]) ht hpl (by rw[hz,cw]) rfl .nil hn (by rw[cw]at hk;exact hk)
theorem bF{fn:Func}{R:Ending→World→Prop}{t u:Tmp}{b m:Nat}{T U:TypeId}{ys:List Nat}{i:Bool}{v:Value}{R0:List Res}
  (hres:fn.results = #[.cell t T,.tmp u]) (hv:lk l t=some (pt b 0)) (hu:lk l u=some v) (hf:Find W (.blk b (GL ys i) U) R0) (hs:cD P T=true) (hz:ay P T=some (m+1)) (hl:ys.length=m)
  (hR:∀w,SatW c W w→R (.returned (.tuple #[GL ys i,v])) w) (hD:n.df=[]:=by rfl):Go c n l W (bodyPost P fn R .ret):=by
 rw[cw]at hf
 exact yL hres hv hu hf hs (by rw[hz];simp[hl]) (by rw[cw]at hR;exact hR) hD
end
section
variable {P:Program}
theorem Fb{w:World}{t A E:TypeId}{f0 f1 f2:Field}{m:Nat}(ht:P.underlying t=some (.struct #[f0,f1,f2]))(hst:P.stoodInHeld t=false)(hn0:(f0.name != "_")=true)(hn1:(f1.name != "_")=true)(hn2:(f2.name != "_")=true)
  (k0:f0.type=A) (k1:f1.type=A) (k2:f2.type=A) (hs:ay P A=some m) (ho0:f0.offset=0) (ho1:f1.offset=m) (ho2:f2.offset=m+m)
  (hA:P.underlying A=some (.array m E)) (hE:P.underlying E=some (.int .u64)) (hz:ay P E=some 1) {a e g a' e' g':List Nat} (la:a.length=m) (le:e.length=m) (lg:g.length=m) (la':a'.length=m) (le':e'.length=m) (lg':g'.length=m):
  (Op.equalIn 10000 t (LV .u64 (a++(e++g))) (LV .u64 (a'++(e'++g')))).run P w = .ok ((decide (a=a')&&decide (e=e'))&&decide (g=g')) w:=by
 have hf:P.fieldsOf t = #[f0,f1,f2]:=by unfold Program.fieldsOf;rw[ht]
 have q:=run_equalIn_struct (P:=P) w 9999 t ((a++(e++g)).map (N .u64)).toArray ((a'++(e'++g')).map (N .u64)).toArray (by rw[hf];exact ht) hst
 rw[hf]at q
 simp only[LV]
 rw[q]
 have a0:cD P A=true:=by unfold cD;rw[hA]
 have pp:∀(fl:Field)(k:fl.type=A)(vs zs:List Nat)(off:Nat)(ho:fl.offset=off),ab vs off m zs→(part fl.type (vs.map (N .u64)).toArray fl.offset).run P w = .ok (LV .u64 zs) w:=fun fl k vs zs off ho hp=>by
  have he:=(hp.map (N .u64)).ext
  simp only[part,Sem.run_bind,k,bV a0,Result.andThen_ok,if_true,aq hs,ho,he,Sem.run_pure,LV]
 have r0:=ew (w:=w) 9997 hA hE hz a a' la la'
 have r1:=ew (w:=w) 9997 hA hE hz e e' le le'
 have r2:=ew (w:=w) 9997 hA hE hz g g' lg lg'
 rw[← k0]at r0
 rw[← k1]at r1
 rw[← k2]at r2
 have n0:f0.name ≠ "_":=by simpa using hn0
 have n1:f1.name ≠ "_":=by simpa using hn1
 have n2:f2.name ≠ "_":=by simpa using hn2
 simp only[Op.eqFields,if_pos n0,if_pos n1,if_pos n2,Sem.run_bind,pp _ k0 _ _ _ ho0 (ab.t0 la),pp _ k0 _ _ _ ho0 (ab.t0 la'),pp _ k1 _ _ _ ho1 (ab.t1 la le),pp _ k1 _ _ _ ho1 (ab.t1 la' le'),pp _ k2 _ _ _ ho2 (ab.t2 la le lg),pp _ k2 _ _ _ ho2 (ab.t2 la' le' lg'),Result.andThen_ok,r0,r1,r2,Sem.run_ite,Sem.run_pure]
 cases decide (a=a') <;> cases decide (e=e') <;> cases decide (g=g') <;> rfl
variable {c:Cx} {n:Nn} {l:Sl} {W:List Res} {ops:Array Oper} {Q:Exit→Act→World→Prop} {rest:List Oper}
variable {d:Nat} {T:TypeId} {pos:String} {after:Array Edge}
theorem C8{r:Bool}{t A E yt:TypeId}{f0 f1 f2:Field}{m:Nat}{x y:Operand}{a e g a' e' g':List Nat}(hr:((decide (a=a')&&decide (e=e'))&&decide (g=g'))=r)
  (hx:ev l x=some (LV .u64 (a++(e++g)))) (hy:ev l y=some (LV .u64 (a'++(e'++g')))) (ht:P.underlying t=some (.struct #[f0,f1,f2])) (hst:P.stoodInHeld t=false) (hn0:(f0.name != "_")=true) (hn1:(f1.name != "_")=true) (hn2:(f2.name != "_")=true)
  (k0:f0.type=A) (k1:f1.type=A) (k2:f2.type=A) (hs:ay P A=some m) (ho0:f0.offset=0) (ho1:f1.offset=m) (ho2:f2.offset=m+m)
  (hA:P.underlying A=some (.array m E)) (hE:P.underlying E=some (.int .u64)) (hz:ay P E=some 1) (hg:P.eqGuardType P.depth t=false)
  (la:a.length=m) (le:e.length=m) (lg:g.length=m) (la':a'.length=m) (le':e'.length=m) (lg':g'.length=m) (hn:Nat.blt d n.sz=true)
  (hk:Go c n ((d,.bool r)::l) W (wpList P ops Q rest)):Go c n l W (wpList P ops Q (⟨some d,.binOp .eql t x y yt,T,pos,after,none⟩::rest)):=
 aw rfl rfl hn (fun w0 w ha _=>by
  have q1:=Fb (w:=w) ht hst hn0 hn1 hn2 k0 k1 k2 hs ho0 ho1 ho2 hA hE hz la le lg la' le' lg'
  rw[hr]at q1
  have q2:=run_eqGuard_agg (P:=P) w .eql t x y ((a++(e++g)).map (N .u64)).toArray ((a'++(e'++g')).map (N .u64)).toArray hg
  have q3:=run_eql_struct (P:=P) w t ((a++(e++g)).map (N .u64)).toArray ((a'++(e'++g')).map (N .u64)).toArray
  simp only[LV]at q1 hx hy
  rw[q1]at q3
  simp only[execOp,ha.ev hx,ha.ev hy,Sem.run_bind,q2,Result.andThen_ok,q3,Sem.run_pure]) hk
end
section
variable {P:Program} {c:Cx} {n:Nn} {l:Sl} {W:List Res} {ops:Array Oper} {Q:Exit→Act→World→Prop} {rest:List Oper}
variable {d:Nat} {T:TypeId} {pos:String} {after:Array Edge}
theorem S2{o:Oper}{W':List Res}(hd:o.dst=none)(hg:o.guard=none)
  (h:∀a w,SatA n l a→SatW c W w→∃v w',(execOp a.eval o).run P w = .ok (.value v) w'∧SatW c W' w')
  (hk:Go c n l W' (wpList P ops Q rest)):Go c n l W (wpList P ops Q (o::rest)):=by
 intro a w ha hw
 obtain⟨v,w',hr,hw'⟩:=h a w ha hw
 refine wpList_plain hg fun K hK=>?_
 show o.upon P a K Q ((execOp a.eval o).run P w)
 rw[hr]
 show K (a.put o.dst v) w'
 rw[hd]
 exact hK _ _ (hk _ _ ha hw')
theorem yH{x:Operand}{b m lo hi:Nat}{kk:IntKind}{cs:List Nat}{t E U:TypeId}{R:List Res}(hx:ev l x=some (fj b m lo hi))(hf:Find W (.blk b (LV kk cs) U) R)
  (ht:P.underlying t=some (.slice E)) (hz:cH P E=some (N kk 0)) (hm:cs.length=m) (h1:lo≤hi) (h2:hi≤m)
  (hk:Go c n l (.blk b (LV kk (cs.take lo++List.replicate (hi-lo) 0++cs.drop hi)) U::R) (wpList P ops Q rest)):
  Go c n l W (wpList P ops Q (⟨none,.call { callee:=.builtin .clear,args:=#[x],argTypes:=#[t] },T,pos,after,none⟩::rest)):=
 S2 rfl rfl (W':=.blk b (LV kk (cs.take lo++List.replicate (hi-lo) 0++cs.drop hi)) U::R)
  (fun a w ha hw=>by
   have hw:=hw.perm hf.perm
   have hh:w.heap[b]?=some (.cells (cs.map (N kk)).toArray U (0,0)):=hw.holds _ (List.mem_cons_self ..)
   by_cases he:hi-lo=0
   ·have e1:cs.take lo++List.replicate (hi-lo) 0++cs.drop hi=cs:=by
     rw[he,List.replicate_zero,List.append_nil,show hi=lo by omega,List.take_append_drop]
    rw[e1]
    refine⟨.tuple #[],w,?_,hw⟩
    simp[execOp,ha.ev hx,resolve,invoke,builtin,Builtin.clear_,run_underlying ht,fj,he]
   ·have hml:¬m=lo:=by omega
    have hzc:(Builtin.zeroCells (N kk 0).cells (hi-lo)).toList=List.replicate (hi-lo) (N kk 0):=by
     apply List.ext_getElem
     ·simp[Builtin.zeroCells,Value.cells]
     ·intro j h1' h2'
      simp[Builtin.zeroCells,Value.cells,Nat.mod_one]
    have hst:=en (P:=P) (off:=lo) (vs:=List.replicate (hi-lo) (N kk 0)) hh (by simp;omega) (fun v hv=>by rw[List.eq_of_mem_replicate hv];rfl)
    have e2:(cs.map (N kk)).take lo++List.replicate (hi-lo) (N kk 0)++(cs.map (N kk)).drop (lo+(List.replicate (hi-lo) (N kk 0)).length)=(cs.take lo++List.replicate (hi-lo) 0++cs.drop hi).map (N kk):=by
     rw[List.length_replicate,show lo+(hi-lo)=hi by omega]
     simp[List.map_append,List.map_take,List.map_drop]
    rw[e2]at hst
    refine⟨.tuple #[],w.setRow b ((cs.take lo++List.replicate (hi-lo) 0++cs.drop hi).map (N kk)).toArray,?_,ce hw (r':=.blk b (LV kk (cs.take lo++List.replicate (hi-lo) 0++cs.drop hi)) U) rfl rfl hh (fun w' h=>by simp only[Res.holds,LV,Value.cells];rw[h])⟩
    have hn0:hi-lo≠0:=he
    obtain⟨k,hk⟩:∃k,hi-lo=k+1:=⟨hi-lo-1,by omega⟩
    rw[hk]at hst hzc
    simp[execOp,ha.ev hx,resolve,invoke,builtin,Builtin.clear_,run_underlying ht,fj,if_neg hml,hk,cn hz,hzc,hst]) hk
end
end Go.Proofs.YtndhfbecpghinaaGreat.L
namespace Go.Proofs.YtndhfbecpghinaaGreat.L.Kf
open Pr
section aH
variable {n:Nat} [NeZero n]
def κ(n:Nat)[NeZero n](a:Nat):Fin n:=Fin.ofNat n a
theorem iO(x:Fin n):κ n x.val=x:=Fin.ext (Nat.mod_eq_of_lt x.isLt)
theorem dP(a:Nat):(κ n a).val=a%n:=rfl
theorem sD{a b:Nat}:κ n a=κ n b↔a%n=b%n:=Fin.ext_iff
theorem mh(a:Nat):κ n (a%n)=κ n a:=Fin.ext (Nat.mod_mod a n)
theorem fO(a b:Nat):κ n (a+b)=κ n a+κ n b:=Fin.ext (by rw[Fin.val_add,dP,dP,dP,← Nat.add_mod])
theorem gr(a b:Nat):κ n (a*b)=κ n a*κ n b:=Fin.ext (by rw[Fin.val_mul,dP,dP,dP,← Nat.mul_mod])
theorem κ_0:κ n 0=0:=rfl
theorem κ_1:κ n 1=1:=rfl
theorem κ_n:κ n n=0:=Fin.ext (by rw[dP,Nat.mod_self];rfl)
theorem BB{a b:Nat}(h:b≤a):κ n (a-b)=κ n a-κ n b:=by
 have h1:=fO (n:=n) (a-b) b
 rw[Nat.sub_add_cancel h]at h1
 rw[h1];grind
theorem wy{a:Nat}(h:a≤n):κ n (n-a) = - κ n a:=by
 rw[BB h,κ_n];grind
theorem f9(a:Fin n)(k:Nat):a^(k+1)=a^k*a:=rfl
theorem CG(a:Fin n):a^0=1:=rfl
theorem wA(a:Nat):∀k,κ n (a^k)=κ n a^k
 | 0=>rfl
 | k+1=>by rw[Nat.pow_succ,gr,wA a k,f9]
theorem NI(x:Fin n)(k:Nat):(x^k).val=x.val^k%n:=by
 rw[← dP,wA,iO]
theorem nj(a:Fin n)(i:Nat):∀k,a^(i+k)=a^i*a^k
 | 0=>by rw[CG];grind
 | k+1=>by rw[← Nat.add_assoc,f9,nj a i k,f9];grind
theorem rz(a:Fin n)(i:Nat):∀k,a^(i*k)=(a^i)^k
 | 0=>rfl
 | k+1=>by rw[Nat.mul_add,Nat.mul_one,nj,rz a i k,f9]
theorem F0{k:Nat}(h:0<k):(0:Fin n)^k=0:=by
 obtain⟨j,rfl⟩:∃j,k=j+1:=⟨k-1,by omega⟩
 rw[f9];grind
end aH
section field
variable {n:Nat} [NeZero n] (hp:aU n)
include hp
theorem cK:(1:Fin n)≠0:=by
 intro h
 have:=congrArg Fin.val h
 have h1:(κ n 1).val=0:=this
 rw[dP,Nat.mod_eq_of_lt hp.1]at h1
 exact absurd h1 (by decide)
omit hp in
theorem dvd_zero{a:Nat}:κ n a=0↔n∣a:=by
 rw[← κ_0,sD,Nat.zero_mod]
 exact⟨Nat.dvd_of_mod_eq_zero,Nat.mod_eq_zero_of_dvd⟩
theorem cT{a b:Fin n}(h:a*b=0):a=0∨b=0:=by
 rw[← iO a,← iO b,← gr,dvd_zero]at h
 rcases hp.dvd_mul h with h1 | h1
 ·exact .inl (by rw[← iO a];exact(dvd_zero).2 h1)
 ·exact .inr (by rw[← iO b];exact(dvd_zero).2 h1)
theorem Ln{a b c:Fin n}(hc:c≠0)(h:a*c=b*c):a=b:=by
 have:(a-b)*c=0:=by grind
 rcases cT hp this with h1 | h1
 ·grind
 ·exact absurd h1 hc
theorem kH{a:Fin n}(h:a≠0):a^(n-1)=1:=by
 have h1:¬n∣a.val:=fun hd=>h (by rw[← iO a];exact(dvd_zero).2 hd)
 have h2:=Al hp h1
 refine Fin.ext ?_
 rw[NI,h2]
 show 1=1%n
 rw[Nat.mod_eq_of_lt hp.1]
theorem xd(a:Fin n):a^n=a:=by
 have h1:=hp.1
 by_cases h:a=0
 ·subst h;exact F0 (by omega)
 ·have h2:=kH hp h
  have h3:=f9 a (n-1)
  rw[h2,Nat.sub_add_cancel (by omega)]at h3
  rw[h3];grind
omit hp
def inv(a:Fin n):Fin n:=a^(n-2)
include hp
theorem kM{a:Fin n}(h:a≠0):a*inv a=1:=by
 have h1:=hp.1
 have h2:=kH hp h
 rw[show n-1=n-2+1 by omega,f9]at h2
 rw[inv];grind
theorem Au{a b:Fin n}(h:a*b=1):inv a=b:=by
 have ha:a≠0:=by
  rintro rfl
  exact cK hp (by grind)
 have h1:=kM hp ha
 refine Ln hp ha ?_
 grind
theorem Jp{a b:Fin n}(h:a*a=b*b):a=b∨a = -b:=by
 have:(a-b)*(a+b)=0:=by grind
 rcases cT hp this with h1 | h1
 ·exact .inl (by grind)
 ·exact .inr (by grind)
end field
end Go.Proofs.YtndhfbecpghinaaGreat.L.Kf
namespace Go.Proofs.YtndhfbecpghinaaGreat.L.Kf
open Pr
abbrev P3(n:Nat):Prop:=aU n∧n%4=3
section roots
variable {n:Nat} [NeZero n]
def rt(a:Fin n):Fin n:=a^((n+1)/4)
def isq(a:Fin n):Bool:=rt a*rt a==a
def sg(a:Fin n):Nat:=a.val%2
def evn(a:Fin n):Fin n:=if sg a=1 then -a else a
variable (hp:P3 n)
include hp
theorem Bo:(2:Fin n)≠0:=by
 have h3:=hp.2
 intro h
 have:κ n 2=0:=h
 rw[dvd_zero]at this
 have:=Nat.le_of_dvd (by decide) this
 omega
theorem OR(a:Fin n):rt a*rt a=a^((n-1)/2)*a:=by
 have h3:=hp.2
 rw[rt,← nj,← f9]
 congr 1;omega
theorem xE(x:Fin n):(x*x)^((n-1)/2)=x^(n-1):=by
 have h3:=hp.2
 have:x*x=x^2:=by rw[f9,f9,CG];grind
 rw[this,← rz]
 congr 1;omega
theorem yp{a x:Fin n}(h:x*x=a):rt a*rt a=a:=by
 rw[OR hp,← h,xE hp]
 by_cases hx:x=0
 ·subst hx;grind
 ·rw[kH hp.1 hx];grind
theorem cb{a:Fin n}:isq a=true↔∃x,x*x=a:=by
 rw[isq,beq_iff_eq]
 exact⟨fun h=>⟨_,h⟩,fun⟨x,h⟩=>yp hp h⟩
theorem HG{a:Fin n}(ha:a≠0):a^((n-1)/2)=1∨a^((n-1)/2) = -1:=by
 have h3:=hp.2
 have h1:a^((n-1)/2)*a^((n-1)/2)=1*1:=by
  rw[← nj,show(n-1)/2+(n-1)/2=n-1 by omega,kH hp.1 ha];grind
 exact Jp hp.1 h1
theorem Js(a:Fin n):isq a=true∨isq (-a)=true:=by
 by_cases ha:a=0
 ·subst ha;left;exact(cb hp).2 ⟨0,by grind⟩
 ·have h1:=OR hp a
  rcases HG hp ha with h | h
  ·left;rw[h]at h1;exact(cb hp).2 ⟨rt a,by grind⟩
  ·right;rw[h]at h1;exact(cb hp).2 ⟨rt a,by grind⟩
omit hp in
theorem Cw:∀k:Nat,(-1:Fin n)^(2*k+1) = -1
 | 0=>by rw[f9,CG];grind
 | k+1=>by rw[show 2*(k+1)+1=2*k+1+1+1 by omega,f9,f9,Cw k];grind
theorem AO(x:Fin n):x*x ≠ -1:=by
 have h3:=hp.2
 intro h
 have hx:x≠0:=by
  rintro rfl
  exact cK hp.1 (by grind)
 have h1:=xE hp x
 rw[h,kH hp.1 hx,show(n-1)/2=2*(n/4)+1 by omega,Cw]at h1
 exact Bo hp (by grind)
theorem JO{x y:Fin n}(h:x*x+y*y=0):x=0∧y=0:=by
 by_cases hy:y=0
 ·subst hy
  have:x*x=0:=by grind
  rcases cT hp.1 this with h1 | h1 <;> exact⟨h1,rfl⟩
 ·exfalso
  have h1:=kM hp.1 hy
  refine AO hp (x*inv y) ?_
  have:(x*inv y)*(x*inv y)=(x*x)*(inv y*inv y):=by grind
  rw[this,show x*x = -(y*y) by grind]
  have:-(y*y)*(inv y*inv y) = -((y*inv y)*(y*inv y)):=by grind
  rw[this,h1];grind
theorem Is{a:Fin n}(ha:a≠0)(h1:isq a=true)(h2:isq (-a)=true):False:=by
 obtain⟨x,hx⟩:=(cb hp).1 h1
 obtain⟨y,hy⟩:=(cb hp).1 h2
 have:=JO hp (x:=x) (y:=y) (by grind)
 exact ha (by rw[← hx,this.1];grind)
theorem fS{a:Fin n}(ha:a≠0):isq (-a) = !isq a:=by
 cases h1:isq a
 ·rcases Js hp a with h | h
  ·rw[h1]at h;exact absurd h (by decide)
  ·rw[h];rfl
 ·cases h2:isq (-a)
  ·rfl
  ·exact(Is hp ha h1 h2).elim
theorem Ck{a b:Fin n}(ha:a≠0)(hb:b≠0):isq (a*b)=(isq a==isq b):=by
 have hm:∀x y:Fin n,isq x=true→isq y=true→isq (x*y)=true:=by
  intro x y hx hy
  obtain⟨s,hs⟩:=(cb hp).1 hx
  obtain⟨t,ht⟩:=(cb hp).1 hy
  exact(cb hp).2 ⟨s*t,by grind⟩
 have hab:a*b≠0:=fun h=>by
  rcases cT hp.1 h with h | h
  ·exact ha h
  ·exact hb h
 have e1:-a*b = -(a*b):=by grind
 have e2:a * -b = -(a*b):=by grind
 have e3:-a * -b=a*b:=by grind
 cases h1:isq a <;> cases h2:isq b
 ·rw[← e3,hm _ _ (by rw[fS hp ha,h1];rfl) (by rw[fS hp hb,h2];rfl)];rfl
 ·have:=hm (-a) b (by rw[fS hp ha,h1];rfl) h2
  rw[e1,fS hp hab]at this
  cases h:isq (a*b)
  ·rfl
  ·rw[h]at this;exact absurd this (by decide)
 ·have:=hm a (-b) h1 (by rw[fS hp hb,h2];rfl)
  rw[e2,fS hp hab]at this
  cases h:isq (a*b)
  ·rfl
  ·rw[h]at this;exact absurd this (by decide)
 ·rw[hm a b h1 h2];rfl
omit hp in
theorem NH{a:Fin n}(ha:a≠0):(-a).val=n-a.val:=by
 have h0:a.val≠0:=fun h=>ha (Fin.ext h)
 have:=a.isLt
 rw[← iO a,← wy (by omega),dP,dP,Nat.mod_eq_of_lt this,Nat.mod_eq_of_lt (by omega)]
theorem Jh{a:Fin n}(ha:a≠0):sg a+sg (-a)=1:=by
 have h3:=hp.2
 have h:=NH ha
 have:=a.isLt
 rw[sg,sg,h];omega
omit hp
include hp
omit hp
theorem Ra(a:Fin n):evn a*evn a=a*a:=by
 rw[evn];split <;> grind
end roots
structure K2 (n:Nat) where
 re:Fin n
 im:Fin n
deriving DecidableEq
namespace K2
variable {n:Nat} [NeZero n]
omit [NeZero n] in
theorem ext'{a b:K2 n}(h1:a.re=b.re)(h2:a.im=b.im):a=b:=by
 cases a;cases b;cases h1;cases h2;rfl
def zero:K2 n:=⟨0,0⟩
def one:K2 n:=⟨1,0⟩
def add(a b:K2 n):K2 n:=⟨a.re+b.re,a.im+b.im⟩
def neg(a:K2 n):K2 n:=⟨-a.re,-a.im⟩
def sub(a b:K2 n):K2 n:=⟨a.re-b.re,a.im-b.im⟩
def mul(a b:K2 n):K2 n:=⟨a.re*b.re-a.im*b.im,a.re*b.im+a.im*b.re⟩
def conj(a:K2 n):K2 n:=⟨a.re,-a.im⟩
def gs(a:K2 n)(k:Fin n):K2 n:=⟨a.re*k,a.im*k⟩
def bX(a:K2 n):Fin n:=a.re*a.re+a.im*a.im
def inv(a:K2 n):K2 n:=gs (conj a) (Kf.inv (bX a))
def pw(a:K2 n):Nat→K2 n
 | 0=>one
 | k+1=>mul (pw a k) a
def sgn(a:K2 n):Nat:=if a.re=0 then sg a.im else sg a.re
theorem mul_comm'(a b:K2 n):mul a b=mul b a:=ext' (by simp only[mul];grind) (by simp only[mul];grind)
theorem mul_assoc'(a b c:K2 n):mul (mul a b) c=mul a (mul b c):=ext' (by simp only[mul];grind) (by simp only[mul];grind)
theorem mul_one'(a:K2 n):mul a one=a:=ext' (by simp only[mul,one];grind) (by simp only[mul,one];grind)
theorem aR(a:K2 n):mul one a=a:=ext' (by simp only[mul,one];grind) (by simp only[mul,one];grind)
theorem mul_add'(a b c:K2 n):mul a (add b c)=add (mul a b) (mul a c):=ext' (by simp only[mul,add];grind) (by simp only[mul,add];grind)
theorem aj(a:K2 n):mul a zero=zero:=ext' (by simp only[mul,zero];grind) (by simp only[mul,zero];grind)
theorem add_zero'(a:K2 n):add a zero=a:=ext' (by simp only[add,zero];grind) (by simp only[add,zero];grind)
theorem add_comm'(a b:K2 n):add a b=add b a:=ext' (by simp only[add];grind) (by simp only[add];grind)
theorem add_assoc'(a b c:K2 n):add (add a b) c=add a (add b c):=ext' (by simp only[add];grind) (by simp only[add];grind)
theorem i6(a b:K2 n):bX (mul a b)=bX a*bX b:=by simp only[bX,mul];grind
theorem bv(a:K2 n):neg (neg a)=a:=ext' (by simp only[neg];grind) (by simp only[neg];grind)
theorem oX(a b:K2 n):mul (neg a) (neg b)=mul a b:=ext' (by simp only[mul,neg];grind) (by simp only[mul,neg];grind)
theorem dO(a:K2 n)(i:Nat):∀k,pw a (i+k)=mul (pw a i) (pw a k)
 | 0=>by rw[pw,mul_one',Nat.add_zero]
 | k+1=>by rw[← Nat.add_assoc,pw,dO a i k,pw,mul_assoc']
theorem bN(a:K2 n)(i:Nat):∀k,pw a (i*k)=pw (pw a i) k
 | 0=>rfl
 | k+1=>by rw[Nat.mul_add,Nat.mul_one,dO,bN a i k,pw]
theorem ef(a b:K2 n):∀k,pw (mul a b) k=mul (pw a k) (pw b k)
 | 0=>by simp only[pw,mul_one']
 | k+1=>by
  rw[pw,ef a b k,pw,pw]
  generalize pw a k=x;generalize pw b k=y
  exact ext' (by simp only[mul];grind) (by simp only[mul];grind)
theorem ek:∀k,pw (one:K2 n) k=one
 | 0=>rfl
 | k+1=>by rw[pw,ek k,mul_one']
theorem AZ(a:K2 n):pw a 1=a:=aR a
theorem nq(x:Fin n):∀k,pw ⟨x,0⟩ k=⟨x^k,0⟩
 | 0=>rfl
 | k+1=>by rw[pw,nq x k,f9];exact ext' (by simp only[mul];grind) (by simp only[mul];grind)
variable (hp:P3 n)
include hp
theorem oq{a:K2 n}(h:bX a=0):a=zero:=by
 have:=JO hp h
 exact ext' this.1 this.2
theorem pQ{a:K2 n}(h:a≠zero):bX a≠0:=fun hc=>h (oq hp hc)
theorem aW{a b:K2 n}(h:mul a b=zero):a=zero∨b=zero:=by
 have h1:bX a*bX b=0:=by rw[← i6,h];simp only[bX,zero];grind
 rcases cT hp.1 h1 with h2 | h2
 ·exact .inl (oq hp h2)
 ·exact .inr (oq hp h2)
theorem aI{a:K2 n}(h:a≠zero):mul a (inv a)=one:=by
 have h1:=kM hp.1 (pQ hp h)
 generalize hN:Kf.inv (bX a)=N at h1
 simp only[inv,hN]
 simp only[bX]at h1
 refine ext' ?_ ?_
 ·simp only[mul,gs,conj,one];grind
 ·simp only[mul,gs,conj,one];grind
theorem BJ{a b c:K2 n}(hc:c≠zero)(h:mul a c=mul b c):a=b:=by
 have h1:mul (mul a c) (inv c)=mul (mul b c) (inv c):=by rw[h]
 rwa [mul_assoc',mul_assoc',aI hp hc,mul_one',mul_one']at h1
theorem Jq{a b:K2 n}(h:mul a a=mul b b):a=b∨a=neg b:=by
 have:mul (sub a b) (add a b)=zero:=by
  have e1:=congrArg re h
  have e2:=congrArg im h
  simp only[mul]at e1 e2
  refine ext' ?_ ?_
  ·simp only[mul,sub,add,zero];grind
  ·simp only[mul,sub,add,zero];grind
 rcases aW hp this with h1 | h1
 ·left
  have e1:=congrArg re h1
  have e2:=congrArg im h1
  simp only[sub,zero]at e1 e2
  exact ext' (by grind) (by grind)
 ·right
  have e1:=congrArg re h1
  have e2:=congrArg im h1
  simp only[add,zero]at e1 e2
  exact ext' (by simp only[neg];grind) (by simp only[neg];grind)
theorem CY{a:K2 n}(ha:a≠zero):sgn a+sgn (neg a)=1:=by
 by_cases h:a.re=0
 ·have him:a.im≠0:=fun hc=>ha (ext' h hc)
  have e1:sgn a=sg a.im:=if_pos h
  have e2:sgn (neg a)=sg (-a.im):=if_pos (show -a.re=0 by rw[h];grind)
  rw[e1,e2]
  exact Jh hp him
 ·have e1:sgn a=sg a.re:=if_neg h
  have e2:sgn (neg a)=sg (-a.re):=if_neg (show ¬ -a.re=0 from fun hc=>h (by grind))
  rw[e1,e2]
  exact Jh hp h
omit hp
theorem Jk:sgn (zero:K2 n)=0:=by simp only[sgn,zero,if_true];rfl
theorem bj:neg (zero:K2 n)=zero:=ext' (by simp only[neg,zero];grind) (by simp only[neg,zero];grind)
def dm(a:K2 n):K2 n:=if sgn a=1 then neg a else a
theorem A6(a:K2 n):sgn a<2:=by
 simp only[sgn];split <;> exact Nat.mod_lt _ (by decide)
include hp
theorem yq(a:K2 n):sgn (dm a)=0:=by
 rw[dm]
 have:=A6 a
 split
 ·rename_i h
  by_cases ha:a=zero
  ·subst ha;exact absurd h (by rw[Jk];decide)
  ·have:=CY hp ha;omega
 ·omega
omit hp
theorem BY(a:K2 n):mul (dm a) (dm a)=mul a a:=by
 rw[dm];split
 ·exact oX a a
 ·rfl
include hp
end K2
end Go.Proofs.YtndhfbecpghinaaGreat.L.Kf
namespace Go.Proofs.YtndhfbecpghinaaGreat.L.Kf
open Pr
namespace K2
variable {n:Nat} [NeZero n]
def ch:Nat→Nat→Nat
 | _,0=>1
 | 0,_+1=>0
 | m+1,k+1=>ch m k+ch m (k+1)
theorem uI(m:Nat):ch m 0=1:=by cases m <;> rfl
theorem sS:∀{m k:Nat},m<k→ch m k=0
 | 0,0,h=>absurd h (by decide)
 | 0,_+1,_=>rfl
 | m+1,0,h=>absurd h (by omega)
 | m+1,k+1,h=>by rw[ch,sS (by omega),sS (by omega)]
theorem pI:∀m,ch m m=1
 | 0=>rfl
 | m+1=>by rw[ch,pI m,sS (by omega)]
theorem uJ:∀m k,(k+1)*ch (m+1) (k+1)=(m+1)*ch m k
 | 0,0=>rfl
 | 0,k+1=>by rw[sS (by omega),sS (m:=0) (by omega)];omega
 | m+1,0=>by
  have h0:ch (m+1+1) (0+1)=ch (m+1) 0+ch (m+1) (0+1):=rfl
  have:=uJ m 0
  rw[uI]at this
  rw[h0,uI]
  omega
 | m+1,j+1=>by
  have h1:=uJ m j
  have h2:=uJ m (j+1)
  rw[ch]
  have h3:ch (m+1) (j+1)=ch m j+ch m (j+1):=rfl
  generalize ch (m+1) (j+1+1)=a at *
  generalize ch m (j+1)=b at *
  generalize ch m j=c at *
  generalize ch (m+1) (j+1)=d at *
  subst h3
  grind
omit [NeZero n] in
theorem z9(hp:aU n){k:Nat}(h0:0<k)(hk:k<n):n∣ch n k:=by
 obtain⟨j,rfl⟩:∃j,k=j+1:=⟨k-1,by omega⟩
 have h:=uJ (n-1) j
 rw[Nat.sub_add_cancel (by omega)]at h
 rcases hp.dvd_mul (a:=j+1) (b:=ch n (j+1)) ⟨_,h⟩with h1 | h1
 ·have:=Nat.le_of_dvd (by omega) h1
  omega
 ·exact h1
def nm(c:Nat)(a:K2 n):K2 n:=gs a (κ n c)
def sm(f:Nat→K2 n):Nat→K2 n
 | 0=>zero
 | k+1=>add (sm f k) (f k)
theorem jC{f:Nat→K2 n}:∀{R},(∀k,k<R→f k=zero)→sm f R=zero
 | 0,_=>rfl
 | R+1,h=>by rw[sm,jC fun k hk=>h k (by omega),h R (by omega),add_zero']
theorem g9{f g:Nat→K2 n}:∀{R},(∀k,k<R→f k=g k)→sm f R=sm g R
 | 0,_=>rfl
 | R+1,h=>by rw[sm,sm,g9 fun k hk=>h k (by omega),h R (by omega)]
theorem dD(f:Nat→K2 n):∀R,sm f (R+1)=add (f 0) (sm (fun k=>f (k+1)) R)
 | 0=>by rw[sm,sm,sm,add_comm']
 | R+1=>by rw[sm,dD f R,sm,add_assoc']
theorem rM(f g:Nat→K2 n):∀R,sm (fun k=>add (f k) (g k)) R=add (sm f R) (sm g R)
 | 0=>(add_zero' _).symm
 | R+1=>by
  rw[sm,rM f g R,sm,sm]
  generalize sm f R=a;generalize sm g R=b
  exact ext' (by simp only[add];grind) (by simp only[add];grind)
theorem rO(a:K2 n)(f:Nat→K2 n):∀R,mul a (sm f R)=sm (fun k=>mul a (f k)) R
 | 0=>aj a
 | R+1=>by rw[sm,mul_add',rO a f R,sm]
theorem RZ(b c:Nat)(a:K2 n):nm (b+c) a=add (nm b a) (nm c a):=by
 simp only[nm,fO]
 exact ext' (by simp only[gs,add];grind) (by simp only[gs,add];grind)
theorem AQ(a:K2 n):nm 1 a=a:=by
 simp only[nm,κ_1]
 exact ext' (by simp only[gs];grind) (by simp only[gs];grind)
theorem U6{c:Nat}(h:κ n c=0)(a:K2 n):nm c a=zero:=by
 simp only[nm,h]
 exact ext' (by simp only[gs,zero];grind) (by simp only[gs,zero];grind)
theorem R2(c:Nat)(a b:K2 n):mul a (nm c b)=nm c (mul b a):=
 ext' (by simp only[gs,nm,mul];grind) (by simp only[gs,nm,mul];grind)
theorem qm(X:K2 n):∀m R,m<R→pw (add X one) m=sm (fun k=>nm (ch m k) (pw X k)) R
 | 0,R,h=>by
  obtain⟨r,rfl⟩:∃r,R=r+1:=⟨R-1,by omega⟩
  rw[dD,jC (f:=fun k=>nm (ch 0 (k+1)) (pw X (k+1))) fun k _=>U6 rfl _,add_zero']
  show one=nm 1 one
  rw[AQ]
 | m+1,R,h=>by
  obtain⟨r,rfl⟩:∃r,R=r+1:=⟨R-1,by omega⟩
  have h1:=qm X m r (by omega)
  have h2:=qm X m (r+1) (by omega)
  rw[dD]at h2
  rw[pw,mul_add',mul_one',dD]
  have e1:mul (pw (add X one) m) X=sm (fun k=>nm (ch m k) (pw X (k+1))) r:=by
   rw[mul_comm',h1,rO]
   exact g9 fun k _=>by rw[R2,pw]
  have e2:sm (fun k=>nm (ch (m+1) (k+1)) (pw X (k+1))) r=add (sm (fun k=>nm (ch m k) (pw X (k+1))) r) (sm (fun k=>nm (ch m (k+1)) (pw X (k+1))) r):=by
   rw[← rM]
   exact g9 fun k _=>by rw[ch,RZ]
  rw[e1,e2,h2,uI,uI]
  generalize sm (fun k=>nm (ch m k) (pw X (k+1))) r=a
  generalize sm (fun k=>nm (ch m (k+1)) (pw X (k+1))) r=b
  generalize nm 1 (pw X 0)=c
  exact ext' (by simp only[add];grind) (by simp only[add];grind)
theorem wx{k:Nat}(h:0<k):pw (zero:K2 n) k=zero:=by
 obtain⟨j,rfl⟩:∃j,k=j+1:=⟨k-1,by omega⟩
 rw[pw,aj]
theorem Hn(hp:aU n)(X:K2 n):pw (add X one) n=add (pw X n) one:=by
 have h1:=hp.1
 obtain⟨m,hm⟩:∃m,n=m+1:=⟨n-1,by omega⟩
 have h:=qm X n (n+1) (by omega)
 rw[h,sm,pI,AQ,add_comm']
 congr 1
 have:∀N,N=m+1→sm (fun k=>nm (ch n k) (pw X k)) N=one:=by
  rintro N rfl
  rw[dD,jC (f:=fun k=>nm (ch n (k+1)) (pw X (k+1))) fun k hk=>U6 ((dvd_zero).2 (z9 hp (by omega) (by omega))) _,add_zero',uI,AQ]
  rfl
 exact this n hm
variable (hp:P3 n)
include hp
theorem qN(X Y:K2 n):pw (add X Y) n=add (pw X n) (pw Y n):=by
 by_cases hY:Y=zero
 ·subst hY
  rw[add_zero',wx hp.1.pos,add_zero']
 ·have e1:add X Y=mul (add (mul X (inv Y)) one) Y:=by
   rw[mul_comm',mul_add',mul_one',mul_comm' X,← mul_assoc',aI hp hY,aR]
  have e2:mul (mul X (inv Y)) Y=X:=by
   rw[mul_assoc',mul_comm' (inv Y),aI hp hY,mul_one']
  rw[e1,ef,Hn hp.1,mul_comm',mul_add',mul_one',mul_comm' (pw Y n),← ef,e2]
theorem UI(a:K2 n):pw a n=conj a:=by
 have h3:=hp.2
 have e:a=add ⟨a.re,0⟩ (mul ⟨a.im,0⟩ ⟨0,1⟩):=ext' (by simp only[add,mul];grind) (by simp only[add,mul];grind)
 have hu:pw (⟨0,1⟩:K2 n) n=⟨0,-1⟩:=by
  have h4:pw (⟨0,1⟩:K2 n) 4=one:=by
   simp only[pw,one]
   exact ext' (by simp only[mul];grind) (by simp only[mul];grind)
  have:∀N,N=4*(n/4)+3→pw (⟨0,1⟩:K2 n) N=⟨0,-1⟩:=by
   rintro N rfl
   rw[dO,bN,h4,ek,aR]
   simp only[pw,one]
   exact ext' (by simp only[mul];grind) (by simp only[mul];grind)
  exact this n (by omega)
 conv=>lhs;rw[e]
 rw[qN hp,ef,nq,nq,xd hp.1,xd hp.1,hu]
 exact ext' (by simp only[add,mul,conj];grind) (by simp only[add,mul,conj];grind)
omit hp
def hv(n:Nat)[NeZero n]:Fin n:=κ n ((n+1)/2)
def fsq(a:Fin n):Fin n×Bool:=if rt a*rt a=a then(evn (rt a),true)else(0,false)
def gc(a:K2 n)(m:Fin n):K2 n×Bool:=
 if(fsq ((a.re+m)*hv n)).1=0 then
  (dm ⟨0,(fsq (-a.re)).1⟩,(fsq (-a.re)).2&&decide (mul (dm ⟨0,(fsq (-a.re)).1⟩) (dm ⟨0,(fsq (-a.re)).1⟩)=a))
 else(dm ⟨(fsq ((a.re+m)*hv n)).1,a.im*hv n*Kf.inv (fsq ((a.re+m)*hv n)).1⟩,(fsq ((a.re+m)*hv n)).2&&decide (mul (dm ⟨(fsq ((a.re+m)*hv n)).1,a.im*hv n*Kf.inv (fsq ((a.re+m)*hv n)).1⟩) (dm ⟨(fsq ((a.re+m)*hv n)).1,a.im*hv n*Kf.inv (fsq ((a.re+m)*hv n)).1⟩)=a))
def cN(a:K2 n):K2 n×Bool:=
 if(fsq (bX a)).2 then
  if(gc a (fsq (bX a)).1).2 then((gc a (fsq (bX a)).1).1,true)
  else if(gc a (-(fsq (bX a)).1)).2 then((gc a (-(fsq (bX a)).1)).1,true)
  else(zero,false)
 else(zero,false)
def Ql(a:K2 n)(r:K2 n×Bool):Prop:=(r.2=true∧mul r.1 r.1=a∧sgn r.1=0)∨(r.2=false∧r.1=zero∧∀w,mul w w≠a)
include hp
theorem LW:2*hv n=1:=by
 have h3:=hp.2
 have h:κ n (2*((n+1)/2))=1:=by
  rw[show 2*((n+1)/2)=n+1 by omega,fO,κ_n,κ_1];grind
 rw[gr]at h
 exact h
theorem pL{a x:Fin n}(h:x*x=a):(fsq a).2=true∧(fsq a).1*(fsq a).1=a:=by
 have h1:=yp hp h
 rw[fsq,if_pos h1]
 exact⟨rfl,by show evn (rt a)*evn (rt a)=a;rw[Ra,h1]⟩
omit hp
include hp
theorem r8{a:K2 n}{m:Fin n}(h:(gc a m).2=true):mul (gc a m).1 (gc a m).1=a∧sgn (gc a m).1=0:=by
 rw[gc]at h ⊢
 split
 ·rename_i hc
  rw[if_pos hc]at h
  simp only[Bool.and_eq_true,decide_eq_true_eq]at h
  exact⟨h.2,yq hp _⟩
 ·rename_i hc
  rw[if_neg hc]at h
  simp only[Bool.and_eq_true,decide_eq_true_eq]at h
  exact⟨h.2,yq hp _⟩
theorem J1{a w:K2 n}(h:mul w w=a):(gc a (w.re*w.re+w.im*w.im)).2=true:=by
 have h2:=LW hp
 generalize hv n=v at h2
 obtain⟨s,t⟩:=w
 have e1:a.re=s*s-t*t:=by rw[← h];rfl
 have e2:a.im=s*t+t*s:=by rw[← h];rfl
 have e3:(a.re+(s*s+t*t))*hv n=s*s:=by
  have h2:=LW hp
  rw[e1]
  generalize hv n=v at h2
  grind
 have hx:=pL hp (x:=s) (a:=s*s) rfl
 simp only[gc]
 rw[e3]
 generalize hX:(fsq (s*s)).1=X at hx
 by_cases h0:X=0
 ·rw[if_pos h0]
  have hs:s=0:=by
   have:s*s=0:=by rw[← hx.2,h0];grind
   rcases cT hp.1 this with h | h <;> exact h
  have hy:=pL hp (x:=t) (a:=-a.re) (by rw[e1,hs];grind)
  generalize (fsq (-a.re)).1=Y at hy
  simp only[Bool.and_eq_true,decide_eq_true_eq]
  refine⟨hy.1,?_⟩
  rw[BY]
  have hy2:=hy.2
  rw[e1]at hy2
  subst hs
  refine ext' ?_ ?_
  ·rw[e1];simp only[mul];grind
  ·rw[e2];simp only[mul];grind
 ·rw[if_neg h0]
  simp only[Bool.and_eq_true,decide_eq_true_eq]
  refine⟨hx.1,?_⟩
  rw[BY]
  have hi:=kM hp.1 h0
  have hv2:=LW hp
  have hx2:=hx.2
  generalize Kf.inv X=I at hi
  generalize hv n=v at hv2
  have hy:a.im*v*I=s*t*I:=by rw[e2];grind
  rw[hy]
  refine ext' ?_ ?_
  ·rw[e1];simp only[mul]
   have:s*t*I*(s*t*I)=(s*s)*(t*t)*(I*I):=by grind
   rw[this,← hx2]
   have:X*X*(t*t)*(I*I)=t*t*((X*I)*(X*I)):=by grind
   rw[this,hi];grind
  ·rw[e2];simp only[mul]
   have:X*(s*t*I)=s*t*(X*I):=by grind
   rw[this]
   have:s*t*I*X=s*t*(X*I):=by grind
   rw[this,hi];grind
theorem jD(a:K2 n):Ql a (cN a):=by
 have key:∀w,mul w w=a→(fsq (bX a)).2=true∧((gc a (fsq (bX a)).1).2=true∨(gc a (-(fsq (bX a)).1)).2=true):=by
  intro w hw
  have hN:(w.re*w.re+w.im*w.im)*(w.re*w.re+w.im*w.im)=bX a:=by rw[← hw,i6];rfl
  have h1:=pL hp hN
  refine⟨h1.1,?_⟩
  have ht:=J1 hp hw
  rcases Jp hp.1 (h1.2.trans hN.symm)with h | h
  ·left;rw[h];exact ht
  ·right;rw[h,show -(-(w.re*w.re+w.im*w.im))=w.re*w.re+w.im*w.im by grind];exact ht
 rw[cN]
 split
 ·split
  ·rename_i h
   exact .inl ⟨rfl,r8 hp h⟩
  ·rename_i hn1
   split
   ·rename_i h
    exact .inl ⟨rfl,r8 hp h⟩
   ·rename_i hn2
    refine .inr ⟨rfl,rfl,fun w hw=>?_⟩
    rcases(key w hw).2 with h | h
    ·exact hn1 h
    ·exact hn2 h
 ·rename_i hn
  exact .inr ⟨rfl,rfl,fun w hw=>hn (key w hw).1⟩
omit hp
def gA(a:K2 n):Bool:=(cN a).2
include hp
theorem eY{a:K2 n}:gA a=true↔∃w,mul w w=a:=by
 rcases jD hp a with⟨h1,h2,_⟩ | ⟨h1,_,h2⟩
 ·exact⟨fun _=>⟨_,h2⟩,fun _=>h1⟩
 ·exact⟨fun h=>(by rw[gA,h1]at h;exact absurd h (by decide)),fun⟨w,hw⟩=>absurd hw (h2 w)⟩
theorem fD(a:K2 n):gA a=isq (bX a):=by
 have h1:gA a=true→isq (bX a)=true:=by
  intro h
  obtain⟨w,rfl⟩:=(eY hp).1 h
  rw[i6]
  exact(cb hp).2 ⟨_,rfl⟩
 have h2:isq (bX a)=true→gA a=true:=by
  intro h
  obtain⟨m,hm⟩:=(cb hp).1 h
  have hv2:=LW hp
  refine(eY hp).2 ?_
  by_cases hi:a.im=0
  ·rcases Js hp a.re with hr | hr
   ·obtain⟨x,hx⟩:=(cb hp).1 hr
    exact⟨⟨x,0⟩,ext' (by simp only[mul];grind) (by simp only[mul];grind)⟩
   ·obtain⟨x,hx⟩:=(cb hp).1 hr
    exact⟨⟨0,x⟩,ext' (by simp only[mul];grind) (by simp only[mul];grind)⟩
  ·have hN:bX a=a.re*a.re+a.im*a.im:=rfl
   rw[hN]at hm
   generalize hv n=v at hv2
   have key:∀x m':Fin n,m'*m'=a.re*a.re+a.im*a.im→x*x=(a.re+m')*v→∃w,mul w w=a:=by
    intro x m' hm' hx
    have hx0:x≠0:=by
     rintro rfl
     have h0:m' = -a.re:=by
      have:2*((a.re+m')*v)=0:=by rw[← hx];grind
      have:(a.re+m')*(2*v)=0:=by grind
      rw[hv2]at this;grind
     have:a.im*a.im=0:=by rw[h0]at hm';grind
     rcases cT hp.1 this with h | h <;> exact hi h
    have hI:=kM hp.1 hx0
    generalize Kf.inv x=I at hI
    refine⟨⟨x,a.im*v*I⟩,ext' ?_ ?_⟩
    ·simp only[mul]
     have h5:(a.im*v)*(a.im*v)=(x*x)*(x*x)-a.re*(x*x):=by
      rw[hx]
      have:a.im*a.im=m'*m'-a.re*a.re:=by grind
      have e:(a.im*v)*(a.im*v)=(a.im*a.im)*(v*v):=by grind
      rw[e,this]
      have:2*v*v=v:=by rw[hv2];grind
      grind
     have h6:a.im*v*I*(a.im*v*I)=(a.im*v)*(a.im*v)*(I*I):=by grind
     rw[h6,h5]
     have h7:((x*x)*(x*x)-a.re*(x*x))*(I*I)=(x*x)*((x*I)*(x*I))-a.re*((x*I)*(x*I)):=by grind
     rw[h7,hI];grind
    ·simp only[mul]
     have:x*(a.im*v*I)+a.im*v*I*x=a.im*(2*v)*(x*I):=by grind
     rw[this,hv2,hI];grind
   rcases Js hp ((a.re+m)*v)with hr | hr
   ·obtain⟨x,hx⟩:=(cb hp).1 hr
    exact key x m hm hx
   ·
    have hne:(a.re+m)*v≠0:=by
     intro h0
     have h00:(a.re+m)*(2*v)=0:=by grind
     rw[hv2]at h00
     have hme:m = -a.re:=by grind
     have:a.im*a.im=0:=by rw[hme]at hm;grind
     rcases cT hp.1 this with h | h <;> exact hi h
    have hne2:(a.re-m)*v≠0:=by
     intro h0
     have h00:(a.re-m)*(2*v)=0:=by grind
     rw[hv2]at h00
     have hme:m=a.re:=by grind
     have:a.im*a.im=0:=by rw[hme]at hm;grind
     rcases cT hp.1 this with h | h <;> exact hi h
    have hprod:-((a.re+m)*v)*((a.re-m)*v)=(a.im*v)*(a.im*v):=by
     have:a.im*a.im=m*m-a.re*a.re:=by grind
     have e:(a.im*v)*(a.im*v)=(a.im*a.im)*(v*v):=by grind
     rw[e,this];grind
    have hsq:isq ((a.im*v)*(a.im*v))=true:=(cb hp).2 ⟨_,rfl⟩
    rw[← hprod,Ck hp (fun h=>hne (by grind)) hne2,hr]at hsq
    have hr2:isq ((a.re-m)*v)=true:=by
     cases h:isq ((a.re-m)*v)
     ·rw[h]at hsq;exact absurd hsq (by decide)
     ·rfl
    obtain⟨x,hx⟩:=(cb hp).1 hr2
    exact key x (-m) (by grind) (by rw[hx];grind)
 cases h:gA a
 ·cases k:isq (bX a)
  ·rfl
  ·rw[h2 k]at h;exact absurd h (by decide)
 ·rw[h1 h]
end K2
end Go.Proofs.YtndhfbecpghinaaGreat.L.Kf
namespace Go.Proofs.YtndhfbecpghinaaGreat.L.Kf.K2
open Pr
variable {n:Nat} [NeZero n]
theorem Tj{a:K2 n}{m:Fin n}{s:Fin n×Bool}{o:K2 n}(hs:s=fsq ((a.re+m)*hv n))(h:s.1=0)(ho:o=⟨s.1,(fsq (-a.re)).1⟩):
  gc a m=(dm o,(fsq (-a.re)).2&&decide (mul (dm o) (dm o)=a)):=by
 subst hs
 subst ho
 rw[h,gc,if_pos h]
theorem Tl{a:K2 n}{m:Fin n}{s:Fin n×Bool}{o:K2 n}(hs:s=fsq ((a.re+m)*hv n))(h:¬s.1=0)(ho:o=⟨s.1,a.im*hv n*Kf.inv s.1⟩):
  gc a m=(dm o,s.2&&decide (mul (dm o) (dm o)=a)):=by
 subst hs
 subst ho
 rw[gc,if_neg h]
theorem GT{a:K2 n}{g:Nat}(hg:g=sgn a)(h:g=1):dm a=neg a:=if_pos (hg.symm.trans h)
theorem GS{a:K2 n}{g:Nat}(hg:g=sgn a)(h:¬g=1):dm a=a:=if_neg fun e=>h (hg.trans e)
theorem M5{a:K2 n}{s:Fin n×Bool}(hs:s=fsq (bX a))(h:s.2=false):cN a=(zero,false):=by
 subst hs
 rw[cN,if_neg (by rw[h];decide)]
theorem M6{a:K2 n}{s:Fin n×Bool}{t:K2 n×Bool}(hs:s=fsq (bX a))(h:s.2=true)(ht:t=gc a s.1)(h1:t.2=true):cN a=(t.1,true):=by
 subst hs
 subst ht
 rw[cN,if_pos h,if_pos h1]
theorem M7{a:K2 n}{s:Fin n×Bool}{t v:K2 n×Bool}(hs:s=fsq (bX a))(h:s.2=true)(ht:t=gc a s.1)(h1:t.2=false)(hv:v=gc a (-s.1))(h2:v.2=true):cN a=(v.1,true):=by
 subst hs
 subst ht
 subst hv
 rw[cN,if_pos h,if_neg (by rw[h1];decide),if_pos h2]
theorem M8{a:K2 n}{s:Fin n×Bool}{t v:K2 n×Bool}(hs:s=fsq (bX a))(h:s.2=true)(ht:t=gc a s.1)(h1:t.2=false)(hv:v=gc a (-s.1))(h2:v.2=false):cN a=(zero,false):=by
 subst hs
 subst ht
 subst hv
 rw[cN,if_pos h,if_neg (by rw[h1];decide),if_neg (by rw[h2];decide)]
theorem qZ(a:K2 n):gA a=(cN a).2:=rfl
end Go.Proofs.YtndhfbecpghinaaGreat.L.Kf.K2
namespace Go.Proofs.YtndhfbecpghinaaGreat.L.Kf
open Pr
namespace K2
variable {n:Nat} [NeZero n]
instance mulA:Std.Associative (α:=K2 n) mul:=⟨mul_assoc'⟩
instance mulC:Std.Commutative (α:=K2 n) mul:=⟨mul_comm'⟩
instance addA:Std.Associative (α:=K2 n) add:=⟨add_assoc'⟩
instance addC:Std.Commutative (α:=K2 n) add:=⟨add_comm'⟩
theorem dd(a b:K2 n):mul (neg a) b=neg (mul a b):=ext' (by simp only[mul,neg];grind) (by simp only[mul,neg];grind)
theorem eZ(a b:K2 n):mul a (neg b)=neg (mul a b):=ext' (by simp only[mul,neg];grind) (by simp only[mul,neg];grind)
theorem add_neg'(a:K2 n):add a (neg a)=zero:=ext' (by simp only[add,neg,zero];grind) (by simp only[add,neg,zero];grind)
theorem dB(a b:K2 n):neg (add a b)=add (neg a) (neg b):=ext' (by simp only[add,neg];grind) (by simp only[add,neg];grind)
theorem aZ(a:K2 n):sub a a=zero:=ext' (by simp only[sub,zero];grind) (by simp only[sub,zero];grind)
theorem sub_eq(a b:K2 n):sub a b=add a (neg b):=ext' (by simp only[sub,add,neg];grind) (by simp only[sub,add,neg];grind)
theorem aE{a b:K2 n}(h:sub a b=zero):a=b:=by
 have e1:=congrArg re h
 have e2:=congrArg im h
 simp only[sub,zero]at e1 e2
 exact ext' (by grind) (by grind)
theorem aP{a b:K2 n}(h:add a b=zero):a=neg b:=by
 have e1:=congrArg re h
 have e2:=congrArg im h
 simp only[add,zero]at e1 e2
 exact ext' (by simp only[neg];grind) (by simp only[neg];grind)
theorem aM(a:K2 n):add zero a=a:=by rw[add_comm',add_zero']
theorem aG(a:K2 n):mul zero a=zero:=by rw[mul_comm',aj]
theorem cS(a b c:K2 n):mul (add a b) c=add (mul a c) (mul b c):=by rw[mul_comm',mul_add',mul_comm' c a,mul_comm' c b]
theorem mZ{a:K2 n}:neg a=zero↔a=zero:=⟨fun h=>by rw[← bv a,h,bj],fun h=>by rw[h,bj]⟩
theorem Jv{a b w s x:K2 n}(ht:mul (add (mul w w) w) s=one)(hx:mul a x=neg (mul b (add one s))):
  add (add (mul (mul (mul w x) (mul w x)) (mul w x)) (mul a (mul w x))) b=mul (mul (mul w w) w) (add (add (mul (mul x x) x) (mul a x)) b):=by
 have e1:mul (mul (mul w x) (mul w x)) (mul w x)=mul (mul (mul w w) w) (mul (mul x x) x):=by ac_rfl
 have e2:mul a (mul w x)=mul w (mul a x):=by ac_rfl
 rw[mul_add',mul_add',e1,e2,hx,add_assoc',add_assoc']
 congr 1
 apply aE
 have key:sub (add (mul w (neg (mul b (add one s)))) b) (add (mul (mul (mul w w) w) (neg (mul b (add one s)))) (mul (mul (mul w w) w) b))=mul (mul b (sub one w)) (sub one (mul (add (mul w w) w) s)):=
  ext' (by simp only[mul,add,sub,neg,one];grind) (by simp only[mul,add,sub,neg,one];grind)
 rw[key,ht,aZ,aj]
theorem SS{a b s ia:K2 n}(ha:mul a ia=one):mul a (mul (neg (mul b ia)) (add one s))=neg (mul b (add one s)):=by
 have e:mul a (mul (mul b ia) (add one s))=mul (mul a ia) (mul b (add one s)):=by ac_rfl
 rw[dd,eZ,e,ha,aR]
variable (hp:P3 n)
include hp
theorem j7{a:K2 n}(h:a≠zero):mul (inv a) a=one:=by rw[mul_comm'];exact aI hp h
theorem bQ{a b:K2 n}(ha:a≠zero)(hb:b≠zero):mul a b≠zero:=fun h=>(aW hp h).elim ha hb
theorem dw{a b x:K2 n}(ha:a≠zero)(h:mul x a=b):mul b (inv a)=x:=by
 rw[← h,mul_assoc',aI hp ha,mul_one']
theorem pP{x c:K2 n}(h3:(n-1)%3=0)(hc:c≠zero)(hn:bX c^((n-1)/3)≠1)(h:mul (mul x x) x=c):False:=by
 have hx:x≠zero:=by
  intro h0
  subst h0
  rw[aj]at h
  exact hc h.symm
 apply hn
 rw[← h,i6,i6]
 have e:bX x*bX x*bX x=bX x^3:=by
  rw[show(3:Nat)=0+1+1+1 from rfl,f9,f9,f9,CG];grind
 rw[e,← rz,show 3*((n-1)/3)=n-1 by omega]
 exact kH hp.1 (pQ hp hx)
theorem q5{a b:K2 n}(ha:a≠zero)(hb:b≠zero):gA (mul a b)=(gA a==gA b):=by
 rw[fD hp,fD hp,fD hp,i6,Ck hp (pQ hp ha) (pQ hp hb)]
theorem Cj(a:K2 n):gA (mul a a)=true:=(eY hp).2 ⟨a,rfl⟩
omit hp
theorem yr(hp:P3 n){a:K2 n}(ha:a≠zero):sgn (neg a)=1-sgn a:=by
 have:=CY hp ha
 omega
end K2
end Go.Proofs.YtndhfbecpghinaaGreat.L.Kf
namespace Go.Proofs.YtndhfbecpghinaaGreat.L.Kf
open Pr
namespace K2
variable {n:Nat} [NeZero n]
def ofN:Nat→K2 n
 | 0=>zero
 | k+1=>add (ofN k) one
def ofZ:Int→K2 n
 | .ofNat k=>ofN k
 | .negSucc k=>neg (ofN (k+1))
theorem lu(k:Nat):(ofN (k+1):K2 n)=add (ofN k) one:=rfl
theorem dX(a b:Nat):(ofN (a+b):K2 n)=add (ofN a) (ofN b):=by
 induction b with
 | zero=>exact(add_zero' _).symm
 | succ b ih=>rw[← Nat.add_assoc,lu,lu,ih,add_assoc']
theorem fT(a b:Nat):(ofN (a*b):K2 n)=mul (ofN a) (ofN b):=by
 induction b with
 | zero=>exact(aj _).symm
 | succ b ih=>rw[Nat.mul_succ,dX,ih,lu,mul_add',mul_one']
theorem m7(a b:Nat):(ofZ (Int.subNatNat a b):K2 n)=add (ofN a) (neg (ofN b)):=by
 rcases Nat.le_total b a with h | h
 ·obtain⟨k,rfl⟩:∃k,a=b+k:=⟨a-b,by omega⟩
  have e:Int.subNatNat (b+k) b=Int.ofNat k:=by rw[Int.subNatNat_eq_coe];show(_:Int)=(k:Int);omega
  rw[e,dX]
  show ofN k=_
  rw[add_comm' (ofN b),add_assoc',add_neg',add_zero']
 ·rcases Nat.eq_or_lt_of_le h with h | h
  ·subst h
   have e:Int.subNatNat a a=Int.ofNat 0:=by rw[Int.subNatNat_eq_coe];show(_:Int)=(0:Int);omega
   rw[e,add_neg'];rfl
  ·obtain⟨k,rfl⟩:∃k,b=a+(k+1):=⟨b-a-1,by omega⟩
   have e:Int.subNatNat a (a+(k+1))=Int.negSucc k:=by rw[Int.subNatNat_eq_coe,Int.negSucc_eq];omega
   rw[e,dX,dB,← add_assoc',add_neg',aM]
   rfl
theorem vD(a b:Int):(ofZ (a+b):K2 n)=add (ofZ a) (ofZ b):=by
 cases a with
 | ofNat a=>cases b with
  | ofNat b=>exact dX a b
  | negSucc b=>exact m7 a (b+1)
 | negSucc a=>cases b with
  | ofNat b=>exact(m7 b (a+1)).trans (add_comm' _ _)
  | negSucc b=>
   show neg (ofN (a+b+1+1))=add (neg (ofN (a+1))) (neg (ofN (b+1)))
   rw[← dB,← dX,show a+b+1+1=a+1+(b+1) by omega]
theorem vF(a:Int):(ofZ (-a):K2 n)=neg (ofZ a):=by
 cases a with
 | ofNat a=>cases a with
  | zero=>exact bj.symm
  | succ a=>rfl
 | negSucc a=>exact(bv _).symm
theorem rp(a:Nat):(ofZ (Int.negOfNat a):K2 n)=neg (ofN a):=by
 cases a with
 | zero=>exact bj.symm
 | succ a=>rfl
theorem vE(a b:Int):(ofZ (a*b):K2 n)=mul (ofZ a) (ofZ b):=by
 cases a with
 | ofNat a=>cases b with
  | ofNat b=>exact fT a b
  | negSucc b=>
   show ofZ (Int.negOfNat (a*(b+1)))=mul (ofN a) (neg (ofN (b+1)))
   rw[rp,fT,eZ]
 | negSucc a=>cases b with
  | ofNat b=>
   show ofZ (Int.negOfNat ((a+1)*b))=mul (neg (ofN (a+1))) (ofN b)
   rw[rp,fT,dd]
  | negSucc b=>
   show ofN ((a+1)*(b+1))=mul (neg (ofN (a+1))) (neg (ofN (b+1)))
   rw[fT,dd,eZ,bv]
inductive Ex where
 | v (i:Nat)
 | c (k:Int)
 | a (x y:Ex)
 | s (x y:Ex)
 | m (x y:Ex)
 | n (x:Ex)
def Ex.ev(vs:List (K2 n)):Ex→K2 n
 | .v i=>vs.getD i zero
 | .c k=>ofZ k
 | .a x y=>add (x.ev vs) (y.ev vs)
 | .s x y=>sub (x.ev vs) (y.ev vs)
 | .m x y=>mul (x.ev vs) (y.ev vs)
 | .n x=>neg (x.ev vs)
abbrev Mo:=List Nat
abbrev Po:=List (Mo×Int)
def ppw(a:K2 n):Nat→K2 n
 | 0=>one
 | k+1=>mul (ppw a k) a
theorem MF(a:K2 n)(j k:Nat):ppw a (j+k)=mul (ppw a j) (ppw a k):=by
 induction k with
 | zero=>exact(mul_one' _).symm
 | succ k ih=>
  show mul (ppw a (j+k)) a=mul (ppw a j) (mul (ppw a k) a)
  rw[ih,mul_assoc']
def mev(vs:List (K2 n))(i:Nat):Mo→K2 n
 | []=>one
 | e::es=>mul (ppw (vs.getD i zero) e) (mev vs (i+1) es)
def pev(vs:List (K2 n)):Po→K2 n
 | []=>zero
 | t::p=>add (mul (ofZ t.2) (mev vs 0 t.1)) (pev vs p)
def rg:Mo→Mo→Mo
 | [],q=>q
 | a::p,[]=>a::p
 | a::p,b::q=>(a+b)::rg p q
theorem mV(vs:List (K2 n)):∀(p q:Mo)(i:Nat),mev vs i (rg p q)=mul (mev vs i p) (mev vs i q)
 | [],q,i=>(aR _).symm
 | a::p,[],i=>(mul_one' _).symm
 | a::p,b::q,i=>by
  show mul (ppw _ (a+b)) (mev vs (i+1) (rg p q))=mul (mul _ _) (mul _ _)
  rw[MF,mV vs p q (i+1)]
  ac_rfl
def q9:Mo→Mo→Nat
 | [],[]=>1
 | [],_::_=>0
 | _::_,[]=>2
 | a::p,b::q=>if Nat.beq a b then q9 p q else if Nat.ble a b then 0 else 2
theorem mP:∀{p q:Mo},q9 p q=1→p=q
 | [],[],_=>rfl
 | [],_::_,h=>absurd h (by show ¬(0:Nat)=1;decide)
 | _::_,[],h=>absurd h (by show ¬(2:Nat)=1;decide)
 | a::p,b::q,h=>by
  unfold q9 at h
  by_cases hab:Nat.beq a b=true
  ·rw[if_pos hab]at h
   rw[Nat.eq_of_beq_eq_true hab,mP h]
  ·rw[if_neg hab]at h
   split at h <;> exact absurd h (by decide)
def cons(t:Mo×Int)(p:Po):Po:=if t.2=0 then p else t::p
theorem mB(vs:List (K2 n))(t:Mo×Int)(p:Po):pev vs (cons t p)=add (mul (ofZ t.2) (mev vs 0 t.1)) (pev vs p):=by
 unfold cons
 split
 ·rename_i h
  rw[h,show(ofZ 0:K2 n)=zero from rfl,aG,aM]
 ·rfl
def Gc(t:Mo×Int)(p:Po)(ih:Po→Po):Po→Po
 | []=>t::p
 | s::q=>match q9 t.1 s.1 with
  | 0=>t::ih (s::q)
  | 1=>cons (t.1,t.2+s.2) (ih q)
  | _=>s::Gc t p ih q
def dl:Po→Po→Po
 | [],q=>q
 | t::p,q=>Gc t p (fun r=>dl p r) q
theorem qj(q:Po):dl [] q=q:=rfl
theorem uE(t:Mo×Int)(p:Po):dl (t::p) []=t::p:=rfl
theorem uF(t s:Mo×Int)(p q:Po):dl (t::p) (s::q)=match q9 t.1 s.1 with
  | 0=>t::dl p (s::q)
  | 1=>cons (t.1,t.2+s.2) (dl p q)
  | _=>s::dl (t::p) q:=rfl
theorem gv(vs:List (K2 n)):∀(p q:Po),pev vs (dl p q)=add (pev vs p) (pev vs q):=by
 intro p
 induction p with
 | nil=>intro q;rw[qj];exact(aM _).symm
 | cons t p ih=>
  intro q
  induction q with
  | nil=>rw[uE];exact(add_zero' _).symm
  | cons s q ihq=>
   rw[uF]
   split
   ·show add _ (pev vs (dl p (s::q)))=add (add _ _) (pev vs (s::q))
    rw[ih];ac_rfl
   ·rename_i h
    rw[mB,ih,vD,cS]
    show _=add (add _ _) (add (mul (ofZ s.2) (mev vs 0 s.1)) _)
    rw[← mP h]
    ac_rfl
   ·show add _ (pev vs (dl (t::p) q))=add (pev vs (t::p)) (add _ _)
    rw[ihq];ac_rfl
def ro(t:Mo×Int):Po→Po
 | []=>[]
 | s::q=>(rg t.1 s.1,t.2*s.2)::ro t q
theorem mY(vs:List (K2 n))(t:Mo×Int):∀q:Po,pev vs (ro t q)=mul (mul (ofZ t.2) (mev vs 0 t.1)) (pev vs q)
 | []=>(aj _).symm
 | s::q=>by
  show add (mul (ofZ (t.2*s.2)) (mev vs 0 (rg t.1 s.1))) (pev vs (ro t q))=mul _ (add (mul (ofZ s.2) (mev vs 0 s.1)) (pev vs q))
  rw[mY vs t q,mV,vE,mul_add']
  congr 1
  ac_rfl
def rn:Po→Po→Po
 | [],_=>[]
 | t::p,q=>dl (ro t q) (rn p q)
theorem mX(vs:List (K2 n)):∀p q:Po,pev vs (rn p q)=mul (pev vs p) (pev vs q)
 | [],q=>(aG _).symm
 | t::p,q=>by
  show pev vs (dl (ro t q) (rn p q))=mul (add _ _) _
  rw[gv,mY,mX vs p q,cS]
def iM:Po→Po
 | []=>[]
 | t::p=>(t.1,-t.2)::iM p
theorem gC(vs:List (K2 n)):∀p:Po,pev vs (iM p)=neg (pev vs p)
 | []=>bj.symm
 | t::p=>by
  show add (mul (ofZ (-t.2)) (mev vs 0 t.1)) (pev vs (iM p))=neg (add _ _)
  rw[gC vs p,vF,dd,dB]
def sa:Nat→Mo
 | 0=>[1]
 | i+1=>0::sa i
theorem nL(vs:List (K2 n)):∀i j:Nat,mev vs j (sa i)=vs.getD (j+i) zero
 | 0,j=>by
  show mul (mul one (vs.getD j zero)) one=_
  rw[mul_one',aR];rfl
 | i+1,j=>by
  show mul one (mev vs (j+1) (sa i))=_
  rw[aR,nL vs i (j+1),show j+1+i=j+(i+1) by omega]
def nf:Ex→Po
 | .v i=>[(sa i,1)]
 | .c k=>cons ([],k) []
 | .a x y=>dl (nf x) (nf y)
 | .s x y=>dl (nf x) (iM (nf y))
 | .m x y=>rn (nf x) (nf y)
 | .n x=>iM (nf x)
theorem fb(vs:List (K2 n)):∀x:Ex,pev vs (nf x)=x.ev vs
 | .v i=>by
  show add (mul (ofZ 1) (mev vs 0 (sa i))) zero=vs.getD i zero
  rw[nL,Nat.zero_add,show(ofZ 1:K2 n)=add zero one from rfl,aM,aR,add_zero']
 | .c k=>by
  show pev vs (cons ([],k) [])=ofZ k
  rw[mB]
  show add (mul (ofZ k) one) zero=ofZ k
  rw[mul_one',add_zero']
 | .a x y=>by
  show pev vs (dl (nf x) (nf y))=add _ _
  rw[gv,fb vs x,fb vs y]
 | .s x y=>by
  show pev vs (dl (nf x) (iM (nf y)))=sub _ _
  rw[gv,gC,fb vs x,fb vs y,sub_eq]
 | .m x y=>by
  show pev vs (rn (nf x) (nf y))=mul _ _
  rw[mX,fb vs x,fb vs y]
 | .n x=>by
  show pev vs (iM (nf x))=neg _
  rw[gC,fb vs x]
def chk(x y:Ex):Bool:=(dl (nf x) (iM (nf y))).isEmpty
theorem aH{x y:Ex}(h:chk x y=true)(vs:List (K2 n)):x.ev vs=y.ev vs:=by
 have e:dl (nf x) (iM (nf y))=[]:=List.isEmpty_iff.1 h
 have e2:=gv vs (nf x) (iM (nf y))
 rw[e,gC,fb,fb,← sub_eq]at e2
 exact aE e2.symm
theorem gB{x y c u v:K2 n}(e:sub x y=mul c (sub u v))(h:u=v):x=y:=by
 subst h
 rw[aZ,aj]at e
 exact aE e
theorem vk{x y c u v d r s:K2 n}(e:sub x y=add (mul c (sub u v)) (mul d (sub r s)))(h:u=v)(h2:r=s):x=y:=by
 subst h
 subst h2
 rw[aZ,aZ,aj,aj,add_zero']at e
 exact aE e
theorem U0{x y c u v d r s g k l:K2 n}(e:sub x y=add (add (mul c (sub u v)) (mul d (sub r s))) (mul g (sub k l)))(h:u=v)(h2:r=s)(h3:k=l):x=y:=by
 subst h
 subst h2
 subst h3
 rw[aZ,aZ,aZ,aj,aj,aj,add_zero',add_zero']at e
 exact aE e
theorem W9{x y c u v d r s g k l t w z:K2 n}(e:sub x y=add (add (add (mul c (sub u v)) (mul d (sub r s))) (mul g (sub k l))) (mul t (sub w z)))(h:u=v)(h2:r=s)(h3:k=l)(h4:w=z):x=y:=by
 subst h
 subst h2
 subst h3
 subst h4
 rw[aZ,aZ,aZ,aZ,aj,aj,aj,aj,add_zero',add_zero',add_zero']at e
 exact aE e
theorem tC:(ofZ 0:K2 n)=zero:=rfl
theorem dL:(ofZ 1:K2 n)=one:=by show add zero one=one;rw[aM]
end K2
end Go.Proofs.YtndhfbecpghinaaGreat.L.Kf
namespace Go.Proofs.YtndhfbecpghinaaGreat.L.Kf
open Pr
namespace K2
variable {n:Nat} [NeZero n]
theorem gj(hp:P3 n){y:K2 n}(h:y≠zero):add y y≠zero:=by
 intro e
 apply h
 have e1:=congrArg re e
 have e2:=congrArg im e
 have two:∀a:Fin n,a+a=0→a=0:=fun a ha=>(cT hp.1 (show(2:Fin n)*a=0 by grind)).resolve_left (Bo hp)
 exact ext' (two _ e1) (two _ e2)
theorem jt(hp:P3 n):(one:K2 n)≠zero:=fun e=>cK hp.1 (congrArg re e)
attribute [local irreducible] add mul sub neg zero one inv
abbrev Pt(n:Nat):=Option (K2 n×K2 n)
def cx(l a b:K2 n):K2 n:=sub (sub (mul l l) a) b
def cy(l a y b:K2 n):K2 n:=sub (mul l (sub a (cx l a b))) y
def q3(a b:K2 n):K2 n:=add (add (mul a a) (mul a b)) (mul b b)
def gb(x y:K2 n):K2 n:=mul (q3 x x) (inv (add y y))
def d8(x1 y1 x2 y2:K2 n):K2 n:=mul (sub y2 y1) (inv (sub x2 x1))
def pa:Pt n→Pt n→Pt n
 | none,q=>q
 | some p,none=>some p
 | some p,some q=>
  if p.1=q.1 then if p.2=q.2∧p.2≠zero then some (cx (gb p.1 p.2) p.1 q.1,cy (gb p.1 p.2) p.1 p.2 q.1)else none
  else some (cx (d8 p.1 p.2 q.1 q.2) p.1 q.1,cy (d8 p.1 p.2 q.1 q.2) p.1 p.2 q.1)
def pn:Pt n→Pt n
 | none=>none
 | some p=>some (p.1,neg p.2)
def Onc(b:K2 n):Pt n→Prop
 | none=>True
 | some p=>mul p.2 p.2=add (mul (mul p.1 p.1) p.1) b
structure Slp (l x1 y1 x2 y2:K2 n):Prop where
 a:y1=add y2 (mul l (sub x1 x2))
 b:mul l (add y1 y2)=q3 x1 x2
theorem bK{k:Nat}{b x y:K2 k}(h:Onc b (some (x,y))):mul y y=add (mul (mul x x) x) b:=h
theorem bD{k:Nat}{a b c d:K2 k}(h:a=c)(h2:b=d):(some (a,b):Pt k)=some (c,d):=by rw[h,h2]
theorem bJ(p:Pt n):pa p none=p:=by cases p <;> rfl
theorem IJ(p:Pt n):pn (pn p)=p:=by
 cases p with
 | none=>rfl
 | some p=>show some (p.1,neg (neg p.2))=some p;rw[bv]
theorem vy(hp:P3 n){a x y:K2 n}(ha:a≠zero)(h:mul a (sub x y)=zero):x=y:=aE ((aW hp h).resolve_left ha)
theorem cI{b:K2 n}{p:Pt n}(h:Onc b p):Onc b (pn p):=by
 cases p with
 | none=>trivial
 | some p=>show mul (neg p.2) (neg p.2)=_;rw[dd,eZ,bv];exact h
theorem cG(hp:P3 n){l x1 y1 x2 y2:K2 n}(h:Slp l x1 y1 x2 y2)(hne:x1≠x2∨add y1 y2≠zero):pa (some (x1,y1)) (some (x2,y2))=some (cx l x1 x2,cy l x1 y1 x2):=by
 by_cases hx:x1=x2
 ·subst hx
  have hy:y1=y2:=by
   have:=h.a
   rwa [aZ,aj,add_zero']at this
  subst hy
  have h2:add y1 y1≠zero:=hne.resolve_left fun h=>h rfl
  have hy0:y1≠zero:=fun e=>h2 (by rw[e,add_zero'])
  have ht:gb x1 y1=l:=dw hp h2 h.b
  show(if x1=x1 then if y1=y1∧y1≠zero then _ else _ else _)=_
  rw[if_pos rfl,if_pos ⟨rfl,hy0⟩,ht]
 ·have hd:sub x2 x1≠zero:=fun e=>hx (aE e).symm
  have hc:d8 x1 y1 x2 y2=l:=dw hp hd (gB (aH (x:=(.s (.m (.v 4) (.s (.v 2) (.v 0))) (.s (.v 3) (.v 1)))) (y:=(.m (.c 1) (.s (.v 1) (.a (.v 3) (.m (.v 4) (.s (.v 0) (.v 2))))))) (by decide +kernel) [x1,y1,x2,y2,l]) (h.a))
  show(if x1=x2 then _ else _)=_
  rw[if_neg hx,hc]
theorem c9(hp:P3 n){x1 y1 x2 y2:K2 n}(hx:x1=x2)(hy:add y1 y2=zero):pa (some (x1,y1)) (some (x2,y2))=none:=by
 subst hx
 show(if x1=x1 then if y1=y2∧y1≠zero then _ else _ else _)=_
 rw[if_pos rfl,if_neg]
 rintro⟨rfl,h⟩
 exact gj hp h hy
theorem cq(hp:P3 n){b x1 y1 x2 y2:K2 n}(hP:mul y1 y1=add (mul (mul x1 x1) x1) b)(hQ:mul y2 y2=add (mul (mul x2 x2) x2) b):
  (x1=x2∧add y1 y2=zero)∨∃l,Slp l x1 y1 x2 y2∧(x1≠x2∨add y1 y2≠zero):=by
 by_cases hx:x1=x2
 ·subst hx
  have e:mul (sub y1 y2) (add y1 y2)=ofZ 0:=vk (aH (x:=(.s (.m (.s (.v 1) (.v 2)) (.a (.v 1) (.v 2))) (.c 0))) (y:=(.a (.m (.c 1) (.s (.m (.v 1) (.v 1)) (.a (.m (.m (.v 0) (.v 0)) (.v 0)) (.v 3)))) (.m (.c (-1)) (.s (.m (.v 2) (.v 2)) (.a (.m (.m (.v 0) (.v 0)) (.v 0)) (.v 3)))))) (by decide +kernel) [x1,y1,y2,b]) (hP) (hQ)
  by_cases hs:add y1 y2=zero
  ·exact .inl ⟨rfl,hs⟩
  ·have hy:y1=y2:=aE ((aW hp e).resolve_right hs)
   subst hy
   refine .inr ⟨mul (q3 x1 x1) (inv (add y1 y1)),⟨?_,?_⟩,.inr hs⟩
   ·rw[aZ,aj,add_zero']
   ·rw[mul_assoc',j7 hp hs,mul_one']
 ·have hd:sub x1 x2≠zero:=fun e=>hx (aE e)
  have hi:=j7 hp hd
  rw[← dL]at hi
  generalize inv (sub x1 x2)=i at hi
  refine .inr ⟨mul (sub y1 y2) i,⟨?_,?_⟩,.inl hx⟩
  ·exact gB (aH (x:=(.s (.v 1) (.a (.v 3) (.m (.m (.s (.v 1) (.v 3)) (.v 4)) (.s (.v 0) (.v 2)))))) (y:=(.m (.n (.s (.v 1) (.v 3))) (.s (.m (.v 4) (.s (.v 0) (.v 2))) (.c 1)))) (by decide +kernel) [x1,y1,x2,y2,i,b]) (hi)
  ·refine vy hp hd ?_
   rw[← tC]
   exact U0 (aH (x:=(.s (.m (.s (.v 0) (.v 2)) (.s (.m (.m (.s (.v 1) (.v 3)) (.v 4)) (.a (.v 1) (.v 3))) (.a (.a (.m (.v 0) (.v 0)) (.m (.v 0) (.v 2))) (.m (.v 2) (.v 2))))) (.c 0))) (y:=(.a (.a (.m (.m (.s (.v 1) (.v 3)) (.a (.v 1) (.v 3))) (.s (.m (.v 4) (.s (.v 0) (.v 2))) (.c 1))) (.m (.c 1) (.s (.m (.v 1) (.v 1)) (.a (.m (.m (.v 0) (.v 0)) (.v 0)) (.v 5))))) (.m (.c (-1)) (.s (.m (.v 3) (.v 3)) (.a (.m (.m (.v 2) (.v 2)) (.v 2)) (.v 5)))))) (by decide +kernel) [x1,y1,x2,y2,i,b]) (hi) (hP) (hQ)
theorem xZ{b l x1 y1 x2 y2:K2 n}(h:Slp l x1 y1 x2 y2)(hP:mul y1 y1=add (mul (mul x1 x1) x1) b):mul (cy l x1 y1 x2) (cy l x1 y1 x2)=add (mul (mul (cx l x1 x2) (cx l x1 x2)) (cx l x1 x2)) b:=by
 obtain⟨rfl,hb⟩:=h
 exact vk (aH (x:=(.s (.m (.s (.m (.v 3) (.s (.v 0) (.s (.s (.m (.v 3) (.v 3)) (.v 0)) (.v 1)))) (.a (.v 2) (.m (.v 3) (.s (.v 0) (.v 1))))) (.s (.m (.v 3) (.s (.v 0) (.s (.s (.m (.v 3) (.v 3)) (.v 0)) (.v 1)))) (.a (.v 2) (.m (.v 3) (.s (.v 0) (.v 1)))))) (.a (.m (.m (.s (.s (.m (.v 3) (.v 3)) (.v 0)) (.v 1)) (.s (.s (.m (.v 3) (.v 3)) (.v 0)) (.v 1))) (.s (.s (.m (.v 3) (.v 3)) (.v 0)) (.v 1))) (.v 4)))) (y:=(.a (.m (.a (.m (.m (.c 1) (.v 3)) (.v 3)) (.a (.m (.c (-1)) (.v 1)) (.m (.c (-2)) (.v 0)))) (.s (.m (.v 3) (.a (.a (.v 2) (.m (.v 3) (.s (.v 0) (.v 1)))) (.v 2))) (.a (.a (.m (.v 0) (.v 0)) (.m (.v 0) (.v 1))) (.m (.v 1) (.v 1))))) (.m (.c 1) (.s (.m (.a (.v 2) (.m (.v 3) (.s (.v 0) (.v 1)))) (.a (.v 2) (.m (.v 3) (.s (.v 0) (.v 1))))) (.a (.m (.m (.v 0) (.v 0)) (.v 0)) (.v 4)))))) (by decide +kernel) [x1,x2,y2,l,b]) (hb) (hP)
theorem Slp.symm{l x1 y1 x2 y2:K2 n}(h:Slp l x1 y1 x2 y2):Slp l x2 y2 x1 y1:=by
 refine⟨?_,?_⟩
 ·exact gB (aH (x:=(.s (.v 3) (.a (.v 1) (.m (.v 4) (.s (.v 2) (.v 0)))))) (y:=(.m (.c (-1)) (.s (.v 1) (.a (.v 3) (.m (.v 4) (.s (.v 0) (.v 2))))))) (by decide +kernel) [x1,y1,x2,y2,l]) (h.a)
 ·rw[add_comm' y2 y1,h.b]
  exact aH (x:=(.a (.a (.m (.v 0) (.v 0)) (.m (.v 0) (.v 1))) (.m (.v 1) (.v 1)))) (y:=(.a (.a (.m (.v 1) (.v 1)) (.m (.v 1) (.v 0))) (.m (.v 0) (.v 0)))) (by decide +kernel) [x1,x2]
theorem jn(l x1 x2:K2 n):cx l x1 x2=cx l x2 x1:=aH (x:=(.s (.s (.m (.v 0) (.v 0)) (.v 1)) (.v 2))) (y:=(.s (.s (.m (.v 0) (.v 0)) (.v 2)) (.v 1))) (by decide +kernel) [l,x1,x2]
theorem mE{l x1 y1 x2 y2:K2 n}(h:Slp l x1 y1 x2 y2):cy l x1 y1 x2=cy l x2 y2 x1:=gB (aH (x:=(.s (.s (.m (.v 4) (.s (.v 0) (.s (.s (.m (.v 4) (.v 4)) (.v 0)) (.v 2)))) (.v 1)) (.s (.m (.v 4) (.s (.v 2) (.s (.s (.m (.v 4) (.v 4)) (.v 2)) (.v 0)))) (.v 3)))) (y:=(.m (.c (-1)) (.s (.v 1) (.a (.v 3) (.m (.v 4) (.s (.v 0) (.v 2))))))) (by decide +kernel) [x1,y1,x2,y2,l]) (h.a)
theorem dk(hp:P3 n){b:K2 n}{p q:Pt n}(hP:Onc b p)(hQ:Onc b q):Onc b (pa p q):=by
 cases p with
 | none=>exact hQ
 | some p=>cases q with
  | none=>exact hP
  | some q=>
   obtain⟨x1,y1⟩:=p
   obtain⟨x2,y2⟩:=q
   rcases cq hp hP hQ with⟨h1,h2⟩ | ⟨l,h,hn⟩
   ·rw[c9 hp h1 h2];trivial
   ·rw[cG hp h hn];exact xZ h hP
theorem dJ(hp:P3 n){b:K2 n}{p q:Pt n}(hP:Onc b p)(hQ:Onc b q):pa p q=pa q p:=by
 cases p with
 | none=>exact(bJ q).symm
 | some p=>cases q with
  | none=>rfl
  | some q=>
   obtain⟨x1,y1⟩:=p
   obtain⟨x2,y2⟩:=q
   rcases cq hp hP hQ with⟨h1,h2⟩ | ⟨l,h,hn⟩
   ·rw[c9 hp h1 h2,c9 hp h1.symm (by rw[add_comm'];exact h2)]
   ·rw[cG hp h hn,cG hp h.symm (hn.imp (fun e=>Ne.symm e) (fun e=>by rw[add_comm'];exact e)),jn,mE h]
theorem vJ(hp:P3 n)(p:Pt n):pa p (pn p)=none:=by
 cases p with
 | none=>rfl
 | some p=>exact c9 hp rfl (add_neg' p.2)
theorem m9(hp:P3 n)(p:Pt n):pa (pn p) p=none:=by
 cases p with
 | none=>rfl
 | some p=>exact c9 hp rfl (by rw[add_comm',add_neg'])
theorem Slp.opp{l x1 y1 x2 y2:K2 n}(h:Slp l x1 y1 x2 y2):Slp (neg l) x1 (neg y1) x2 (neg y2):=⟨gB (aH (x:=(.s (.n (.v 1)) (.a (.n (.v 3)) (.m (.n (.v 4)) (.s (.v 0) (.v 2)))))) (y:=(.m (.c (-1)) (.s (.v 1) (.a (.v 3) (.m (.v 4) (.s (.v 0) (.v 2))))))) (by decide +kernel) [x1,y1,x2,y2,l]) (h.a),gB (aH (x:=(.s (.m (.n (.v 4)) (.a (.n (.v 1)) (.n (.v 3)))) (.a (.a (.m (.v 0) (.v 0)) (.m (.v 0) (.v 2))) (.m (.v 2) (.v 2))))) (y:=(.m (.c 1) (.s (.m (.v 4) (.a (.v 1) (.v 3))) (.a (.a (.m (.v 0) (.v 0)) (.m (.v 0) (.v 2))) (.m (.v 2) (.v 2)))))) (by decide +kernel) [x1,y1,x2,y2,l]) (h.b)⟩
theorem QU(l x1 x2:K2 n):cx (neg l) x1 x2=cx l x1 x2:=aH (x:=(.s (.s (.m (.n (.v 0)) (.n (.v 0))) (.v 1)) (.v 2))) (y:=(.s (.s (.m (.v 0) (.v 0)) (.v 1)) (.v 2))) (by decide +kernel) [l,x1,x2]
theorem QV(l x1 y1 x2:K2 n):cy (neg l) x1 (neg y1) x2=neg (cy l x1 y1 x2):=aH (x:=(.s (.m (.n (.v 0)) (.s (.v 1) (.s (.s (.m (.n (.v 0)) (.n (.v 0))) (.v 1)) (.v 3)))) (.n (.v 2)))) (y:=(.n (.s (.m (.v 0) (.s (.v 1) (.s (.s (.m (.v 0) (.v 0)) (.v 1)) (.v 3)))) (.v 2)))) (by decide +kernel) [l,x1,y1,x2]
theorem CB(hp:P3 n){b:K2 n}{p q:Pt n}(hP:Onc b p)(hQ:Onc b q):pa (pn p) (pn q)=pn (pa p q):=by
 cases p with
 | none=>rfl
 | some p=>cases q with
  | none=>rfl
  | some q=>
   obtain⟨x1,y1⟩:=p
   obtain⟨x2,y2⟩:=q
   show pa (some (x1,neg y1)) (some (x2,neg y2))=_
   rcases cq hp hP hQ with⟨h1,h2⟩ | ⟨l,h,hn⟩
   ·rw[c9 hp h1 h2,c9 hp h1 (by rw[← dB,h2,bj])];rfl
   ·rw[cG hp h hn,cG hp h.opp (hn.imp id fun e h=>e (mZ.1 (by rw[dB];exact h))),QU,QV];rfl
theorem Slp.back{l x1 y1 x2 y2:K2 n}(h:Slp l x1 y1 x2 y2):Slp (neg l) (cx l x1 x2) (cy l x1 y1 x2) x2 (neg y2):=by
 obtain⟨rfl,hb⟩:=h
 exact⟨aH (x:=(.s (.m (.v 3) (.s (.v 0) (.s (.s (.m (.v 3) (.v 3)) (.v 0)) (.v 1)))) (.a (.v 2) (.m (.v 3) (.s (.v 0) (.v 1)))))) (y:=(.a (.n (.v 2)) (.m (.n (.v 3)) (.s (.s (.s (.m (.v 3) (.v 3)) (.v 0)) (.v 1)) (.v 1))))) (by decide +kernel) [x1,x2,y2,l],gB (aH (x:=(.s (.m (.n (.v 3)) (.a (.s (.m (.v 3) (.s (.v 0) (.s (.s (.m (.v 3) (.v 3)) (.v 0)) (.v 1)))) (.a (.v 2) (.m (.v 3) (.s (.v 0) (.v 1))))) (.n (.v 2)))) (.a (.a (.m (.s (.s (.m (.v 3) (.v 3)) (.v 0)) (.v 1)) (.s (.s (.m (.v 3) (.v 3)) (.v 0)) (.v 1))) (.m (.s (.s (.m (.v 3) (.v 3)) (.v 0)) (.v 1)) (.v 1))) (.m (.v 1) (.v 1))))) (y:=(.m (.c 1) (.s (.m (.v 3) (.a (.a (.v 2) (.m (.v 3) (.s (.v 0) (.v 1)))) (.v 2))) (.a (.a (.m (.v 0) (.v 0)) (.m (.v 0) (.v 1))) (.m (.v 1) (.v 1)))))) (by decide +kernel) [x1,x2,y2,l]) (hb)⟩
theorem Lr(l x1 x2:K2 n):cx (neg l) (cx l x1 x2) x2=x1:=aH (x:=(.s (.s (.m (.n (.v 0)) (.n (.v 0))) (.s (.s (.m (.v 0) (.v 0)) (.v 1)) (.v 2))) (.v 2))) (y:=(.v 1)) (by decide +kernel) [l,x1,x2]
theorem Ls{l x1 y1 x2 y2:K2 n}(_:Slp l x1 y1 x2 y2):cy (neg l) (cx l x1 x2) (cy l x1 y1 x2) x2=y1:=aH (x:=(.s (.m (.n (.v 0)) (.s (.s (.s (.m (.v 0) (.v 0)) (.v 1)) (.v 3)) (.s (.s (.m (.n (.v 0)) (.n (.v 0))) (.s (.s (.m (.v 0) (.v 0)) (.v 1)) (.v 3))) (.v 3)))) (.s (.m (.v 0) (.s (.v 1) (.s (.s (.m (.v 0) (.v 0)) (.v 1)) (.v 3)))) (.v 2)))) (y:=(.v 2)) (by decide +kernel) [l,x1,y1,x2]
abbrev No2(b:K2 n):Prop:=∀x:K2 n,add (mul (mul x x) x) b≠zero
theorem gH{b x y:K2 n}(h2:No2 b)(h:mul y y=add (mul (mul x x) x) b):y≠zero:=by
 rintro rfl
 rw[aj]at h
 exact h2 x h.symm
theorem ju(hp:P3 n){b:K2 n}(h2:No2 b){p q:Pt n}(hP:Onc b p)(hQ:Onc b q):pa (pa p q) (pn q)=p:=by
 cases p with
 | none=>exact vJ hp q
 | some p=>cases q with
  | none=>rfl
  | some q=>
   obtain⟨x1,y1⟩:=p
   obtain⟨x2,y2⟩:=q
   rcases cq hp hP hQ with⟨e1,e2⟩ | ⟨l,h,hn⟩
   ·rw[c9 hp e1 e2]
    show some (x2,neg y2)=some (x1,y1)
    rw[show x1=x2 from e1,show y1=neg y2 from aP e2]
   ·rw[cG hp h hn]
    show pa (some (cx l x1 x2,cy l x1 y1 x2)) (some (x2,neg y2))=some (x1,y1)
    rw[cG hp h.back,Lr,Ls h]
    by_cases hx:cx l x1 x2=x2
    ·right
     intro e
     have ey:cy l x1 y1 x2=y2:=aE (by rw[sub_eq];exact e)
     have ea:=h.back.a
     rw[hx,aZ,aj,add_zero',ey]at ea
     refine gj hp (gH h2 hQ) ?_
     have:add y2 y2=add y2 (neg y2):=by rw[← ea]
     rw[this,add_neg']
    ·exact .inl hx
theorem Ot(hp:P3 n){A B C D l m s t u v:K2 n}(hl:mul l A=B)(hm:mul m C=D)(hA:A≠zero)(hC:C≠zero)
  (e:(sub (mul (mul B B) (mul C C)) (mul (mul (mul A A) (mul C C)) (add s t)))=(sub (mul (mul D D) (mul A A)) (mul (mul (mul A A) (mul C C)) (add u v)))):cx l s t=cx m u v:=by
 subst hl
 subst hm
 refine vy hp (bQ hp (bQ hp hA hA) (bQ hp hC hC)) ?_
 rw[← tC]
 exact gB (aH (x:=(.s (.m (.m (.m (.v 0) (.v 0)) (.m (.v 2) (.v 2))) (.s (.s (.s (.m (.v 4) (.v 4)) (.v 6)) (.v 7)) (.s (.s (.m (.v 5) (.v 5)) (.v 8)) (.v 9)))) (.c 0))) (y:=(.m (.c 1) (.s (.s (.m (.m (.m (.v 4) (.v 0)) (.m (.v 4) (.v 0))) (.m (.v 2) (.v 2))) (.m (.m (.m (.v 0) (.v 0)) (.m (.v 2) (.v 2))) (.a (.v 6) (.v 7)))) (.s (.m (.m (.m (.v 5) (.v 2)) (.m (.v 5) (.v 2))) (.m (.v 0) (.v 0))) (.m (.m (.m (.v 0) (.v 0)) (.m (.v 2) (.v 2))) (.a (.v 8) (.v 9))))))) (by decide +kernel) [A,A,C,C,l,m,s,t,u,v]) (e)
theorem Ou(hp:P3 n){A B C D l m s t u v y w:K2 n}(hl:mul l A=B)(hm:mul m C=D)(hA:A≠zero)(hC:C≠zero)(hx:cx l s t=cx m u v)
  (e:(mul (sub (mul B C) (mul D A)) (sub (mul B B) (mul (mul A A) (add s t))))=(sub (mul (mul A A) (sub (mul (mul B C) s) (mul (mul D A) u))) (mul (mul (mul (mul A A) A) C) (sub y w)))):cy l s y t=cy m u w v:=by
 subst hl
 subst hm
 refine vy hp (bQ hp (bQ hp (bQ hp hA hA) hA) hC) ?_
 rw[cy,cy,← hx,← tC]
 exact gB (aH (x:=(.s (.m (.m (.m (.m (.v 0) (.v 0)) (.v 0)) (.v 2)) (.s (.s (.m (.v 4) (.s (.v 6) (.s (.s (.m (.v 4) (.v 4)) (.v 6)) (.v 7)))) (.v 9)) (.s (.m (.v 5) (.s (.v 8) (.s (.s (.m (.v 4) (.v 4)) (.v 6)) (.v 7)))) (.v 10)))) (.c 0))) (y:=(.m (.c (-1)) (.s (.m (.s (.m (.m (.v 4) (.v 0)) (.v 2)) (.m (.m (.v 5) (.v 2)) (.v 0))) (.s (.m (.m (.v 4) (.v 0)) (.m (.v 4) (.v 0))) (.m (.m (.v 0) (.v 0)) (.a (.v 6) (.v 7))))) (.s (.m (.m (.v 0) (.v 0)) (.s (.m (.m (.m (.v 4) (.v 0)) (.v 2)) (.v 6)) (.m (.m (.m (.v 5) (.v 2)) (.v 0)) (.v 8)))) (.m (.m (.m (.m (.v 0) (.v 0)) (.v 0)) (.v 2)) (.s (.v 9) (.v 10))))))) (by decide +kernel) [A,A,C,C,l,m,s,t,u,y,w]) (e)
def OA(x1 x2 x3 _y2 l m:K2 n):K2 n:=mul (mul (sub (sub (sub (mul l l) x1) x2) x3) (sub (sub (sub (mul l l) x1) x2) x3)) (mul (sub (sub (sub (mul m m) x3) x2) x1) (sub (sub (sub (mul m m) x3) x2) x1))
def qW:Ex:=.s (.s (.m (.v 4) (.v 4)) (.v 0)) (.v 1)
def qX:Ex:=.s (.s (.m (.v 5) (.v 5)) (.v 2)) (.v 1)
def xI:Ex:=.a (.v 3) (.m (.v 4) (.s (.v 0) (.v 1)))
def xJ:Ex:=.a (.v 3) (.m (.v 5) (.s (.v 2) (.v 1)))
def Ox:Ex:=.a (.m (.a (.m (.c 3) (.v 2)) (.a (.m (.c 3) (.v 1)) (.m (.c 6) (.v 0)))) (.v 2)) (.a (.m (.m (.c 3) (.v 0)) (.v 1)) (.m (.m (.c 3) (.v 0)) (.v 0)))
def Oy:Ex:=.m (.m (.s qW (.v 2)) (.s qW (.v 2))) (.m (.s qX (.v 0)) (.s qX (.v 0)))
def Oz:Ex:=.m (.a (.m (.c 4) (.v 2)) (.a (.m (.c 4) (.v 1)) (.m (.c 4) (.v 0)))) (.v 3)
def Ow:Ex:=.a (.m (.a (.m (.a (.m (.a (.m (.a (.m (.c (-1)) (.v 2)) (.m (.c 1) (.v 1))) (.v 5)) (.a (.m (.a (.m (.m (.c (-2)) (.v 4)) (.v 4)) (.a (.m (.c 4) (.v 1)) (.m (.c 2) (.v 0)))) (.v 4)) (.m (.c (-2)) (.v 3)))) (.v 5)) (.a (.m (.a (.m (.a (.m (.c (-3)) (.v 2)) (.m (.c (-3)) (.v 0))) (.v 4)) (.m (.c (-2)) (.v 3))) (.v 4)) Ox)) (.v 5)) (.a (.m (.a (.m (.a (.m (.a (.m (.c 2) (.v 2)) (.m (.c 4) (.v 1))) (.v 4)) (.m (.c (-2)) (.v 3))) (.v 4)) (.a (.m (.m (.c (-6)) (.v 1)) (.v 2)) (.m (.a (.m (.c (-6)) (.v 1)) (.m (.c (-6)) (.v 0))) (.v 1)))) (.v 4)) Oz)) (.v 5)) (.a (.m (.a (.m (.a (.m (.a (.m (.a (.m (.c 1) (.v 1)) (.m (.c (-1)) (.v 0))) (.v 4)) (.m (.c (-2)) (.v 3))) (.v 4)) Ox) (.v 4)) Oz) (.v 4)) (.a (.m (.a (.m (.a (.m (.c (-2)) (.v 2)) (.a (.m (.c (-6)) (.v 1)) (.m (.c (-6)) (.v 0)))) (.v 2)) (.a (.m (.a (.m (.c (-6)) (.v 1)) (.m (.c (-12)) (.v 0))) (.v 1)) (.m (.m (.c (-6)) (.v 0)) (.v 0)))) (.v 2)) (.a (.m (.a (.m (.a (.m (.c (-2)) (.v 1)) (.m (.c (-6)) (.v 0))) (.v 1)) (.m (.m (.c (-6)) (.v 0)) (.v 0))) (.v 1)) (.m (.m (.m (.c (-2)) (.v 0)) (.v 0)) (.v 0)))))
theorem W3{x1 x2 x3 y2 l m:K2 n}(ha:(mul l (add (add y2 (mul l (sub x1 x2))) y2))=(add (add (mul x1 x1) (mul x1 x2)) (mul x2 x2)))(hb:(mul m (add (add y2 (mul m (sub x3 x2))) y2))=(add (add (mul x3 x3) (mul x3 x2)) (mul x2 x2))):(sub (mul (mul (sub (sub (mul l (sub x1 (sub (sub (mul l l) x1) x2))) (add y2 (mul l (sub x1 x2)))) (add y2 (mul m (sub x3 x2)))) (sub (sub (mul l (sub x1 (sub (sub (mul l l) x1) x2))) (add y2 (mul l (sub x1 x2)))) (add y2 (mul m (sub x3 x2))))) (mul (sub (sub (sub (mul m m) x3) x2) x1) (sub (sub (sub (mul m m) x3) x2) x1))) (mul (OA x1 x2 x3 y2 l m) (add (sub (sub (mul l l) x1) x2) x3)))=(sub (mul (mul (sub (sub (mul m (sub x3 (sub (sub (mul m m) x3) x2))) (add y2 (mul m (sub x3 x2)))) (add y2 (mul l (sub x1 x2)))) (sub (sub (mul m (sub x3 (sub (sub (mul m m) x3) x2))) (add y2 (mul m (sub x3 x2)))) (add y2 (mul l (sub x1 x2))))) (mul (sub (sub (sub (mul l l) x1) x2) x3) (sub (sub (sub (mul l l) x1) x2) x3))) (mul (OA x1 x2 x3 y2 l m) (add x1 (sub (sub (mul m m) x3) x2)))):=vk (aH (x:=(.s (.s (.m (.m (.s (.s (.m (.v 4) (.s (.v 0) qW)) xI) xJ) (.s (.s (.m (.v 4) (.s (.v 0) qW)) xI) xJ)) (.m (.s qX (.v 0)) (.s qX (.v 0)))) (.m Oy (.a qW (.v 2)))) (.s (.m (.m (.s (.s (.m (.v 5) (.s (.v 2) qX)) xJ) xI) (.s (.s (.m (.v 5) (.s (.v 2) qX)) xJ) xI)) (.m (.s qW (.v 2)) (.s qW (.v 2)))) (.m Oy (.a (.v 0) qX))))) (y:=(.a (.m Ow (.s (.m (.v 4) (.a xI (.v 3))) (.a (.a (.m (.v 0) (.v 0)) (.m (.v 0) (.v 1))) (.m (.v 1) (.v 1))))) (.m (.n Ow) (.s (.m (.v 5) (.a xJ (.v 3))) (.a (.a (.m (.v 2) (.v 2)) (.m (.v 2) (.v 1))) (.m (.v 1) (.v 1))))))) (by decide +kernel) [x1,x2,x3,y2,l,m]) (ha) (hb)
def Ci(x1 x2 x3 y2 l m:K2 n):K2 n:=sub (sub (mul l (sub x1 (sub (sub (mul l l) x1) x2))) (add y2 (mul l (sub x1 x2)))) (add y2 (mul m (sub x3 x2)))
def OD(x1 x2 x3 y2 l m:K2 n):K2 n:=mul (sub (sub (mul m (sub x3 (sub (sub (mul m m) x3) x2))) (add y2 (mul m (sub x3 x2)))) (add y2 (mul l (sub x1 x2)))) (sub (sub (sub (mul l l) x1) x2) x3)
def HO(x1 x2 x3 _y2 l _m:K2 n):K2 n:=mul (sub (sub (sub (mul l l) x1) x2) x3) (sub (sub (sub (mul l l) x1) x2) x3)
def oU:Ex:=.s (.s (.m (.v 4) (.v 4)) (.v 0)) (.v 1)
def xK:Ex:=.a (.v 3) (.m (.v 4) (.s (.v 0) (.v 1)))
def Ch:Ex:=.s (.s (.m (.v 5) (.v 5)) (.v 2)) (.v 1)
def HL:Ex:=.a (.v 3) (.m (.v 5) (.s (.v 2) (.v 1)))
def Cg:Ex:=.s (.s (.m (.v 4) (.s (.v 0) oU)) xK) HL
def HM:Ex:=.m (.s oU (.v 2)) (.s oU (.v 2))
def OC:Ex:=.m (.s (.s (.m (.v 5) (.s (.v 2) Ch)) HL) xK) (.s oU (.v 2))
def HN:Ex:=.m (.m (.c (-2)) (.v 0)) (.v 0)
def OB:Ex:=.a (.m (.a (.m (.a (.m (.a (.m (.m (.a (.m (.c (-1)) (.v 2)) (.m (.c 1) (.v 1))) (.v 4)) (.v 4)) (.a (.m (.a (.m (.c 2) (.v 2)) (.a (.m (.c (-2)) (.v 1)) (.m (.c 1) (.v 0)))) (.v 2)) (.m (.m (.c (-1)) (.v 0)) (.v 1)))) (.v 5)) (.a (.m (.a (.m (.a (.m (.a (.m (.m (.c (-2)) (.v 4)) (.v 4)) (.a (.m (.c 5) (.v 2)) (.a (.m (.c 3) (.v 1)) (.m (.c 4) (.v 0))))) (.v 4)) (.m (.c (-2)) (.v 3))) (.v 4)) (.a (.m (.a (.m (.c (-10)) (.v 1)) (.m (.c (-5)) (.v 0))) (.v 2)) (.a (.m (.a (.m (.c 2) (.v 1)) (.m (.c (-3)) (.v 0))) (.v 1)) HN))) (.v 4)) (.m (.a (.m (.c 6) (.v 2)) (.a (.m (.c (-2)) (.v 1)) (.m (.c 2) (.v 0)))) (.v 3)))) (.v 5)) (.a (.m (.a (.m (.a (.m (.a (.m (.a (.m (.c 3) (.v 2)) (.m (.c (-3)) (.v 1))) (.v 4)) (.m (.c 4) (.v 3))) (.v 4)) (.a (.m (.a (.m (.c 2) (.v 2)) (.a (.m (.c (-6)) (.v 1)) (.m (.c (-1)) (.v 0)))) (.v 2)) (.m (.a (.m (.c 4) (.v 1)) (.m (.c 1) (.v 0))) (.v 1)))) (.v 4)) (.m (.a (.m (.c 4) (.v 2)) (.a (.m (.c (-12)) (.v 1)) (.m (.c (-4)) (.v 0)))) (.v 3))) (.v 4)) (.a (.m (.m (.c 4) (.v 3)) (.v 3)) (.a (.m (.a (.m (.a (.m (.c (-2)) (.v 2)) (.a (.m (.c (-2)) (.v 1)) (.m (.c (-4)) (.v 0)))) (.v 2)) (.a (.m (.m (.c 2) (.v 1)) (.v 1)) HN)) (.v 2)) (.m (.a (.m (.a (.m (.c 2) (.v 1)) (.m (.c 4) (.v 0))) (.v 1)) (.m (.m (.c 2) (.v 0)) (.v 0))) (.v 1)))))) (.v 5)) (.a (.m (.a (.m (.a (.m (.a (.m (.a (.m (.a (.m (.c 3) (.v 2)) (.a (.m (.c 1) (.v 1)) (.m (.c 2) (.v 0)))) (.v 4)) (.m (.c 4) (.v 3))) (.v 4)) (.a (.m (.a (.m (.c (-2)) (.v 2)) (.a (.m (.c (-10)) (.v 1)) (.m (.c (-7)) (.v 0)))) (.v 2)) (.a (.m (.a (.m (.c (-4)) (.v 1)) (.m (.c (-9)) (.v 0))) (.v 1)) (.m (.m (.c (-4)) (.v 0)) (.v 0))))) (.v 4)) (.m (.a (.m (.c 2) (.v 2)) (.a (.m (.c (-6)) (.v 1)) (.m (.c (-2)) (.v 0)))) (.v 3))) (.v 4)) (.a (.m (.m (.c 4) (.v 3)) (.v 3)) (.a (.m (.a (.m (.a (.m (.c 4) (.v 1)) (.m (.c 2) (.v 0))) (.v 2)) (.a (.m (.a (.m (.c 8) (.v 1)) (.m (.c 12) (.v 0))) (.v 1)) (.m (.m (.c 4) (.v 0)) (.v 0)))) (.v 2)) (.a (.m (.a (.m (.a (.m (.c 4) (.v 1)) (.m (.c 10) (.v 0))) (.v 1)) (.m (.m (.c 8) (.v 0)) (.v 0))) (.v 1)) (.m (.m (.m (.c 2) (.v 0)) (.v 0)) (.v 0)))))) (.v 4)) (.m (.a (.m (.a (.m (.c (-2)) (.v 2)) (.a (.m (.c (-4)) (.v 1)) (.m (.c (-4)) (.v 0)))) (.v 2)) (.a (.m (.a (.m (.c (-2)) (.v 1)) (.m (.c (-4)) (.v 0))) (.v 1)) HN)) (.v 3)))
theorem W4{x1 x2 x3 y2 l m:K2 n}(ha:(mul l (add (add y2 (mul l (sub x1 x2))) y2))=(add (add (mul x1 x1) (mul x1 x2)) (mul x2 x2)))(hb:(mul m (add (add y2 (mul m (sub x3 x2))) y2))=(add (add (mul x3 x3) (mul x3 x2)) (mul x2 x2))):(mul (sub (mul (Ci x1 x2 x3 y2 l m) (sub (sub (sub (mul m m) x3) x2) x1)) (OD x1 x2 x3 y2 l m)) (sub (mul (Ci x1 x2 x3 y2 l m) (Ci x1 x2 x3 y2 l m)) (mul (HO x1 x2 x3 y2 l m) (add (sub (sub (mul l l) x1) x2) x3))))=(sub (mul (HO x1 x2 x3 y2 l m) (sub (mul (mul (Ci x1 x2 x3 y2 l m) (sub (sub (sub (mul m m) x3) x2) x1)) (sub (sub (mul l l) x1) x2)) (mul (OD x1 x2 x3 y2 l m) x1))) (mul (mul (mul (HO x1 x2 x3 y2 l m) (sub (sub (sub (mul l l) x1) x2) x3)) (sub (sub (sub (mul m m) x3) x2) x1)) (sub (sub (mul l (sub x1 (sub (sub (mul l l) x1) x2))) (add y2 (mul l (sub x1 x2)))) (add y2 (mul l (sub x1 x2)))))):=vk (aH (x:=(.s (.m (.s (.m Cg (.s Ch (.v 0))) OC) (.s (.m Cg Cg) (.m HM (.a oU (.v 2))))) (.s (.m HM (.s (.m (.m Cg (.s Ch (.v 0))) oU) (.m OC (.v 0)))) (.m (.m (.m HM (.s oU (.v 2))) (.s Ch (.v 0))) (.s (.s (.m (.v 4) (.s (.v 0) oU)) xK) xK))))) (y:=(.a (.m OB (.s (.m (.v 4) (.a xK (.v 3))) (.a (.a (.m (.v 0) (.v 0)) (.m (.v 0) (.v 1))) (.m (.v 1) (.v 1))))) (.m (.n OB) (.s (.m (.v 5) (.a HL (.v 3))) (.a (.a (.m (.v 2) (.v 2)) (.m (.v 2) (.v 1))) (.m (.v 1) (.v 1))))))) (by decide +kernel) [x1,x2,x3,y2,l,m]) (ha) (hb)
def lA(x1 x2 _e l:K2 n):K2 n:=sub (sub (mul l l) x1) x2
def ud(x1 x2 e l:K2 n):K2 n:=sub (sub (mul (neg (add (add e e) l)) (neg (add (add e e) l))) x2) (lA x1 x2 e l)
def Df(x1 x2 e l:K2 n):K2 n:=add (mul e (sub (lA x1 x2 e l) x2)) (mul l (sub x1 x2))
def De(x1 x2 e l:K2 n):K2 n:=add (sub (mul l (sub x1 (lA x1 x2 e l))) (Df x1 x2 e l)) (sub (mul l (sub x1 (lA x1 x2 e l))) (Df x1 x2 e l))
def ue(x1 x2 e l:K2 n):K2 n:=mul (lA x1 x2 e l) (lA x1 x2 e l)
def OZ(x1 x2 e l:K2 n):K2 n:=sub (sub (mul (neg (add (add e e) l)) (sub x2 (ud x1 x2 e l))) (mul e (sub (lA x1 x2 e l) x2))) (Df x1 x2 e l)
def O0(x1 x2 e l:K2 n):K2 n:=mul (mul (De x1 x2 e l) (De x1 x2 e l)) (mul (sub (ud x1 x2 e l) x1) (sub (ud x1 x2 e l) x1))
def jc:Ex:=.s (.s (.m (.v 3) (.v 3)) (.v 0)) (.v 1)
def JV:Ex:=.a (.m (.v 2) (.s jc (.v 1))) (.m (.v 3) (.s (.v 0) (.v 1)))
def pd:Ex:=.s (.m (.v 3) (.s (.v 0) jc)) JV
def OW:Ex:=.a (.m (.a (.m (.c (-80)) (.v 1)) (.m (.c (-176)) (.v 0))) (.v 1)) (.m (.m (.c (-80)) (.v 0)) (.v 0))
def JW:Ex:=.n (.a (.a (.v 2) (.v 2)) (.v 3))
def uc:Ex:=.s (.s (.m JW JW) (.v 1)) jc
def OV:Ex:=.s (.s (.m JW (.s (.v 1) uc)) (.m (.v 2) (.s jc (.v 1)))) JV
def OX:Ex:=.m (.m (.a pd pd) (.a pd pd)) (.m (.s uc (.v 0)) (.s uc (.v 0)))
def OY:Ex:=.a (.a (.m jc jc) (.m jc jc)) (.m jc jc)
theorem Xw{x1 x2 e l:K2 n}(ha:(mul l (add (Df x1 x2 e l) (mul e (sub (lA x1 x2 e l) x2))))=(add (add (mul x1 x1) (mul x1 x2)) (mul x2 x2))):(sub (mul (mul (add (add (ue x1 x2 e l) (ue x1 x2 e l)) (ue x1 x2 e l)) (add (add (ue x1 x2 e l) (ue x1 x2 e l)) (ue x1 x2 e l))) (mul (sub (ud x1 x2 e l) x1) (sub (ud x1 x2 e l) x1))) (mul (O0 x1 x2 e l) (add (lA x1 x2 e l) (lA x1 x2 e l))))=(sub (mul (mul (OZ x1 x2 e l) (OZ x1 x2 e l)) (mul (De x1 x2 e l) (De x1 x2 e l))) (mul (O0 x1 x2 e l) (add x1 (ud x1 x2 e l)))):=gB (aH (x:=(.s (.s (.m (.m OY OY) (.m (.s uc (.v 0)) (.s uc (.v 0)))) (.m OX (.a jc jc))) (.s (.m (.m OV OV) (.m (.a pd pd) (.a pd pd))) (.m OX (.a (.v 0) uc))))) (y:=(.m (.a (.m (.a (.m (.a (.m (.a (.m (.a (.m (.a (.m (.m (.m (.c (-96)) (.v 2)) (.v 2)) (.v 3)) (.m (.m (.m (.c (-224)) (.v 2)) (.v 2)) (.v 2))) (.v 3)) (.m (.m (.a (.m (.m (.c (-160)) (.v 2)) (.v 2)) (.a (.m (.c 208) (.v 1)) (.m (.c 176) (.v 0)))) (.v 2)) (.v 2))) (.v 3)) (.m (.m (.m (.a (.m (.m (.c (-32)) (.v 2)) (.v 2)) (.a (.m (.c 480) (.v 1)) (.m (.c 384) (.v 0)))) (.v 2)) (.v 2)) (.v 2))) (.v 3)) (.m (.m (.a (.m (.m (.a (.m (.c 336) (.v 1)) (.m (.c 240) (.v 0))) (.v 2)) (.v 2)) OW) (.v 2)) (.v 2))) (.v 3)) (.m (.m (.m (.a (.m (.m (.a (.m (.c 64) (.v 1)) (.m (.c 32) (.v 0))) (.v 2)) (.v 2)) (.a (.m (.a (.m (.c (-160)) (.v 1)) (.m (.c (-352)) (.v 0))) (.v 1)) (.m (.m (.c (-160)) (.v 0)) (.v 0)))) (.v 2)) (.v 2)) (.v 2))) (.v 3)) (.m (.m (.m (.m OW (.v 2)) (.v 2)) (.v 2)) (.v 2))) (.s (.m (.v 3) (.a JV (.m (.v 2) (.s jc (.v 1))))) (.a (.a (.m (.v 0) (.v 0)) (.m (.v 0) (.v 1))) (.m (.v 1) (.v 1)))))) (by decide +kernel) [x1,x2,e,l]) (ha)
def iG(x1 x2 _e l:K2 n):K2 n:=sub (sub (mul l l) x1) x2
def Dj(x1 x2 e l:K2 n):K2 n:=add (add (mul (iG x1 x2 e l) (iG x1 x2 e l)) (mul (iG x1 x2 e l) (iG x1 x2 e l))) (mul (iG x1 x2 e l) (iG x1 x2 e l))
def Dk(x1 x2 e l:K2 n):K2 n:=sub (sub (mul (neg (add (add e e) l)) (neg (add (add e e) l))) x2) (iG x1 x2 e l)
def Dl(x1 x2 e l:K2 n):K2 n:=add (mul e (sub (iG x1 x2 e l) x2)) (mul l (sub x1 x2))
def JZ(x1 x2 e l:K2 n):K2 n:=sub (mul l (sub x1 (iG x1 x2 e l))) (Dl x1 x2 e l)
def pf(x1 x2 e l:K2 n):K2 n:=add (JZ x1 x2 e l) (JZ x1 x2 e l)
def O3(x1 x2 e l:K2 n):K2 n:=mul (sub (sub (mul (neg (add (add e e) l)) (sub x2 (Dk x1 x2 e l))) (mul e (sub (iG x1 x2 e l) x2))) (Dl x1 x2 e l)) (pf x1 x2 e l)
def iF:Ex:=.s (.s (.m (.v 3) (.v 3)) (.v 0)) (.v 1)
def Dh:Ex:=.a (.m (.v 2) (.s iF (.v 1))) (.m (.v 3) (.s (.v 0) (.v 1)))
def nK:Ex:=.s (.m (.v 3) (.s (.v 0) iF)) Dh
def O1:Ex:=.a (.m (.a (.m (.a (.m (.a (.m (.c (-36)) (.v 1)) (.m (.c (-144)) (.v 0))) (.v 1)) (.m (.m (.c (-216)) (.v 0)) (.v 0))) (.v 1)) (.m (.m (.m (.c (-144)) (.v 0)) (.v 0)) (.v 0))) (.v 1)) (.m (.m (.m (.m (.c (-36)) (.v 0)) (.v 0)) (.v 0)) (.v 0))
def Di:Ex:=.a (.a (.m iF iF) (.m iF iF)) (.m iF iF)
def JX:Ex:=.m (.a nK nK) (.a nK nK)
def JY:Ex:=.n (.a (.a (.v 2) (.v 2)) (.v 3))
def Dg:Ex:=.s (.s (.m JY JY) (.v 1)) iF
def O2:Ex:=.m (.s (.s (.m JY (.s (.v 1) Dg)) (.m (.v 2) (.s iF (.v 1)))) Dh) (.a nK nK)
theorem Xx{x1 x2 e l:K2 n}(ha:(mul l (add (Dl x1 x2 e l) (mul e (sub (iG x1 x2 e l) x2))))=(add (add (mul x1 x1) (mul x1 x2)) (mul x2 x2))):(mul (sub (mul (Dj x1 x2 e l) (sub (Dk x1 x2 e l) x1)) (O3 x1 x2 e l)) (sub (mul (Dj x1 x2 e l) (Dj x1 x2 e l)) (mul (mul (pf x1 x2 e l) (pf x1 x2 e l)) (add (iG x1 x2 e l) (iG x1 x2 e l)))))=(sub (mul (mul (pf x1 x2 e l) (pf x1 x2 e l)) (sub (mul (mul (Dj x1 x2 e l) (sub (Dk x1 x2 e l) x1)) (iG x1 x2 e l)) (mul (O3 x1 x2 e l) x1))) (mul (mul (mul (mul (pf x1 x2 e l) (pf x1 x2 e l)) (pf x1 x2 e l)) (sub (Dk x1 x2 e l) x1)) (sub (JZ x1 x2 e l) (Dl x1 x2 e l)))):=gB (aH (x:=(.s (.m (.s (.m Di (.s Dg (.v 0))) O2) (.s (.m Di Di) (.m JX (.a iF iF)))) (.s (.m JX (.s (.m (.m Di (.s Dg (.v 0))) iF) (.m O2 (.v 0)))) (.m (.m (.m JX (.a nK nK)) (.s Dg (.v 0))) (.s nK Dh))))) (y:=(.m (.a (.m (.a (.m (.a (.m (.a (.m (.a (.m (.a (.m (.a (.m (.a (.m (.a (.m (.m (.c (-84)) (.v 2)) (.v 3)) (.m (.m (.c (-212)) (.v 2)) (.v 2))) (.v 3)) (.m (.a (.m (.m (.c (-240)) (.v 2)) (.v 2)) (.a (.m (.c 304) (.v 1)) (.m (.c 272) (.v 0)))) (.v 2))) (.v 3)) (.m (.m (.a (.m (.m (.c (-144)) (.v 2)) (.v 2)) (.a (.m (.c 752) (.v 1)) (.m (.c 592) (.v 0)))) (.v 2)) (.v 2))) (.v 3)) (.m (.a (.m (.m (.a (.m (.m (.c (-32)) (.v 2)) (.v 2)) (.a (.m (.c 864) (.v 1)) (.m (.c 576) (.v 0)))) (.v 2)) (.v 2)) (.a (.m (.a (.m (.c (-328)) (.v 1)) (.m (.c (-688)) (.v 0))) (.v 1)) (.m (.m (.c (-328)) (.v 0)) (.v 0)))) (.v 2))) (.v 3)) (.m (.m (.a (.m (.m (.a (.m (.c 544) (.v 1)) (.m (.c 320) (.v 0))) (.v 2)) (.v 2)) (.a (.m (.a (.m (.c (-680)) (.v 1)) (.m (.c (-1328)) (.v 0))) (.v 1)) (.m (.m (.c (-584)) (.v 0)) (.v 0)))) (.v 2)) (.v 2))) (.v 3)) (.m (.a (.m (.m (.a (.m (.m (.a (.m (.c 128) (.v 1)) (.m (.c 64) (.v 0))) (.v 2)) (.v 2)) (.a (.m (.a (.m (.c (-720)) (.v 1)) (.m (.c (-1152)) (.v 0))) (.v 1)) (.m (.m (.c (-432)) (.v 0)) (.v 0)))) (.v 2)) (.v 2)) (.a (.m (.a (.m (.a (.m (.c 112) (.v 1)) (.m (.c 480) (.v 0))) (.v 1)) (.m (.m (.c 528) (.v 0)) (.v 0))) (.v 1)) (.m (.m (.m (.c 176) (.v 0)) (.v 0)) (.v 0)))) (.v 2))) (.v 3)) (.m (.m (.a (.m (.m (.a (.m (.a (.m (.c (-496)) (.v 1)) (.m (.c (-640)) (.v 0))) (.v 1)) (.m (.m (.c (-208)) (.v 0)) (.v 0))) (.v 2)) (.v 2)) (.a (.m (.a (.m (.a (.m (.c 48) (.v 1)) (.m (.c 576) (.v 0))) (.v 1)) (.m (.m (.c 720) (.v 0)) (.v 0))) (.v 1)) (.m (.m (.m (.c 240) (.v 0)) (.v 0)) (.v 0)))) (.v 2)) (.v 2))) (.v 3)) (.m (.a (.m (.m (.a (.m (.m (.a (.m (.a (.m (.c (-128)) (.v 1)) (.m (.c (-128)) (.v 0))) (.v 1)) (.m (.m (.c (-32)) (.v 0)) (.v 0))) (.v 2)) (.v 2)) (.a (.m (.a (.m (.a (.m (.c (-96)) (.v 1)) (.m (.c 144) (.v 0))) (.v 1)) (.m (.m (.c 288) (.v 0)) (.v 0))) (.v 1)) (.m (.m (.m (.c 96) (.v 0)) (.v 0)) (.v 0)))) (.v 2)) (.v 2)) O1) (.v 2))) (.v 3)) (.m (.m (.a (.m (.m (.a (.m (.a (.m (.a (.m (.c (-32)) (.v 1)) (.m (.c 48) (.v 0))) (.v 1)) (.m (.m (.c 96) (.v 0)) (.v 0))) (.v 1)) (.m (.m (.m (.c 32) (.v 0)) (.v 0)) (.v 0))) (.v 2)) (.v 2)) O1) (.v 2)) (.v 2))) (.s (.m (.v 3) (.a Dh (.m (.v 2) (.s iF (.v 1))))) (.a (.a (.m (.v 0) (.v 0)) (.m (.v 0) (.v 1))) (.m (.v 1) (.v 1)))))) (by decide +kernel) [x1,x2,e,l]) (ha)
theorem Rz{h l m:K2 n}(hh:add h h=ofZ 1):m=neg (add (add (neg (mul h (add l m))) (neg (mul h (add l m)))) l):=gB (aH (x:=(.s (.v 2) (.n (.a (.a (.n (.m (.v 0) (.a (.v 1) (.v 2)))) (.n (.m (.v 0) (.a (.v 1) (.v 2))))) (.v 1))))) (y:=(.m (.n (.a (.v 1) (.v 2))) (.s (.a (.v 0) (.v 0)) (.c 1)))) (by decide +kernel) [h,l,m]) (hh)
theorem RA{h l m x1 x2 y2:K2 n}(hh:add h h=ofZ 1)(h3:y2=add (cy l x1 (add y2 (mul l (sub x1 x2))) x2) (mul m (sub x2 (cx l x1 x2)))):y2=mul (neg (mul h (add l m))) (sub (cx l x1 x2) x2):=vk (aH (x:=(.s (.v 5) (.m (.n (.m (.v 0) (.a (.v 1) (.v 2)))) (.s (.s (.s (.m (.v 1) (.v 1)) (.v 3)) (.v 4)) (.v 4))))) (y:=(.a (.m (.n (.v 5)) (.s (.a (.v 0) (.v 0)) (.c 1))) (.m (.v 0) (.s (.v 5) (.a (.s (.m (.v 1) (.s (.v 3) (.s (.s (.m (.v 1) (.v 1)) (.v 3)) (.v 4)))) (.a (.v 5) (.m (.v 1) (.s (.v 3) (.v 4))))) (.m (.v 2) (.s (.v 4) (.s (.s (.m (.v 1) (.v 1)) (.v 3)) (.v 4))))))))) (by decide +kernel) [h,l,m,x1,x2,y2]) (hh) (h3)
theorem Slp.diff{l x1 y1 x2 y2:K2 n}(h:Slp l x1 y1 x2 y2):mul l (sub x1 x2)=sub y1 y2:=gB (aH (x:=(.s (.m (.v 4) (.s (.v 0) (.v 2))) (.s (.v 1) (.v 3)))) (y:=(.m (.c (-1)) (.s (.v 1) (.a (.v 3) (.m (.v 4) (.s (.v 0) (.v 2))))))) (by decide +kernel) [x1,y1,x2,y2,l]) (h.a)
theorem Slp.diff'{l x1 y1 x2 y2:K2 n}(h:Slp l x1 y1 x2 y2):mul l (sub x2 x1)=sub y2 y1:=h.symm.diff
theorem Cc(hp:P3 n):∃h:K2 n,add h h=ofZ 1:=by
 have h2:=gj hp (jt hp)
 refine⟨inv (add one one),?_⟩
 have:=j7 hp h2
 rw[mul_add',mul_one']at this
 rw[dL];exact this
theorem CC(hp:P3 n){b:K2 n}(h2:No2 b){x1 y1 x2 y2 l m:K2 n}(hP:mul y1 y1=add (mul (mul x1 x1) x1) b)(hl:Slp l x1 y1 x2 y2)
  (hm:Slp m x2 y2 (cx l x1 x2) (cy l x1 y1 x2)) (hx:x1≠cx m x2 (cx l x1 x2)):
  pa (some (cx l x1 x2,cy l x1 y1 x2)) (some (cx l x1 x2,cy l x1 y1 x2))=pa (some (x1,y1)) (some (cx m x2 (cx l x1 x2),cy m x2 y2 (cx l x1 x2))):=by
 have hS:=xZ hl hP
 have hT:=xZ hm.symm hS
 rw[mE hm.symm,jn m (cx l x1 x2) x2]at hT
 have hs0:=gj hp (gH h2 hS)
 obtain⟨k,hk,hkn⟩:=(cq hp hS hS).resolve_left fun h=>hs0 h.2
 obtain⟨j,hj,hjn⟩:=(cq hp hP hT).resolve_left fun h=>hx h.1
 rw[cG hp hk hkn,cG hp hj hjn]
 have hC:sub (cx m x2 (cx l x1 x2)) x1≠zero:=fun e=>hx (aE e).symm
 have hkb:=hk.b
 have hjd:=hj.diff'
 clear hk hkn hj hjn hT hS h2 hP
 obtain⟨h,hh⟩:=Cc hp
 obtain⟨rfl,hla⟩:=hl
 have e1:=RA hh hm.a
 have e2:=Rz (l:=l) (m:=m) hh
 clear hm
 generalize neg (mul h (add l m))=e at e1 e2
 subst e2
 generalize h1:mul e (sub (cx l x1 x2) x2)=y at e1
 subst e1
 subst h1
 have ex:=Ot hp hkb hjd hs0 hC (Xw hla)
 have ey:=Ou hp hkb hjd hs0 hC ex (Xx hla)
 exact bD ex ey
theorem Sa(hp:P3 n){b:K2 n}{x1 y1 x2 y2 x3 y3 l m:K2 n}(hP:mul y1 y1=add (mul (mul x1 x1) x1) b)(hR:mul y3 y3=add (mul (mul x3 x3) x3) b)(hl:Slp l x1 y1 x2 y2)(hm:Slp m x3 y3 x2 y2)
  (hA:cx l x1 x2≠x3) (hx:x1≠cx m x3 x2):
  pa (some (cx l x1 x2,cy l x1 y1 x2)) (some (x3,y3))=pa (some (x1,y1)) (some (cx m x3 x2,cy m x3 y3 x2)):=by
 have hS:=xZ hl hP
 have hT:=xZ hm hR
 obtain⟨k,hk,hkn⟩:=(cq hp hS hR).resolve_left fun h=>hA h.1
 obtain⟨j,hj,hjn⟩:=(cq hp hP hT).resolve_left fun h=>hx h.1
 rw[cG hp hk hkn,cG hp hj hjn]
 have hA':sub (cx l x1 x2) x3≠zero:=fun e=>hA (aE e)
 have hC:sub (cx m x3 x2) x1≠zero:=fun e=>hx (aE e).symm
 have hkd:=hk.diff
 have hjd:=hj.diff'
 clear hk hkn hj hjn hT hS hP hR
 obtain⟨rfl,hla⟩:=hl
 obtain⟨rfl,hma⟩:=hm
 have ex:=Ot hp hkd hjd hA' hC (W3 hla hma)
 have ey:=Ou hp hkd hjd hA' hC ex (W4 hla hma)
 exact bD ex ey
theorem x6(hp:P3 n){b:K2 n}(h2:No2 b){p q:Pt n}(hP:Onc b p)(hQ:Onc b q):pa (pn q) (pa q p)=p:=by
 rw[dJ hp hQ hP,dJ hp (cI hQ) (dk hp hP hQ),ju hp h2 hP hQ]
theorem f8(hp:P3 n){b:K2 n}(h2:No2 b){p q r:Pt n}(hP:Onc b p)(hQ:Onc b q)(hR:Onc b r):pa (pa p q) r=pa p (pa q r):=by
 cases p with
 | none=>rfl
 | some p=>cases q with
  | none=>rfl
  | some q=>cases r with
   | none=>rw[bJ,bJ]
   | some r=>
    have hPQ:=dk hp hP hQ
    have hQR:=dk hp hQ hR
    by_cases c1:some p=pn (some q)
    ·rw[c1,m9 hp,x6 hp h2 hR hQ];rfl
    by_cases c2:some r=pn (some q)
    ·rw[c2,vJ hp,ju hp h2 hP hQ,bJ]
    by_cases c3:some r=pn (pa (some p) (some q))
    ·have e1:=CB hp hP hQ
     have e2:=x6 hp h2 (cI hP) (cI hQ)
     rw[IJ,dJ hp (cI hQ) (cI hP),e1]at e2
     rw[c3,vJ hp,e2,vJ hp]
    by_cases c4:some p=pn (pa (some q) (some r))
    ·have e1:=CB hp hQ hR
     have e2:=ju hp h2 (cI hR) (cI hQ)
     rw[IJ,dJ hp (cI hR) (cI hQ),e1]at e2
     rw[c4,m9 hp,e2,m9 hp]
    obtain⟨x1,y1⟩:=p
    obtain⟨x2,y2⟩:=q
    obtain⟨x3,y3⟩:=r
    have deg:∀{a c d e:K2 n},a=d→add c e=zero→(some (a,c):Pt n)=pn (some (d,e)):=fun h1 h3=>by
     rw[h1,aP h3];rfl
    obtain⟨l,hl,hln⟩:=(cq hp (bK hP) (bK hQ)).resolve_left fun h=>c1 (deg h.1 h.2)
    obtain⟨m,hm,hmn⟩:=(cq hp (bK hR) (bK hQ)).resolve_left fun h=>c2 (deg h.1 h.2)
    have eS:=cG hp hl hln
    have eT:=cG hp hm hmn
    rw[dJ hp hR hQ]at eT
    rw[eS]at c3 hPQ ⊢
    rw[eT]at c4 hQR ⊢
    have hS:=(cq hp (bK hPQ) (bK hR)).resolve_left fun h=>c3 (deg h.1.symm (by rw[add_comm'];exact h.2))
    have hT:=(cq hp (bK hP) (bK hQR)).resolve_left fun h=>c4 (deg h.1 h.2)
    by_cases hA:cx l x1 x2=x3
    ·obtain⟨k,hk,_⟩:=hS
     have ey:y3=cy l x1 y1 x2:=by
      have:=hk.a
      rw[hA,aZ,aj,add_zero']at this
      exact this.symm
     by_cases hx:x1=cx m x3 x2
     ·exfalso
      obtain⟨j,hj,_⟩:=hT
      have ez:y1=cy m x3 y3 x2:=by
       have:=hj.a
       rwa [← hx,aZ,aj,add_zero']at this
      have f1:pa (some (x1,y1)) (some (x2,y2))=some (x3,y3):=by rw[eS,hA,ey]
      have f2:pa (some (x2,y2)) (some (x3,y3))=some (x1,y1):=by rw[eT,← hx,← ez]
      have g1:=ju hp h2 hP hQ
      rw[f1]at g1
      have g2:=ju hp h2 hQ hR
      rw[f2,← g1,dJ hp hR (cI hQ),ju hp h2 (cI hQ) hR]at g2
      have g3:=congrArg (fun o:Pt n=>(o.getD (zero,zero)).2) g2
      have g4:neg y2=y2:=g3
      refine gj hp (gH h2 hQ) ?_
      have:add y2 y2=add (neg y2) y2:=by rw[g4]
      rw[this,add_comm',add_neg']
     ·have hm':=hm.symm
      rw[jn m x3 x2,mE hm]at eT ⊢
      rw[jn m x3 x2]at hx
      subst ey
      subst hA
      exact CC hp h2 hP hl hm' hx
    ·by_cases hx:x1=cx m x3 x2
     ·obtain⟨j,hj,_⟩:=hT
      have ez:y1=cy m x3 y3 x2:=by
       have:=hj.a
       rwa [← hx,aZ,aj,add_zero']at this
      rw[dJ hp hPQ hR]
      rw[jn l x1 x2,mE hl]
      rw[jn l x1 x2]at hA
      subst ez
      subst hx
      exact(CC hp h2 hR hm hl.symm (fun e=>hA e.symm)).symm
     ·exact Sa hp hP hR hl hm hA hx
end K2
end Go.Proofs.YtndhfbecpghinaaGreat.L.Kf
namespace Go.Proofs.YtndhfbecpghinaaGreat.L.Kf
open Pr
namespace K2
variable {n:Nat} [NeZero n]
attribute [local irreducible] add mul sub neg zero one inv
theorem D8{y s q1 q2 q3 q4 i2 i4 b:K2 n}(h2:(mul q2 i2)=ofZ 1)(h4:(mul q4 i4)=ofZ 1)(hy:(mul y y)=s)(h:(mul (mul q3 q3) (mul s (mul (mul q2 q2) q2)))=(mul (add (mul (mul q1 q1) q1) (mul b (mul (mul q2 q2) q2))) (mul q4 q4))):(mul (mul y (mul q3 i4)) (mul y (mul q3 i4)))=(add (mul (mul (mul q1 i2) (mul q1 i2)) (mul q1 i2)) b):=W9 (aH (x:=(.s (.m (.m (.v 0) (.m (.v 4) (.v 7))) (.m (.v 0) (.m (.v 4) (.v 7)))) (.a (.m (.m (.m (.v 2) (.v 6)) (.m (.v 2) (.v 6))) (.m (.v 2) (.v 6))) (.v 8)))) (y:=(.a (.a (.a (.m (.m (.m (.m (.v 4) (.v 4)) (.v 7)) (.v 7)) (.s (.m (.v 0) (.v 0)) (.v 1))) (.m (.m (.s (.v 8) (.m (.m (.m (.m (.v 1) (.v 4)) (.v 4)) (.v 7)) (.v 7))) (.a (.a (.m (.m (.v 3) (.v 6)) (.m (.v 3) (.v 6))) (.m (.v 3) (.v 6))) (.c 1))) (.s (.m (.v 3) (.v 6)) (.c 1)))) (.m (.m (.a (.m (.m (.m (.m (.m (.v 2) (.v 2)) (.v 2)) (.v 6)) (.v 6)) (.v 6)) (.m (.m (.m (.v 8) (.m (.v 3) (.v 6))) (.m (.v 3) (.v 6))) (.m (.v 3) (.v 6)))) (.a (.m (.v 5) (.v 7)) (.c 1))) (.s (.m (.v 5) (.v 7)) (.c 1)))) (.m (.m (.m (.m (.m (.v 6) (.v 6)) (.v 6)) (.v 7)) (.v 7)) (.s (.m (.m (.v 4) (.v 4)) (.m (.v 1) (.m (.m (.v 3) (.v 3)) (.v 3)))) (.m (.a (.m (.m (.v 2) (.v 2)) (.v 2)) (.m (.v 8) (.m (.m (.v 3) (.v 3)) (.v 3)))) (.m (.v 5) (.v 5))))))) (by decide +kernel) [y,s,q1,q2,q3,q4,i2,i4,b]) (hy) (h2) (h4) (h)
def fA(c a b:K2 n):K2 n:=(add (add (add (add (mul a a) (mul a b)) (mul b b)) (mul (mul (mul (mul (ofZ 9) c) c) c) (add a b))) (mul (mul (ofZ 12) c) c))
structure SlM (c l X1 y1 X2 y2:K2 n):Prop where
 a:y1=add y2 (mul l (sub X1 X2))
 b:mul l (add y1 y2)=fA c X1 X2
structure SlT (t l x1 y1 x2 y2:K2 n):Prop where
 a:y1=add y2 (mul l (sub x1 x2))
 b:mul l (add y1 y2)=add (q3 x1 x2) t
theorem SlT.m{x1 y1 x2 y2 l g c a:K2 n}(hg:g=(mul (mul (mul (ofZ 3) c) c) c))(ha:a=(sub (mul (mul (ofZ 12) c) c) (mul (mul (mul (mul (mul (mul (ofZ 27) c) c) c) c) c) c)))(h:SlT a l x1 y1 x2 y2):SlM c l (sub x1 g) y1 (sub x2 g) y2:=by
 obtain⟨rfl,hsb⟩:=h
 exact⟨aH (x:=(.a (.v 2) (.m (.v 3) (.s (.v 0) (.v 1))))) (y:=(.a (.v 2) (.m (.v 3) (.s (.s (.v 0) (.v 4)) (.s (.v 1) (.v 4)))))) (by decide +kernel) [x1,x2,y2,l,g,c,a],U0 (aH (x:=(.s (.m (.v 3) (.a (.a (.v 2) (.m (.v 3) (.s (.v 0) (.v 1)))) (.v 2))) (.a (.a (.a (.a (.m (.s (.v 0) (.v 4)) (.s (.v 0) (.v 4))) (.m (.s (.v 0) (.v 4)) (.s (.v 1) (.v 4)))) (.m (.s (.v 1) (.v 4)) (.s (.v 1) (.v 4)))) (.m (.m (.m (.m (.c 9) (.v 5)) (.v 5)) (.v 5)) (.a (.s (.v 0) (.v 4)) (.s (.v 1) (.v 4))))) (.m (.m (.c 12) (.v 5)) (.v 5))))) (y:=(.a (.a (.m (.c 1) (.s (.m (.v 3) (.a (.a (.v 2) (.m (.v 3) (.s (.v 0) (.v 1)))) (.v 2))) (.a (.a (.a (.m (.v 0) (.v 0)) (.m (.v 0) (.v 1))) (.m (.v 1) (.v 1))) (.v 6)))) (.m (.a (.m (.m (.m (.c 9) (.v 5)) (.v 5)) (.v 5)) (.a (.m (.c (-3)) (.v 4)) (.a (.m (.c 3) (.v 1)) (.m (.c 3) (.v 0))))) (.s (.v 4) (.m (.m (.m (.c 3) (.v 5)) (.v 5)) (.v 5))))) (.m (.c 1) (.s (.v 6) (.s (.m (.m (.c 12) (.v 5)) (.v 5)) (.m (.m (.m (.m (.m (.m (.c 27) (.v 5)) (.v 5)) (.v 5)) (.v 5)) (.v 5)) (.v 5))))))) (by decide +kernel) [x1,x2,y2,l,g,c,a]) (hsb) (hg) (ha)⟩
theorem C1{y z:K2 n}(h:mul y y=mul z z):mul (sub y z) (add y z)=zero:=by
 rw[← tC]
 exact gB (aH (x:=(.s (.m (.s (.v 0) (.v 1)) (.a (.v 0) (.v 1))) (.c 0))) (y:=(.m (.c 1) (.s (.m (.v 0) (.v 0)) (.m (.v 1) (.v 1))))) (by decide +kernel) [y,z]) (h)
theorem QN{X z i:K2 n}(h:mul i z=one):mul (mul X (mul z z)) (mul i i)=X:=by
 rw[← dL]at h
 exact gB (aH (x:=(.s (.m (.m (.v 0) (.m (.v 1) (.v 1))) (.m (.v 2) (.v 2))) (.v 0))) (y:=(.m (.m (.v 0) (.a (.m (.v 2) (.v 1)) (.c 1))) (.s (.m (.v 2) (.v 1)) (.c 1)))) (by decide +kernel) [X,z,i]) (h)
theorem QO{X z i:K2 n}(h:mul i z=one):mul (mul X (mul (mul z z) z)) (mul (mul i i) i)=X:=by
 rw[← dL]at h
 exact gB (aH (x:=(.s (.m (.m (.v 0) (.m (.m (.v 1) (.v 1)) (.v 1))) (.m (.m (.v 2) (.v 2)) (.v 2))) (.v 0))) (y:=(.m (.m (.v 0) (.a (.a (.m (.m (.v 2) (.v 1)) (.m (.v 2) (.v 1))) (.m (.v 2) (.v 1))) (.c 1))) (.s (.m (.v 2) (.v 1)) (.c 1)))) (by decide +kernel) [X,z,i]) (h)
end K2
end Go.Proofs.YtndhfbecpghinaaGreat.L.Kf
namespace Go.Proofs.YtndhfbecpghinaaGreat.L.Kf
open Pr
namespace K2
variable {n:Nat} [NeZero n]
attribute [local irreducible] add mul sub neg zero one inv
def jx(x z:K2 n):K2 n:=mul x (mul (inv z) (inv z))
def jy(y z:K2 n):K2 n:=mul y (mul (mul (inv z) (inv z)) (inv z))
def jp(x y z:K2 n):Pt n:=if z=zero then none else some (jx x z,jy y z)
theorem xL(x y:K2 n):jp x y zero=none:=if_pos rfl
theorem Ev{x y z:K2 n}(h:z=zero):jp x y z=none:=if_pos h
theorem pA{x y z:K2 n}(h:z≠zero):jp x y z=some (jx x z,jy y z):=if_neg h
def td0(x y:K2 n):K2 n:=mul x (mul y y)
def td1(x y:K2 n):K2 n:=add (td0 x y) (td0 x y)
def td(x y:K2 n):K2 n:=add (td1 x y) (td1 x y)
def te(x:K2 n):K2 n:=add (add (mul x x) (mul x x)) (mul x x)
def tX(x y:K2 n):K2 n:=sub (mul (te x) (te x)) (add (td x y) (td x y))
def tc(y:K2 n):Nat→K2 n
 | 0=>mul (mul y y) (mul y y)
 | k+1=>add (tc y k) (tc y k)
def tY(x y:K2 n):K2 n:=sub (mul (te x) (sub (td x y) (tX x y))) (tc y 3)
def tZ(y z:K2 n):K2 n:=add (mul y z) (mul y z)
theorem AR(hp:P3 n)(x y:K2 n):jp x y one=some (x,y):=by
 have h1:=jt hp
 have hi:inv (one:K2 n)=one:=by
  have:=j7 hp h1
  rwa [mul_one']at this
 rw[pA h1,jx,jy,hi,mul_one',mul_one',mul_one',mul_one']
theorem Xy{x y i j:K2 n}(hk:mul (add y y) j=i):mul (mul (te x) j) (add (mul y (mul (mul i i) i)) (mul y (mul (mul i i) i)))=q3 (mul x (mul i i)) (mul x (mul i i)):=gB (aH (x:=(.s (.m (.m (.a (.a (.m (.v 0) (.v 0)) (.m (.v 0) (.v 0))) (.m (.v 0) (.v 0))) (.v 3)) (.a (.m (.v 1) (.m (.m (.v 2) (.v 2)) (.v 2))) (.m (.v 1) (.m (.m (.v 2) (.v 2)) (.v 2))))) (.a (.a (.m (.m (.v 0) (.m (.v 2) (.v 2))) (.m (.v 0) (.m (.v 2) (.v 2)))) (.m (.m (.v 0) (.m (.v 2) (.v 2))) (.m (.v 0) (.m (.v 2) (.v 2))))) (.m (.m (.v 0) (.m (.v 2) (.v 2))) (.m (.v 0) (.m (.v 2) (.v 2))))))) (y:=(.m (.m (.m (.m (.m (.m (.c 3) (.v 0)) (.v 0)) (.v 2)) (.v 2)) (.v 2)) (.s (.m (.a (.v 1) (.v 1)) (.v 3)) (.v 2)))) (by decide +kernel) [x,y,i,j]) (hk)
theorem XA{x y i j:K2 n}(hk:mul (add y y) j=i):cx (mul (te x) j) (mul x (mul i i)) (mul x (mul i i))=mul (tX x y) (mul j j):=gB (aH (x:=(.s (.s (.s (.m (.m (.a (.a (.m (.v 0) (.v 0)) (.m (.v 0) (.v 0))) (.m (.v 0) (.v 0))) (.v 3)) (.m (.a (.a (.m (.v 0) (.v 0)) (.m (.v 0) (.v 0))) (.m (.v 0) (.v 0))) (.v 3))) (.m (.v 0) (.m (.v 2) (.v 2)))) (.m (.v 0) (.m (.v 2) (.v 2)))) (.m (.s (.m (.a (.a (.m (.v 0) (.v 0)) (.m (.v 0) (.v 0))) (.m (.v 0) (.v 0))) (.a (.a (.m (.v 0) (.v 0)) (.m (.v 0) (.v 0))) (.m (.v 0) (.v 0)))) (.a (.a (.a (.m (.v 0) (.m (.v 1) (.v 1))) (.m (.v 0) (.m (.v 1) (.v 1)))) (.a (.m (.v 0) (.m (.v 1) (.v 1))) (.m (.v 0) (.m (.v 1) (.v 1))))) (.a (.a (.m (.v 0) (.m (.v 1) (.v 1))) (.m (.v 0) (.m (.v 1) (.v 1)))) (.a (.m (.v 0) (.m (.v 1) (.v 1))) (.m (.v 0) (.m (.v 1) (.v 1))))))) (.m (.v 3) (.v 3))))) (y:=(.m (.a (.m (.m (.m (.c 4) (.v 0)) (.v 1)) (.v 3)) (.m (.m (.c 2) (.v 0)) (.v 2))) (.s (.m (.a (.v 1) (.v 1)) (.v 3)) (.v 2)))) (by decide +kernel) [x,y,i,j]) (hk)
theorem XB{x y i j:K2 n}(hk:mul (add y y) j=i):cy (mul (te x) j) (mul x (mul i i)) (mul y (mul (mul i i) i)) (mul x (mul i i))=mul (tY x y) (mul (mul j j) j):=gB (aH (x:=(.s (.s (.m (.m (.a (.a (.m (.v 0) (.v 0)) (.m (.v 0) (.v 0))) (.m (.v 0) (.v 0))) (.v 3)) (.s (.m (.v 0) (.m (.v 2) (.v 2))) (.s (.s (.m (.m (.a (.a (.m (.v 0) (.v 0)) (.m (.v 0) (.v 0))) (.m (.v 0) (.v 0))) (.v 3)) (.m (.a (.a (.m (.v 0) (.v 0)) (.m (.v 0) (.v 0))) (.m (.v 0) (.v 0))) (.v 3))) (.m (.v 0) (.m (.v 2) (.v 2)))) (.m (.v 0) (.m (.v 2) (.v 2)))))) (.m (.v 1) (.m (.m (.v 2) (.v 2)) (.v 2)))) (.m (.s (.m (.a (.a (.m (.v 0) (.v 0)) (.m (.v 0) (.v 0))) (.m (.v 0) (.v 0))) (.s (.a (.a (.m (.v 0) (.m (.v 1) (.v 1))) (.m (.v 0) (.m (.v 1) (.v 1)))) (.a (.m (.v 0) (.m (.v 1) (.v 1))) (.m (.v 0) (.m (.v 1) (.v 1))))) (.s (.m (.a (.a (.m (.v 0) (.v 0)) (.m (.v 0) (.v 0))) (.m (.v 0) (.v 0))) (.a (.a (.m (.v 0) (.v 0)) (.m (.v 0) (.v 0))) (.m (.v 0) (.v 0)))) (.a (.a (.a (.m (.v 0) (.m (.v 1) (.v 1))) (.m (.v 0) (.m (.v 1) (.v 1)))) (.a (.m (.v 0) (.m (.v 1) (.v 1))) (.m (.v 0) (.m (.v 1) (.v 1))))) (.a (.a (.m (.v 0) (.m (.v 1) (.v 1))) (.m (.v 0) (.m (.v 1) (.v 1)))) (.a (.m (.v 0) (.m (.v 1) (.v 1))) (.m (.v 0) (.m (.v 1) (.v 1))))))))) (.a (.a (.a (.m (.m (.v 1) (.v 1)) (.m (.v 1) (.v 1))) (.m (.m (.v 1) (.v 1)) (.m (.v 1) (.v 1)))) (.a (.m (.m (.v 1) (.v 1)) (.m (.v 1) (.v 1))) (.m (.m (.v 1) (.v 1)) (.m (.v 1) (.v 1))))) (.a (.a (.m (.m (.v 1) (.v 1)) (.m (.v 1) (.v 1))) (.m (.m (.v 1) (.v 1)) (.m (.v 1) (.v 1)))) (.a (.m (.m (.v 1) (.v 1)) (.m (.v 1) (.v 1))) (.m (.m (.v 1) (.v 1)) (.m (.v 1) (.v 1))))))) (.m (.m (.v 3) (.v 3)) (.v 3))))) (y:=(.m (.a (.m (.a (.m (.m (.a (.m (.m (.c 4) (.v 1)) (.v 1)) (.m (.m (.m (.c (-18)) (.v 0)) (.v 0)) (.v 0))) (.v 1)) (.v 3)) (.m (.a (.m (.m (.c 2) (.v 1)) (.v 1)) (.m (.m (.m (.c (-9)) (.v 0)) (.v 0)) (.v 0))) (.v 2))) (.v 3)) (.m (.m (.m (.c 1) (.v 1)) (.v 2)) (.v 2))) (.s (.m (.a (.v 1) (.v 1)) (.v 3)) (.v 2)))) (by decide +kernel) [x,y,i,j]) (hk)
theorem Xz{y z i j:K2 n}(hi:mul z i=ofZ 1)(hj:mul (tZ y z) j=ofZ 1):mul (add y y) j=i:=vk (aH (x:=(.s (.m (.a (.v 1) (.v 1)) (.v 4)) (.v 3))) (y:=(.a (.m (.n (.m (.a (.v 1) (.v 1)) (.v 4))) (.s (.m (.v 2) (.v 3)) (.c 1))) (.m (.v 3) (.s (.m (.a (.m (.v 1) (.v 2)) (.m (.v 1) (.v 2))) (.v 4)) (.c 1))))) (by decide +kernel) [y,y,z,i,j]) (hi) (hj)
theorem j8(hp:P3 n){b:K2 n}(h2:No2 b){x y z:K2 n}(ho:Onc b (jp x y z)):jp (tX x y) (tY x y) (tZ y z)=pa (jp x y z) (jp x y z):=by
 by_cases hz:z=zero
 ·rw[Ev hz,Ev (by rw[hz,tZ,aj,add_zero'])];rfl
 ·rw[pA hz]at ho ⊢
  have hy:=gH h2 (bK ho)
  have hy0:y≠zero:=fun e=>hy (by rw[jy,e,aG])
  have hZ:tZ y z≠zero:=gj hp (bQ hp hy0 hz)
  rw[pA hZ]
  have hi:=(aI hp hz).trans dL.symm
  have hj:=(aI hp hZ).trans dL.symm
  have hk:=Xz hi hj
  have hd:=gj hp hy
  rw[jx,jx,jy,jy]at *
  generalize inv (tZ y z)=j at *
  generalize inv z=i at *
  have hS:Slp (mul (te x) j) (mul x (mul i i)) (mul y (mul (mul i i) i)) (mul x (mul i i)) (mul y (mul (mul i i) i)):=⟨by rw[aZ,aj,add_zero'],Xy hk⟩
  rw[cG hp hS (.inr hd),XA hk,XB hk]
def pH(x z qx:K2 n):K2 n:=sub (mul qx (mul z z)) x
def pR(y z qy:K2 n):K2 n:=sub (mul qy (mul (mul z z) z)) y
def pV(x h:K2 n):K2 n:=mul x (mul h h)
def pX(x h r:K2 n):K2 n:=sub (sub (mul r r) (mul (mul h h) h)) (add (pV x h) (pV x h))
def pY(x y h r:K2 n):K2 n:=sub (mul r (sub (pV x h) (pX x h r))) (mul y (mul (mul h h) h))
theorem Xf{x y h r i j:K2 n}(hk:mul h j=i):mul (mul r j) (sub (mul (add x h) (mul i i)) (mul x (mul i i)))=sub (mul (add y r) (mul (mul i i) i)) (mul y (mul (mul i i) i)):=gB (aH (x:=(.s (.m (.m (.v 3) (.v 5)) (.s (.m (.a (.v 0) (.v 2)) (.m (.v 4) (.v 4))) (.m (.v 0) (.m (.v 4) (.v 4))))) (.s (.m (.a (.v 1) (.v 3)) (.m (.m (.v 4) (.v 4)) (.v 4))) (.m (.v 1) (.m (.m (.v 4) (.v 4)) (.v 4)))))) (y:=(.m (.m (.m (.m (.c 1) (.v 3)) (.v 4)) (.v 4)) (.s (.m (.v 2) (.v 5)) (.v 4)))) (by decide +kernel) [x,y,h,r,i,j]) (hk)
theorem Xg{x h r i j:K2 n}(hk:mul h j=i):cx (mul r j) (mul x (mul i i)) (mul (add x h) (mul i i))=mul (pX x h r) (mul j j):=gB (aH (x:=(.s (.s (.s (.m (.m (.v 3) (.v 5)) (.m (.v 3) (.v 5))) (.m (.v 0) (.m (.v 4) (.v 4)))) (.m (.a (.v 0) (.v 2)) (.m (.v 4) (.v 4)))) (.m (.s (.s (.m (.v 3) (.v 3)) (.m (.m (.v 2) (.v 2)) (.v 2))) (.a (.m (.v 0) (.m (.v 2) (.v 2))) (.m (.v 0) (.m (.v 2) (.v 2))))) (.m (.v 5) (.v 5))))) (y:=(.m (.a (.m (.m (.a (.m (.c 1) (.v 2)) (.m (.c 2) (.v 0))) (.v 2)) (.v 5)) (.m (.a (.m (.c 1) (.v 2)) (.m (.c 2) (.v 0))) (.v 4))) (.s (.m (.v 2) (.v 5)) (.v 4)))) (by decide +kernel) [x,x,h,r,i,j]) (hk)
theorem Xh{x y h r i j:K2 n}(hk:mul h j=i):cy (mul r j) (mul x (mul i i)) (mul y (mul (mul i i) i)) (mul (add x h) (mul i i))=mul (pY x y h r) (mul (mul j j) j):=gB (aH (x:=(.s (.s (.m (.m (.v 3) (.v 5)) (.s (.m (.v 0) (.m (.v 4) (.v 4))) (.s (.s (.m (.m (.v 3) (.v 5)) (.m (.v 3) (.v 5))) (.m (.v 0) (.m (.v 4) (.v 4)))) (.m (.a (.v 0) (.v 2)) (.m (.v 4) (.v 4)))))) (.m (.v 1) (.m (.m (.v 4) (.v 4)) (.v 4)))) (.m (.s (.m (.v 3) (.s (.m (.v 0) (.m (.v 2) (.v 2))) (.s (.s (.m (.v 3) (.v 3)) (.m (.m (.v 2) (.v 2)) (.v 2))) (.a (.m (.v 0) (.m (.v 2) (.v 2))) (.m (.v 0) (.m (.v 2) (.v 2))))))) (.m (.v 1) (.m (.m (.v 2) (.v 2)) (.v 2)))) (.m (.m (.v 5) (.v 5)) (.v 5))))) (y:=(.m (.a (.m (.a (.m (.a (.m (.m (.a (.m (.c (-1)) (.v 2)) (.m (.c (-3)) (.v 0))) (.v 2)) (.v 3)) (.m (.m (.m (.c 1) (.v 1)) (.v 2)) (.v 2))) (.v 5)) (.m (.a (.m (.a (.m (.c (-1)) (.v 2)) (.m (.c (-3)) (.v 0))) (.v 3)) (.m (.m (.c 1) (.v 1)) (.v 2))) (.v 4))) (.v 5)) (.m (.m (.m (.c 1) (.v 1)) (.v 4)) (.v 4))) (.s (.m (.v 2) (.v 5)) (.v 4)))) (by decide +kernel) [x,y,h,r,i,j]) (hk)
theorem II{q z x i:K2 n}(hi:mul z i=ofZ 1):q=mul (add x (pH x z q)) (mul i i):=gB (aH (x:=(.s (.v 0) (.m (.a (.v 2) (.s (.m (.v 0) (.m (.v 1) (.v 1))) (.v 2))) (.m (.v 3) (.v 3))))) (y:=(.m (.n (.m (.v 0) (.a (.m (.v 1) (.v 3)) (.c 1)))) (.s (.m (.v 1) (.v 3)) (.c 1)))) (by decide +kernel) [q,z,x,i]) (hi)
theorem OK{q z x i:K2 n}(hi:mul z i=ofZ 1):q=mul (add x (pR x z q)) (mul (mul i i) i):=gB (aH (x:=(.s (.v 0) (.m (.a (.v 2) (.s (.m (.v 0) (.m (.m (.v 1) (.v 1)) (.v 1))) (.v 2))) (.m (.m (.v 3) (.v 3)) (.v 3))))) (y:=(.m (.n (.m (.v 0) (.a (.a (.m (.m (.v 1) (.v 3)) (.m (.v 1) (.v 3))) (.m (.v 1) (.v 3))) (.c 1)))) (.s (.m (.v 1) (.v 3)) (.c 1)))) (by decide +kernel) [q,z,x,i]) (hi)
theorem Xe{z i h j:K2 n}(hi:mul z i=ofZ 1)(hj:mul (mul z h) j=ofZ 1):mul h j=i:=vk (aH (x:=(.s (.m (.v 4) (.v 5)) (.v 3))) (y:=(.a (.m (.n (.m (.v 4) (.v 5))) (.s (.m (.v 1) (.v 3)) (.c 1))) (.m (.v 3) (.s (.m (.m (.v 1) (.v 4)) (.v 5)) (.c 1))))) (by decide +kernel) [z,z,z,i,h,j]) (hi) (hj)
theorem OJ{q z x i:K2 n}(hi:mul z i=ofZ 1)(e:mul x (mul i i)=q):pH x z q=zero:=by
 rw[← tC]
 exact vk (aH (x:=(.s (.s (.m (.v 0) (.m (.v 1) (.v 1))) (.v 2)) (.c 0))) (y:=(.a (.m (.n (.m (.v 1) (.v 1))) (.s (.m (.v 2) (.m (.v 3) (.v 3))) (.v 0))) (.m (.m (.v 2) (.a (.m (.v 1) (.v 3)) (.c 1))) (.s (.m (.v 1) (.v 3)) (.c 1))))) (by decide +kernel) [q,z,x,i]) (e) (hi)
theorem Vh{q z x i:K2 n}(hi:mul z i=ofZ 1)(e:mul x (mul (mul i i) i)=q):pR x z q=zero:=by
 rw[← tC]
 exact vk (aH (x:=(.s (.s (.m (.v 0) (.m (.m (.v 1) (.v 1)) (.v 1))) (.v 2)) (.c 0))) (y:=(.a (.m (.n (.m (.m (.v 1) (.v 1)) (.v 1))) (.s (.m (.v 2) (.m (.m (.v 3) (.v 3)) (.v 3))) (.v 0))) (.m (.m (.v 2) (.a (.a (.m (.m (.v 1) (.v 3)) (.m (.v 1) (.v 3))) (.m (.v 1) (.v 3))) (.c 1))) (.s (.m (.v 1) (.v 3)) (.c 1))))) (by decide +kernel) [q,z,x,i]) (e) (hi)
theorem vg(hp:P3 n){x y z qx qy:K2 n}(hz:z≠zero)(hh:pH x z qx≠zero):
  jp (pX x (pH x z qx) (pR y z qy)) (pY x y (pH x z qx) (pR y z qy)) (mul z (pH x z qx))=pa (jp x y z) (some (qx,qy)):=by
 have hZ:=bQ hp hz hh
 rw[pA hZ,pA hz]
 have hi:=(aI hp hz).trans dL.symm
 have hj:=(aI hp hZ).trans dL.symm
 have hk:=Xe hi hj
 have e1:=II (q:=qx) (x:=x) hi
 have e2:=OK (q:=qy) (x:=y) hi
 have hne:mul x (mul (inv z) (inv z))≠qx:=fun e=>hh (OJ hi e)
 rw[jx,jx,jy,jy]
 generalize inv (mul z (pH x z qx))=j at *
 generalize inv z=i at *
 generalize pH x z qx=h at *
 generalize pR y z qy=r at *
 subst e1
 subst e2
 have hc:d8 (mul x (mul i i)) (mul y (mul (mul i i) i)) (mul (add x h) (mul i i)) (mul (add y r) (mul (mul i i) i))=mul r j:=
  dw hp (fun e=>hne (aE e).symm) (Xf hk)
 show _=(if mul x (mul i i)=mul (add x h) (mul i i)then _ else _)
 rw[if_neg hne,hc,Xg hk,Xh hk]
theorem Vf{x1 y1 x2 y2:K2 n}(hx:x1=x2)(hy:y1≠y2):pa (some (x1,y1)) (some (x2,y2))=none:=by
 show(if x1=x2 then if y1=y2∧y1≠zero then _ else _ else _)=_
 rw[if_pos hx,if_neg fun h=>hy h.1]
theorem ol{x y z qx qy:K2 n}(hp:P3 n)(hz:z≠zero)(hh:pH x z qx=zero)(hr:pR y z qy≠zero):pa (jp x y z) (some (qx,qy))=none:=by
 rw[pA hz]
 have hi:=(aI hp hz).trans dL.symm
 have hne:mul y (mul (mul (inv z) (inv z)) (inv z))≠qy:=fun e=>hr (Vh hi e)
 have e1:=II (q:=qx) (x:=x) hi
 rw[hh,add_zero']at e1
 exact Vf e1.symm hne
theorem ti{x y z qx qy:K2 n}(hp:P3 n)(hz:z≠zero)(hh:pH x z qx=zero)(hr:pR y z qy=zero):(some (qx,qy):Pt n)=jp x y z:=by
 have hi:=(aI hp hz).trans dL.symm
 have e1:=II (q:=qx) (x:=x) hi
 have e2:=OK (q:=qy) (x:=y) hi
 rw[hh,add_zero']at e1
 rw[hr,add_zero']at e2
 rw[pA hz]
 exact bD e1 e2
def tim(q:Pt n):Nat→Pt n
 | 0=>none
 | k+1=>pa (tim q k) q
theorem cY(hp:P3 n){b:K2 n}{q:Pt n}(hq:Onc b q)(k:Nat):Onc b (tim q k):=by
 induction k with
 | zero=>trivial
 | succ k ih=>exact dk hp ih hq
theorem Ti(hp:P3 n){b:K2 n}{q:Pt n}(hq:Onc b q)(k:Nat):tim (pn q) k=pn (tim q k):=by
 induction k with
 | zero=>rfl
 | succ k ih=>
  show pa (tim (pn q) k) (pn q)=pn (pa (tim q k) q)
  rw[ih,CB hp (cY hp hq k) hq]
variable (hp:P3 n) {b:K2 n} (h2:No2 b)
include hp h2
theorem fk{q:Pt n}(hq:Onc b q)(j k:Nat):tim q (j+k)=pa (tim q j) (tim q k):=by
 induction k with
 | zero=>exact(bJ _).symm
 | succ k ih=>
  show pa (tim q (j+k)) q=pa (tim q j) (pa (tim q k) q)
  rw[ih,f8 hp h2 (cY hp hq j) (cY hp hq k) hq]
theorem iE{q:Pt n}(hq:Onc b q)(j k:Nat):tim q (j*k)=tim (tim q j) k:=by
 induction k with
 | zero=>rfl
 | succ k ih=>
  rw[Nat.mul_succ,fk hp h2 hq,ih];rfl
omit hp h2 in
theorem dU(k:Nat):tim (none:Pt n) k=none:=by
 induction k with
 | zero=>rfl
 | succ k ih=>show pa (tim none k) none=none;rw[ih];rfl
theorem wr{q r:Pt n}(hq:Onc b q)(hr:Onc b r)(k:Nat):tim (pa q r) k=pa (tim q k) (tim r k):=by
 induction k with
 | zero=>rfl
 | succ k ih=>
  have a1:=cY hp hq k
  have a2:=cY hp hr k
  show pa (tim (pa q r) k) (pa q r)=pa (pa (tim q k) q) (pa (tim r k) r)
  rw[ih,f8 hp h2 a1 a2 (dk hp hq hr),← f8 hp h2 a2 hq hr,dJ hp a2 hq,f8 hp h2 hq a2 hr,← f8 hp h2 a1 hq (dk hp a2 hr)]
end K2
end Go.Proofs.YtndhfbecpghinaaGreat.L.Kf
namespace Go.Proofs.YtndhfbecpghinaaGreat.L
open Go Go.Proofs
set_option maxRecDepth 100000
class CR (R:Type) where
 zero:R
 one:R
 add:R→R→R
 mul:R→R→R
 neg:R→R
 sub:R→R→R
 add_comm':∀a b,add a b=add b a
 add_assoc':∀a b c,add (add a b) c=add a (add b c)
 add_zero':∀a,add a zero=a
 add_neg':∀a,add a (neg a)=zero
 mul_comm':∀a b,mul a b=mul b a
 mul_assoc':∀a b c,mul (mul a b) c=mul a (mul b c)
 mul_one':∀a,mul a one=a
 mul_add':∀a b c,mul a (add b c)=add (mul a b) (mul a c)
 sub_eq:∀a b,sub a b=add a (neg b)
namespace CR
variable {R:Type} [CR R]
instance:Std.Associative (α:=R) mul:=⟨mul_assoc'⟩
instance:Std.Commutative (α:=R) mul:=⟨mul_comm'⟩
instance:Std.Associative (α:=R) add:=⟨add_assoc'⟩
instance:Std.Commutative (α:=R) add:=⟨add_comm'⟩
theorem aM(a:R):add zero a=a:=by rw[add_comm',add_zero']
theorem aR(a:R):mul one a=a:=by rw[mul_comm',mul_one']
theorem qi{a b c:R}(h:add a c=add b c):a=b:=by
 have h2:add (add a c) (neg c)=add (add b c) (neg c):=by rw[h]
 rwa [add_assoc',add_assoc',add_neg',add_zero',add_zero']at h2
theorem aj(a:R):mul a zero=zero:=by
 apply qi (c:=mul a zero)
 rw[← mul_add',add_zero',aM]
theorem aG(a:R):mul zero a=zero:=by rw[mul_comm',aj]
theorem cS(a b c:R):mul (add a b) c=add (mul a c) (mul b c):=by rw[mul_comm',mul_add',mul_comm' c a,mul_comm' c b]
theorem aP{a b:R}(h:add a b=zero):a=neg b:=by
 apply qi (c:=b)
 rw[h,add_comm',add_neg']
theorem bv(a:R):neg (neg a)=a:=(aP (add_neg' a)).symm
theorem bj:neg (zero:R)=zero:=(aP (add_zero' zero)).symm
theorem dB(a b:R):neg (add a b)=add (neg a) (neg b):=by
 symm
 apply aP
 have:add (add (neg a) (neg b)) (add a b)=add (add a (neg a)) (add b (neg b)):=by ac_rfl
 rw[this,add_neg',add_neg',add_zero']
theorem dd(a b:R):mul (neg a) b=neg (mul a b):=by
 apply aP
 rw[← cS,add_comm',add_neg',aG]
theorem eZ(a b:R):mul a (neg b)=neg (mul a b):=by rw[mul_comm',dd,mul_comm']
theorem aZ(a:R):sub a a=zero:=by rw[sub_eq,add_neg']
theorem aE{a b:R}(h:sub a b=zero):a=b:=by
 rw[sub_eq]at h
 rw[aP h,bv]
def ofN:Nat→R
 | 0=>zero
 | k+1=>add (ofN k) one
def ofZ:Int→R
 | .ofNat k=>ofN k
 | .negSucc k=>neg (ofN (k+1))
theorem lu(k:Nat):(ofN (k+1):R)=add (ofN k) one:=rfl
theorem dX(a b:Nat):(ofN (a+b):R)=add (ofN a) (ofN b):=by
 induction b with
 | zero=>exact(add_zero' _).symm
 | succ b ih=>rw[← Nat.add_assoc,lu,lu,ih,add_assoc']
theorem fT(a b:Nat):(ofN (a*b):R)=mul (ofN a) (ofN b):=by
 induction b with
 | zero=>exact(aj _).symm
 | succ b ih=>rw[Nat.mul_succ,dX,ih,lu,mul_add',mul_one']
theorem m7(a b:Nat):(ofZ (Int.subNatNat a b):R)=add (ofN a) (neg (ofN b)):=by
 rcases Nat.le_total b a with h | h
 ·obtain⟨k,rfl⟩:∃k,a=b+k:=⟨a-b,by omega⟩
  have e:Int.subNatNat (b+k) b=Int.ofNat k:=by rw[Int.subNatNat_eq_coe];show(_:Int)=(k:Int);omega
  rw[e,dX]
  show ofN k=_
  rw[add_comm' (ofN b),add_assoc',add_neg',add_zero']
 ·rcases Nat.eq_or_lt_of_le h with h | h
  ·subst h
   have e:Int.subNatNat a a=Int.ofNat 0:=by rw[Int.subNatNat_eq_coe];show(_:Int)=(0:Int);omega
   rw[e,add_neg'];rfl
  ·obtain⟨k,rfl⟩:∃k,b=a+(k+1):=⟨b-a-1,by omega⟩
   have e:Int.subNatNat a (a+(k+1))=Int.negSucc k:=by rw[Int.subNatNat_eq_coe,Int.negSucc_eq];omega
   rw[e,dX,dB,← add_assoc',add_neg',aM]
   rfl
theorem vD(a b:Int):(ofZ (a+b):R)=add (ofZ a) (ofZ b):=by
 cases a with
 | ofNat a=>cases b with
  | ofNat b=>exact dX a b
  | negSucc b=>exact m7 a (b+1)
 | negSucc a=>cases b with
  | ofNat b=>exact(m7 b (a+1)).trans (add_comm' _ _)
  | negSucc b=>
   show neg (ofN (a+b+1+1))=add (neg (ofN (a+1))) (neg (ofN (b+1)))
   rw[← dB,← dX,show a+b+1+1=a+1+(b+1) by omega]
theorem vF(a:Int):(ofZ (-a):R)=neg (ofZ a):=by
 cases a with
 | ofNat a=>cases a with
  | zero=>exact bj.symm
  | succ a=>rfl
 | negSucc a=>exact(bv _).symm
theorem rp(a:Nat):(ofZ (Int.negOfNat a):R)=neg (ofN a):=by
 cases a with
 | zero=>exact bj.symm
 | succ a=>rfl
theorem vE(a b:Int):(ofZ (a*b):R)=mul (ofZ a) (ofZ b):=by
 cases a with
 | ofNat a=>cases b with
  | ofNat b=>exact fT a b
  | negSucc b=>
   show ofZ (Int.negOfNat (a*(b+1)))=mul (ofN a) (neg (ofN (b+1)))
   rw[rp,fT,eZ]
 | negSucc a=>cases b with
  | ofNat b=>
   show ofZ (Int.negOfNat ((a+1)*b))=mul (neg (ofN (a+1))) (ofN b)
   rw[rp,fT,dd]
  | negSucc b=>
   show ofN ((a+1)*(b+1))=mul (neg (ofN (a+1))) (neg (ofN (b+1)))
   rw[fT,dd,eZ,bv]
inductive Ex where
 | v (i:Nat)
 | c (k:Int)
 | a (x y:Ex)
 | s (x y:Ex)
 | m (x y:Ex)
 | n (x:Ex)
def Ex.ev(vs:List (R)):Ex→R
 | .v i=>vs.getD i zero
 | .c k=>ofZ k
 | .a x y=>add (x.ev vs) (y.ev vs)
 | .s x y=>sub (x.ev vs) (y.ev vs)
 | .m x y=>mul (x.ev vs) (y.ev vs)
 | .n x=>neg (x.ev vs)
abbrev Mo:=List Nat
abbrev Po:=List (Mo×Int)
def pw(a:R):Nat→R
 | 0=>one
 | k+1=>mul (pw a k) a
theorem dO(a:R)(j k:Nat):pw a (j+k)=mul (pw a j) (pw a k):=by
 induction k with
 | zero=>exact(mul_one' _).symm
 | succ k ih=>
  show mul (pw a (j+k)) a=mul (pw a j) (mul (pw a k) a)
  rw[ih,mul_assoc']
def mev(vs:List (R))(i:Nat):Mo→R
 | []=>one
 | e::es=>mul (pw (vs.getD i zero) e) (mev vs (i+1) es)
def pev(vs:List (R)):Po→R
 | []=>zero
 | t::p=>add (mul (ofZ t.2) (mev vs 0 t.1)) (pev vs p)
def rg:Mo→Mo→Mo
 | [],q=>q
 | a::p,[]=>a::p
 | a::p,b::q=>(a+b)::rg p q
theorem mV(vs:List (R)):∀(p q:Mo)(i:Nat),mev vs i (rg p q)=mul (mev vs i p) (mev vs i q)
 | [],q,i=>(aR _).symm
 | a::p,[],i=>(mul_one' _).symm
 | a::p,b::q,i=>by
  show mul (pw _ (a+b)) (mev vs (i+1) (rg p q))=mul (mul _ _) (mul _ _)
  rw[dO,mV vs p q (i+1)]
  ac_rfl
def q9:Mo→Mo→Nat
 | [],[]=>1
 | [],_::_=>0
 | _::_,[]=>2
 | a::p,b::q=>if Nat.beq a b then q9 p q else if Nat.ble a b then 0 else 2
theorem mP:∀{p q:Mo},q9 p q=1→p=q
 | [],[],_=>rfl
 | [],_::_,h=>absurd h (by show ¬(0:Nat)=1;decide)
 | _::_,[],h=>absurd h (by show ¬(2:Nat)=1;decide)
 | a::p,b::q,h=>by
  unfold q9 at h
  by_cases hab:Nat.beq a b=true
  ·rw[if_pos hab]at h
   rw[Nat.eq_of_beq_eq_true hab,mP h]
  ·rw[if_neg hab]at h
   split at h <;> exact absurd h (by decide)
def cons(t:Mo×Int)(p:Po):Po:=if t.2=0 then p else t::p
theorem mB(vs:List (R))(t:Mo×Int)(p:Po):pev vs (cons t p)=add (mul (ofZ t.2) (mev vs 0 t.1)) (pev vs p):=by
 unfold cons
 split
 ·rename_i h
  rw[h,show(ofZ 0:R)=zero from rfl,aG,aM]
 ·rfl
def Gc(t:Mo×Int)(p:Po)(ih:Po→Po):Po→Po
 | []=>t::p
 | s::q=>match q9 t.1 s.1 with
  | 0=>t::ih (s::q)
  | 1=>cons (t.1,t.2+s.2) (ih q)
  | _=>s::Gc t p ih q
def dl:Po→Po→Po
 | [],q=>q
 | t::p,q=>Gc t p (fun r=>dl p r) q
theorem qj(q:Po):dl [] q=q:=rfl
theorem uE(t:Mo×Int)(p:Po):dl (t::p) []=t::p:=rfl
theorem uF(t s:Mo×Int)(p q:Po):dl (t::p) (s::q)=match q9 t.1 s.1 with
  | 0=>t::dl p (s::q)
  | 1=>cons (t.1,t.2+s.2) (dl p q)
  | _=>s::dl (t::p) q:=rfl
theorem gv(vs:List (R)):∀(p q:Po),pev vs (dl p q)=add (pev vs p) (pev vs q):=by
 intro p
 induction p with
 | nil=>intro q;rw[qj];exact(aM _).symm
 | cons t p ih=>
  intro q
  induction q with
  | nil=>rw[uE];exact(add_zero' _).symm
  | cons s q ihq=>
   rw[uF]
   split
   ·show add _ (pev vs (dl p (s::q)))=add (add _ _) (pev vs (s::q))
    rw[ih];ac_rfl
   ·rename_i h
    rw[mB,ih,vD,cS]
    show _=add (add _ _) (add (mul (ofZ s.2) (mev vs 0 s.1)) _)
    rw[← mP h]
    ac_rfl
   ·show add _ (pev vs (dl (t::p) q))=add (pev vs (t::p)) (add _ _)
    rw[ihq];ac_rfl
def ro(t:Mo×Int):Po→Po
 | []=>[]
 | s::q=>(rg t.1 s.1,t.2*s.2)::ro t q
theorem mY(vs:List (R))(t:Mo×Int):∀q:Po,pev vs (ro t q)=mul (mul (ofZ t.2) (mev vs 0 t.1)) (pev vs q)
 | []=>(aj _).symm
 | s::q=>by
  show add (mul (ofZ (t.2*s.2)) (mev vs 0 (rg t.1 s.1))) (pev vs (ro t q))=mul _ (add (mul (ofZ s.2) (mev vs 0 s.1)) (pev vs q))
  rw[mY vs t q,mV,vE,mul_add']
  congr 1
  ac_rfl
def rn:Po→Po→Po
 | [],_=>[]
 | t::p,q=>dl (ro t q) (rn p q)
theorem mX(vs:List (R)):∀p q:Po,pev vs (rn p q)=mul (pev vs p) (pev vs q)
 | [],q=>(aG _).symm
 | t::p,q=>by
  show pev vs (dl (ro t q) (rn p q))=mul (add _ _) _
  rw[gv,mY,mX vs p q,cS]
def iM:Po→Po
 | []=>[]
 | t::p=>(t.1,-t.2)::iM p
theorem gC(vs:List (R)):∀p:Po,pev vs (iM p)=neg (pev vs p)
 | []=>bj.symm
 | t::p=>by
  show add (mul (ofZ (-t.2)) (mev vs 0 t.1)) (pev vs (iM p))=neg (add _ _)
  rw[gC vs p,vF,dd,dB]
def sa:Nat→Mo
 | 0=>[1]
 | i+1=>0::sa i
theorem nL(vs:List (R)):∀i j:Nat,mev vs j (sa i)=vs.getD (j+i) zero
 | 0,j=>by
  show mul (mul one (vs.getD j zero)) one=_
  rw[mul_one',aR];rfl
 | i+1,j=>by
  show mul one (mev vs (j+1) (sa i))=_
  rw[aR,nL vs i (j+1),show j+1+i=j+(i+1) by omega]
def nf:Ex→Po
 | .v i=>[(sa i,1)]
 | .c k=>cons ([],k) []
 | .a x y=>dl (nf x) (nf y)
 | .s x y=>dl (nf x) (iM (nf y))
 | .m x y=>rn (nf x) (nf y)
 | .n x=>iM (nf x)
theorem fb(vs:List (R)):∀x:Ex,pev vs (nf x)=x.ev vs
 | .v i=>by
  show add (mul (ofZ 1) (mev vs 0 (sa i))) zero=vs.getD i zero
  rw[nL,Nat.zero_add,show(ofZ 1:R)=add zero one from rfl,aM,aR,add_zero']
 | .c k=>by
  show pev vs (cons ([],k) [])=ofZ k
  rw[mB]
  show add (mul (ofZ k) one) zero=ofZ k
  rw[mul_one',add_zero']
 | .a x y=>by
  show pev vs (dl (nf x) (nf y))=add _ _
  rw[gv,fb vs x,fb vs y]
 | .s x y=>by
  show pev vs (dl (nf x) (iM (nf y)))=sub _ _
  rw[gv,gC,fb vs x,fb vs y,sub_eq]
 | .m x y=>by
  show pev vs (rn (nf x) (nf y))=mul _ _
  rw[mX,fb vs x,fb vs y]
 | .n x=>by
  show pev vs (iM (nf x))=neg _
  rw[gC,fb vs x]
def chk(x y:Ex):Bool:=(dl (nf x) (iM (nf y))).isEmpty
theorem aH{x y:Ex}(h:chk x y=true)(vs:List (R)):x.ev vs=y.ev vs:=by
 have e:dl (nf x) (iM (nf y))=[]:=List.isEmpty_iff.1 h
 have e2:=gv vs (nf x) (iM (nf y))
 rw[e,gC,fb,fb,← sub_eq]at e2
 exact aE e2.symm
def okL(vs:List R):List (Ex×Ex×Ex)→Prop
 | []=>True
 | t::l=>t.2.1.ev vs=t.2.2.ev vs∧okL vs l
def NB:List (Ex×Ex×Ex)→Ex
 | []=>.c 0
 | t::l=>.a (.m t.1 (.s t.2.1 t.2.2)) (NB l)
theorem JL(vs:List R):∀l,okL vs l→(NB l).ev vs=(zero:R)
 | [],_=>rfl
 | t::l,h=>by
  show add (mul (t.1.ev vs) (sub (t.2.1.ev vs) (t.2.2.ev vs))) ((NB l).ev vs)=zero
  rw[h.1,aZ,aj,JL vs l h.2,add_zero']
theorem lin{x y:Ex}(l:List (Ex×Ex×Ex))(h:chk (.s x y) (NB l)=true)(vs:List R)(H:okL vs l):x.ev vs=y.ev vs:=
 aE ((aH h vs).trans (JL vs l H))
theorem dL:(ofZ 1:R)=one:=by show add zero one=one;rw[aM]
end CR
end Go.Proofs.YtndhfbecpghinaaGreat.L
