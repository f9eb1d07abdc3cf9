/- What the proof of the statement about H2cTells stands on, part C. Conditions: as each statement says. -/
import Derived.Test.YtbpmbdlgmmabcaaGreatH2cTellsB
import Derived.Laws.StructEq
import Derived.Tactics
namespace Go.Proofs.YtbpmbdlgmmabcaaGreat.L.R
open Go Go.Proofs.YtbpmbdlgmmabcaaGreat.L
inductive Kd where
 | free
 | pin
 | eff
 | alc
def Kd.isEff : Kd → Bool
 | .eff => true
 | .alc => true
 | _ => false
def memClash : Kd → Kd → Bool
 | .eff, .pin => true
 | .pin, .eff => true
 | _, _ => false
def pinW (kd : Kd) (W : List Res) : List Res := match kd with
 | .free => []
 | _ => W
theorem drop_all {c : Cx} {W : List Res} {w : World} : ∀ {A : List Res}, SatW c (A ++ W) w → SatW c W w
 | [], h => h
 | r :: A, h => drop_all (A := A) (SatW.drop (r := r) h)
theorem frame_all {c : Cx} {A W W' : List Res} {w w' : World} (h : SatW c (A ++ W) w) (h1 : SatW ⟨w, fps W⟩ W' w') : SatW c (A ++ W') w' := by
 have hnd0 := h.nd
 have hown := h.own
 simp only [fps, List.flatMap_append] at hnd0
 obtain ⟨n1, n2, n3⟩ := List.nodup_append.1 hnd0
 simp only [fps, List.flatMap_append, List.mem_append] at hown
 have hlt := h.lt
 simp only [fps, List.flatMap_append, List.mem_append] at hlt
 refine ⟨h.ext.trans h1.ext (fun x hx => hown x (.inr hx)), ?_, ?_, ?_⟩
 ·intro r hr
  rcases List.mem_append.1 hr with hr | hr
  ·refine Res.holds_congr (h.holds r (List.mem_append.2 (.inl hr))) fun b hb => ?_
   refine h1.ext.block b (Res.fp_lt (h.holds r (List.mem_append.2 (.inl hr))) b hb) fun hin => ?_
   exact n3 b (List.mem_flatMap.2 ⟨r, hr, hb⟩) b hin rfl
  ·exact h1.holds r hr
 ·intro b hb
  simp only [fps, List.flatMap_append, List.mem_append] at hb
  rcases hb with hb | hb
  ·exact hown b (.inl hb)
  ·rcases h1.own b hb with h2 | h2
   ·exact .inl (Nat.le_trans h.ext.size h2)
   ·exact hown b (.inr h2)
 ·simp only [fps, List.flatMap_append]
  refine List.nodup_append.2 ⟨n1, h1.nd, fun x hx y hy hxy => ?_⟩
  subst hxy
  rcases h1.own x hy with h2 | h2
  ·have := hlt x (.inl hx); simp only at h2; omega
  ·exact n3 x hx x h2 rfl
abbrev En := List (Nat × Kd)
def bitA (anc : List Nat) (j i : Nat) : Bool := Nat.testBit (anc.getD j 0) i
def ordOK (os : List Oper) (anc : List Nat) (x y : Nat × Kd) : Bool :=
  (match os[x.1]?, os[y.1]? with
   | some o, some p => !clash os.toArray o p || bitA anc y.1 x.1
   | _, _ => false) && (!memClash x.2 y.2 || bitA anc y.1 x.1) && !Nat.beq x.1 y.1
def allPairs {α : Type} (R : α → α → Bool) : List α → Bool
 | [] => true
 | x :: r => r.all (R x) && allPairs R r
theorem allPairs_spec {α : Type} {R : α → α → Bool} : ∀ {l : List α}, allPairs R l = true → ∀ {i j : Nat} {x y : α}, i < j → l[i]? = some x → l[j]? = some y → R x y = true
 | [], _, i, j, x, y, _, hx, _ => by simp at hx
 | z :: r, h, i, j, x, y, hij, hx, hy => by
  simp only [allPairs, Bool.and_eq_true] at h
  cases j with
  | zero => omega
  | succ j =>
   have hy' : r[j]? = some y := by simpa using hy
   cases i with
   | zero =>
    simp at hx; subst hx
    exact List.all_eq_true.1 h.1 y (List.mem_of_getElem? hy')
   | succ i => exact allPairs_spec h.2 (i := i) (j := j) (by omega) (by simpa using hx) hy'
def chkP (os : List Oper) (E : En) : Bool := ancOK os 0 (mkAnc os []) && allPairs (ordOK os (mkAnc os [])) E
def descP (os : List Oper) (is rest : List Nat) (E : En) : Bool :=
 rest.all (fun j => is.any (fun i => bitA (mkAnc os []) j i)) && (List.range os.length).all (fun j => is.any (Nat.beq j) || rest.any (Nat.beq j) || E.any (fun e => Nat.beq e.1 j))
def fullP (os : List Oper) (E : En) : Bool := (List.range os.length).all (fun j => E.any (fun e => Nat.beq e.1 j))
def newP (i : Nat) (E : En) : Bool := !E.any (fun e => Nat.beq e.1 i)
section
variable (P : Program) (c : Cx) (n : Nat)
def OpN (W : List Res) (Φ : Option (Nat × Value) → List Res → Prop) (lr : Sl) (o : Oper) : Prop :=
 ∀ w0 m, SatW c W w0 → Go ⟨w0, fps W⟩ n (lr ++ m) W (wpList P #[] (fun e a w => e = .normal ∧ ∃ u W', Φ u W' ∧ SatA n (u.toList ++ (lr ++ m)) a ∧ SatW ⟨w0, fps W⟩ W' w) [o])
end
inductive QF (P : Program) (c : Cx) (n : Nat) (os : List Oper) (K : Act → World → Prop) : En → List Res → Sl → List Nat → Prop
 | fin {E : En} {W : List Res} {l : Sl} (hc : chkP os E = true) (hf : fullP os E = true) (hk : Go c n l W K) : QF P c n os K E W l []
 | val {E : En} {W : List Res} {l : Sl} {i d : Nat} {o : Oper} {v : Value} {rest : List Nat} (kd : Kd) (hk : kd.isEff = false) (hi : newP i E = true) (ho : os[i]? = some o) (hd : o.dst = some d) (hn : Nat.blt d n = true)
   (hg : gSays os.toArray l o = some true) (h : OpV P c n (pinW kd W) (pinW kd W) (restr os.toArray o l) (noG o) (some (d, v)))
   (hr : QF P c n os K (E ++ [(i, kd)]) W ((d, v) :: l) rest) : QF P c n os K E W l (i :: rest)
 | no {E : En} {W : List Res} {l : Sl} {i d : Nat} {o : Oper} {rest : List Nat} (hi : newP i E = true) (ho : os[i]? = some o) (hd : o.dst = some d) (hn : Nat.blt d n = true)
   (hg : gSays os.toArray l o = some false) (hr : QF P c n os K (E ++ [(i, .free)]) W ((d, undef) :: l) rest) : QF P c n os K E W l (i :: rest)
 | nd {E : En} {W : List Res} {l : Sl} {is rest : List Nat} {o : Nat → Oper} {Φ : Nat → Option (Nat × Value) → List Res → Prop} {kd : Nat → Kd} {nx : Nat → List Nat} (hne : is ≠ []) (hi : ∀ i ∈ is, newP i E = true) (ho : ∀ i ∈ is, os[i]? = some (o i))
   (hc : ∀ i ∈ is, chkP os (E ++ [(i, kd i)]) = true) (hdesc : descP os is rest E = true) (hΦ : ∀ i ∈ is, ∀ u W', Φ i u W' → (o i).dst = u.map (·.1) ∧ (∀ d, (o i).dst = some d → Nat.blt d n = true) ∧ (kd i = .eff ∨ (kd i = .alc ∧ ∃ B, W' = B ++ W)))
   (hg : ∀ i ∈ is, gSays os.toArray l (o i) = some true) (h : ∀ i ∈ is, OpN P c n W (Φ i) (restr os.toArray (o i) l) (noG (o i)))
   (hr : ∀ i ∈ is, ∀ u W', Φ i u W' → QF P c n os K (E ++ [(i, kd i)]) W' (u.toList ++ l) (nx i)) : QF P c n os K E W l (is ++ rest)
theorem cur_append : ∀ (us vs : Pu) (D : Nat → Bool) (i : Nat) (l : Sl), cur (us ++ vs) D i l = cur vs D (i + us.length) (cur us D i l)
 | [], vs, D, i, l => by simp [cur]
 | u :: r, vs, D, i, l => by
  simp only [List.cons_append, cur, List.length_cons]
  rw [cur_append r vs D (i + 1)]
  congr 1; omega
theorem cur_congr : ∀ (us : Pu) (D D' : Nat → Bool) (i : Nat) (l : Sl), (∀ j, j < us.length → D (i + j) = D' (i + j)) → cur us D i l = cur us D' i l
 | [], D, D', i, l, _ => rfl
 | u :: r, D, D', i, l, h => by
  simp only [cur]
  have h0 := h 0 (by simp)
  simp only [Nat.add_zero] at h0
  rw [h0, cur_congr r D D' (i + 1) _ (fun j hj => by have := h (j + 1) (by simpa using hj); rw [show i + 1 + j = i + (j + 1) by omega]; exact this)]
def dn (L : Array Bool) (E : En) (k : Nat) : Bool := match E[k]? with
 | some e => L.getD e.1 false
 | none => false
section
variable {P : Program} {c : Cx} {n : Nat} {os : List Oper} {Q : Exit → Act → World → Prop}
structure InvP (P : Program) (c : Cx) (n : Nat) (os : List Oper) (l0 : Sl) (E : En) (us : Pu) (W : List Res) (l : Sl) (L : Array Bool) (a : Act) (w : World) : Prop where
 size : L.size = os.length
 clo : ∀ i j, L.getD i false = true → Nat.testBit ((mkAnc os []).getD i 0) j = true → L.getD j false = true
 sub : ∀ i, L.getD i false = true → ∃ (k : Nat) (e : Nat × Kd), E[k]? = some e ∧ e.1 = i
 len : us.length = E.length
 fr : SatA n (cur us (dn L E) 0 l0) a
 wd : SatW c W w
 txt : l = cur us (fun _ => true) 0 l0
 ents : ∀ (k : Nat) (e : Nat × Kd) (u : Option (Nat × Value)), E[k]? = some e → us[k]? = some u → ∃ o, os[e.1]? = some o ∧ o.dst = u.map (·.1) ∧ (∀ d, o.dst = some d → Nat.blt d n = true) ∧
  (L.getD e.1 false = true ∨ (gSays os.toArray (cur (us.take k) (fun _ => true) 0 l0) o = some true ∧ e.2.isEff = false ∧ ∃ A Wk, W = A ++ Wk ∧ (e.2 = .free → Wk = []) ∧ OpV P c n Wk Wk (restr os.toArray o (cur (us.take k) (fun _ => true) 0 l0)) (noG o) u) ∨
   (gSays os.toArray (cur (us.take k) (fun _ => true) 0 l0) o = some false ∧ ∃ d, u = some (d, undef)))
theorem ready_spec {L : Array Bool} {i : Nat} (hL : L.size = os.length) (hi : i ∈ Region.ready .any os.toArray L) : ∃ o, os[i]? = some o ∧ L.getD i false = false ∧ i < os.length ∧ ∀ d ∈ depsOf o, L.getD d false = true := by
 simp only [Region.ready, List.size_toArray, List.mem_filter, List.mem_range, Bool.and_eq_true, Bool.not_eq_true'] at hi
 obtain ⟨hlt, hnl, hdeps⟩ := hi
 obtain ⟨o, ho⟩ : ∃ o, os[i]? = some o := ⟨os[i], by simp [hlt]⟩
 refine ⟨o, ho, ?_, hlt, fun d hd => ?_⟩
 ·rw [Array.getD_eq_getD_getElem?] at hnl ⊢
  rw [Array.getElem?_eq_getElem (by omega)] at hnl ⊢
  simpa using hnl
 ·have ho' : os.toArray[i]? = some o := by simpa using ho
  rw [ho'] at hdeps
  simp only [Option.map_some, Option.getD_some] at hdeps
  obtain ⟨e, he, rfl⟩ := List.mem_map.1 hd
  rw [List.mem_filter] at he
  have hx := Array.all_eq_true'.1 hdeps e (by simpa using he.1)
  simpa [he.2] using hx
theorem ready_nil {L : Array Bool} (hanc : ancOK os 0 (mkAnc os []) = true) (hL : L.size = os.length) (hr : Region.ready .any os.toArray L = []) : ∀ i, i < os.length → L.getD i false = true := by
 intro i
 induction i using Nat.strongRecOn with
 | _ i ih =>
  intro hi
  by_cases hd : L.getD i false = true
  ·exact hd
  ·exfalso
   have hd' : L.getD i true = false := by
    rw [Array.getD_eq_getD_getElem?, Array.getElem?_eq_getElem (by omega)] at hd ⊢
    simpa using hd
   have hm : i ∈ Region.ready .any os.toArray L := by
    simp only [Region.ready, List.size_toArray, List.mem_filter, List.mem_range, Bool.and_eq_true, Bool.not_eq_true']
    refine ⟨hi, hd', ?_⟩
    have ho : os[i]? = some os[i] := by simp [hi]
    have ho' : os.toArray[i]? = some os[i] := by simp [hi]
    rw [ho']
    simp only [Option.map_some, Option.getD_some]
    rw [Array.all_eq_true']
    intro e he
    by_cases hb : Region.binds .any e = true
    ·have hdep : e.on ∈ depsOf os[i] := List.mem_map.2 ⟨e, List.mem_filter.2 ⟨by simpa using he, hb⟩, rfl⟩
     have hlt := (ancOK_spec hanc ho).1 _ hdep
     simp only [Nat.zero_add] at hlt
     simp [ih e.on hlt (by omega)]
    ·simp [hb]
   rw [hr] at hm; cases hm
theorem ready_full {L : Array Bool} (hL : L.size = os.length) (hf : os.length - (L.toList.filter id).length = 0) : Region.ready .any os.toArray L = [] := by
 have hcount : (L.toList.filter id).length = L.toList.length := by
  have := List.length_filter_le id L.toList
  simp only [Array.length_toList] at this ⊢
  omega
 rw [List.eq_nil_iff_forall_not_mem]
 intro i hi
 obtain ⟨o, ho, hnl, hlt, _⟩ := ready_spec hL hi
 have hallt := List.length_filter_eq_length_iff.1 hcount
 have : L[i]'(by omega) = true := by
  have := hallt (L[i]'(by omega)) (by simp)
  simpa using this
 rw [Array.getD_eq_getD_getElem?, Array.getElem?_eq_getElem (by omega)] at hnl
 simp [this] at hnl
theorem set_get {L : Array Bool} {i : Nat} (hL : L.size = os.length) (hlt : i < os.length) (j : Nat) : (L.setIfInBounds i true).getD j false = if j = i then true else L.getD j false := by
 simp only [Array.getD_eq_getD_getElem?]
 by_cases hj : j = i
 ·subst hj; simp [hL, hlt]
 ·rw [Array.getElem?_setIfInBounds_ne (fun e => hj e.symm), if_neg hj]
theorem set_count {L : Array Bool} {i fuel : Nat} (hL : L.size = os.length) (hlt : i < os.length) (hnl : L.getD i false = false) (hf : os.length - (L.toList.filter id).length = fuel + 1) :
  os.length - ((L.setIfInBounds i true).toList.filter id).length = fuel := by
 have e : ((L.setIfInBounds i true).toList.filter id).length = (L.toList.filter id).length + 1 := by
  rw [Array.toList_setIfInBounds]
  have hli : i < L.toList.length := by simpa [hL] using hlt
  have hv : L.toList[i] = false := by
   rw [Array.getD_eq_getD_getElem?, Array.getElem?_eq_getElem (by omega)] at hnl
   simpa using hnl
  rw [List.set_eq_take_append_cons_drop, if_pos hli]
  conv => rhs; rw [← List.take_append_drop i L.toList, List.drop_eq_getElem_cons hli, hv]
  simp only [List.filter_append, List.length_append, List.filter_cons, id, if_true, List.length_cons]
  simp
  omega
 rw [e]; omega
theorem look_at {l0 : Sl} {E : En} {us : Pu} {W : List Res} {l : Sl} {L : Array Bool} {a : Act} {w : World} (hI : InvP P c n os l0 E us W l L a w) {i k : Nat} {o : Oper} (_ : os[i]? = some o) (hnl : L.getD i false = false)
  (hanci : ∀ j, Nat.testBit ((mkAnc os []).getD i 0) j = true → L.getD j false = true) (_ : k ≤ E.length)
  (hbef : ∀ (j : Nat) (e : Nat × Kd), E[j]? = some e → j < k → ∀ y : Oper, os[e.1]? = some y → clash os.toArray y o = true → Nat.testBit ((mkAnc os []).getD i 0) e.1 = true)
  (hbeh : ∀ (j : Nat) (e : Nat × Kd), E[j]? = some e → k ≤ j → ∀ y : Oper, os[e.1]? = some y → clash os.toArray o y = true → e.1 = i ∨ Nat.testBit ((mkAnc os []).getD e.1 0) i = true) :
  (∀ t ∈ namesOf os.toArray o, lk (cur us (dn L E) 0 l0) t = lk (cur (us.take k) (fun _ => true) 0 l0) t) ∧
  (∀ t, o.dst = some t → ∀ (j : Nat) (x : Option (Nat × Value)), us[j]? = some x → writes x t → k ≤ j → dn L E j = false) := by
 have hwr : ∀ (j : Nat) (x : Option (Nat × Value)) (t : Nat), us[j]? = some x → writes x t → ∃ (e : Nat × Kd) (y : Oper), E[j]? = some e ∧ os[e.1]? = some y ∧ y.dst = some t := by
  intro j x t hx ⟨v, hv⟩
  have hjl : j < E.length := by
   rcases Nat.lt_or_ge j us.length with h | h
   ·have := hI.len; omega
   ·rw [List.getElem?_eq_none h] at hx; cases hx
  obtain ⟨o', ho', hd', _⟩ := hI.ents j E[j] x (by simp [hjl]) hx
  exact ⟨E[j], o', by simp [hjl], ho', by rw [hd', hv]; rfl⟩
 have hback : ∀ j e y, E[j]? = some e → k ≤ j → os[e.1]? = some y → clash os.toArray o y = true → dn L E j = false := by
  intro j e y he hkj hy hc
  simp only [dn, he]
  rcases hbeh j e he hkj y hy hc with h | h
  ·rw [h]; exact hnl
  ·cases hj : L.getD e.1 false
   ·rfl
   ·have := hI.clo e.1 i hj h; rw [hnl] at this; cases this
 refine ⟨fun t ht => ?_, fun t hdt j x hx hw hkj => ?_⟩
 ·refine lk_cur_text us _ 0 l0 t k (fun j x hx hw hji => ?_) (fun j x hx hw hij => ?_)
  ·obtain ⟨e, y, he, hy, hyd⟩ := hwr j x t hx hw
   simp only [Nat.zero_add, dn, he]
   refine hanci _ (hbef j e he hji y hy ?_)
   simp only [clash, hyd, Bool.or_eq_true]
   exact .inl (.inr (List.any_eq_true.2 ⟨t, ht, Nat.beq_refl t⟩))
  ·obtain ⟨e, y, he, hy, hyd⟩ := hwr j x t hx hw
   simp only [Nat.zero_add]
   refine hback j e y he hij hy ?_
   simp only [clash, hyd, Bool.or_eq_true]
   exact .inr (List.any_eq_true.2 ⟨t, ht, Nat.beq_refl t⟩)
 ·obtain ⟨e, y, he, hy, hyd⟩ := hwr j x t hx hw
  refine hback j e y he hkj hy ?_
  simp only [clash, hdt, Bool.or_eq_true]
  refine .inl (.inl ?_)
  simp [inDst, hyd, Nat.beq_refl]
theorem wanted_of {ops : Array Oper} {ltxt : Sl} {a : Act} {o : Oper} {b : Bool} (hg : gSays ops ltxt o = some b)
  (hyield : ∀ j want, o.guard = some (j, want) → ∀ t, (ops[j]?).bind (·.dst) = some t → ∀ v, lk ltxt t = some v → a.tmps[t]? = some v) : Region.wanted o (yielded ops a.tmps) = b := by
 unfold gSays at hg
 unfold Region.wanted
 cases hgd : o.guard with
 | none => simp [hgd] at hg; rw [hg]
 | some jw =>
  obtain ⟨j, want⟩ := jw
  simp only [hgd] at hg ⊢
  cases hj : (ops[j]?).bind (·.dst) with
  | none => rw [hj] at hg; cases hg
  | some t =>
   simp only [hj] at hg
   cases hv : lk ltxt t with
   | none => rw [hv] at hg; cases hg
   | some v =>
    have hav := hyield j want hgd t hj v hv
    rw [hv] at hg
    unfold yielded
    rw [hj]
    cases v <;> simp at hg
    ·simp [hav, hg]
    ·subst hg; simp [hav]
theorem ord_clash {anc : List Nat} {x y : Nat × Kd} (h : ordOK os anc x y = true) {o p : Oper} (ho : os[x.1]? = some o) (hp : os[y.1]? = some p) (hc : clash os.toArray o p = true) : Nat.testBit (anc.getD y.1 0) x.1 = true := by
 simp only [ordOK, ho, hp, hc, Bool.not_true, Bool.false_or, Bool.and_eq_true] at h
 exact h.1.1
theorem ord_mem {anc : List Nat} {x y : Nat × Kd} (h : ordOK os anc x y = true) (hm : memClash x.2 y.2 = true) : Nat.testBit (anc.getD y.1 0) x.1 = true := by
 simp only [ordOK, hm, Bool.not_true, Bool.false_or, Bool.and_eq_true] at h
 exact h.1.2
theorem ord_ne {anc : List Nat} {x y : Nat × Kd} (h : ordOK os anc x y = true) : x.1 ≠ y.1 := by
 simp only [ordOK, Bool.and_eq_true, Bool.not_eq_true'] at h
 exact ne_beq h.2
theorem noG_wp {o : Oper} {a : Act} {w : World} {K : Act → World → Prop} {Q : Exit → Act → World → Prop} (h : (noG o).wp P a w K Q) : o.wp P a w K Q := h
theorem single_mono {ops : Array Oper} {Q Q' : Exit → Act → World → Prop} {o : Oper} {a : Act} {w : World} (h : wpList P ops Q [o] a w) (hg : o.guard = none) (hQ : ∀ e a w, Q e a w → e = .normal)
  (hm : ∀ a w, Q .normal a w → Q' .normal a w) : wpList P ops Q' [o] a w := by
 rcases wpList_single h hg with h1 | ⟨_, a0, w0, hq⟩
 ·simp only [wpList]
  rw [if_pos (by simp [Region.wanted, hg])]
  left
  exact oper_wp_change h1 hm hQ
 ·exact absurd (hQ _ _ _ hq) (by simp)
theorem after_op {lr : Sl} {u : Option (Nat × Value)} {base : Sl} {a a' : Act} (hA : SatA n base a) (hlr : ∀ t v, lk lr t = some v → a.tmps[t]? = some v) (hsa : SatA n (u.toList ++ (lr ++ allSl a n)) a') :
  ∀ t v, lk (u.toList ++ base) t = some v → a'.tmps[t]? = some v := by
 intro t v ht
 refine hsa.at_ t v ?_
 rw [lk_append] at ht ⊢
 cases hut : lk u.toList t with
 | some v' => rw [hut] at ht; exact ht
 | none =>
  rw [hut] at ht
  simp only at ht ⊢
  have hat' := hA.at_ t v ht
  rw [lk_append]
  cases hr : lk lr t with
  | some v' =>
   have := hlr t v' hr
   rw [this] at hat'; exact hat'
  | none =>
   have htn : t < n := by
    rcases Nat.lt_or_ge t n with h | h
    ·exact h
    ·rw [Array.getElem?_eq_none (by rw [hA.sz]; exact h)] at hat'; cases hat'
   exact allSl_get a n t v htn hat'
theorem clo_set {L : Array Bool} {i : Nat} (hL : L.size = os.length) (hlt : i < os.length) (hclo : ∀ i j, L.getD i false = true → Nat.testBit ((mkAnc os []).getD i 0) j = true → L.getD j false = true)
  (hanci : ∀ j, Nat.testBit ((mkAnc os []).getD i 0) j = true → L.getD j false = true) :
  ∀ p q, (L.setIfInBounds i true).getD p false = true → Nat.testBit ((mkAnc os []).getD p 0) q = true → (L.setIfInBounds i true).getD q false = true := by
 intro p q hp hq
 rw [set_get hL hlt] at hp ⊢
 by_cases hqi : q = i
 ·simp [hqi]
 ·rw [if_neg hqi]
  by_cases hpi : p = i
  ·subst hpi; exact hanci q hq
  ·rw [if_neg hpi] at hp; exact hclo p q hp hq
theorem anc_done {L : Array Bool} {i : Nat} {o : Oper} (hanc : ancOK os 0 (mkAnc os []) = true) (ho : os[i]? = some o) (hclo : ∀ i j, L.getD i false = true → Nat.testBit ((mkAnc os []).getD i 0) j = true → L.getD j false = true)
  (hdeps : ∀ d ∈ depsOf o, L.getD d false = true) : ∀ j, Nat.testBit ((mkAnc os []).getD i 0) j = true → L.getD j false = true := by
 intro j hj
 have hspec := ancOK_spec hanc ho
 simp only [Nat.zero_add] at hspec
 obtain ⟨d, hd, he⟩ := hspec.2 j hj
 rcases he with rfl | he
 ·exact hdeps d hd
 ·exact hclo d j (hdeps d hd) he
theorem perform {l0 : Sl} {E : En} {us : Pu} {W : List Res} {l : Sl} {L : Array Bool} {a : Act} {w : World} (hI : InvP P c n os l0 E us W l L a w) (hanc : ancOK os 0 (mkAnc os []) = true) (hpairs : allPairs (ordOK os (mkAnc os [])) E = true)
  {k : Nat} {e : Nat × Kd} (he : E[k]? = some e) {o : Oper} (ho : os[e.1]? = some o) (hnl : L.getD e.1 false = false) (hdeps : ∀ d ∈ depsOf o, L.getD d false = true) {K' : Act → World → Prop}
  (hcont : ∀ a' w', InvP P c n os l0 E us W l (L.setIfInBounds e.1 true) a' w' → K' a' w') : wpOp P os.toArray Q e.1 K' a w := by
 have hlt : e.1 < os.length := by
  rcases Nat.lt_or_ge e.1 os.length with h | h
  ·exact h
  ·rw [List.getElem?_eq_none h] at ho; cases ho
 have hkl : k < E.length := by
  rcases Nat.lt_or_ge k E.length with h | h
  ·exact h
  ·rw [List.getElem?_eq_none h] at he; cases he
 have hanci := anc_done hanc ho hI.clo hdeps
 obtain ⟨u, hu⟩ : ∃ u, us[k]? = some u := ⟨us[k]'(by have := hI.len; omega), by have := hI.len; simp [show k < us.length by omega]⟩
 obtain ⟨o', ho', hdst, hinn, hsay⟩ := hI.ents k e u he hu
 rw [ho] at ho'; cases ho'
 have hlook := look_at hI ho hnl hanci (Nat.le_of_lt hkl)
  (fun j e' he' hjk y hy hc => ord_clash (allPairs_spec hpairs hjk he' he) hy ho hc)
  (fun j e' he' hkj y hy hc => by
   rcases Nat.eq_or_lt_of_le hkj with rfl | hlt'
   ·rw [he] at he'; cases he'; exact .inl rfl
   ·exact .inr (ord_clash (allPairs_spec hpairs hlt' he he') ho hy hc))
 have hfr : ∀ a', (∀ t v, lk (u.toList ++ cur us (dn L E) 0 l0) t = some v → a'.tmps[t]? = some v) → a'.defers = [] → a'.tmps.size = n → SatA n (cur us (dn (L.setIfInBounds e.1 true) E) 0 l0) a' := by
  intro a' h1 h2 h3
  refine ⟨h2, h3, fun t v ht => h1 t v ?_⟩
  have hs := lk_cur_set us (dn L E) (dn (L.setIfInBounds e.1 true) E) 0 l0 t k u hu (by simp [dn, he, set_get hI.size hlt]) (by simp [dn, he, hnl])
   (fun j hj => by
    simp only [Nat.zero_add, dn]
    cases hj' : E[j]? with
    | none => rfl
    | some e' =>
     have hne : e'.1 ≠ e.1 := by
      rcases Nat.lt_or_gt_of_ne hj with h | h
      ·exact ord_ne (allPairs_spec hpairs h hj' he)
      ·exact fun q => ord_ne (allPairs_spec hpairs h he hj') q.symm
     simp only [set_get hI.size hlt, if_neg hne])
  by_cases hw : writes u t
  ·obtain ⟨v', hv'⟩ := hw
   have hod : o.dst = some t := by rw [hdst, hv']; rfl
   have := hs.2 v' hv' (fun j x hx hw hij => by
    simp only [Nat.zero_add]
    exact hlook.2 t hod j x hx hw (Nat.le_of_lt hij))
   rw [this] at ht; cases ht
   rw [hv']; simp [lk]
  ·rw [hs.1 hw] at ht
   rw [lk_put hw]; exact ht
 have hinv : ∀ a' w', SatA n (cur us (dn (L.setIfInBounds e.1 true) E) 0 l0) a' → SatW c W w' → InvP P c n os l0 E us W l (L.setIfInBounds e.1 true) a' w' := by
  intro a' w' h1 h2
  refine ⟨by simp [hI.size], clo_set hI.size hlt hI.clo hanci, fun j hj => ?_, hI.len, h1, h2, hI.txt, fun k' e' u' he' hu' => ?_⟩
  ·rw [set_get hI.size hlt] at hj
   by_cases hji : j = e.1
   ·exact ⟨k, e, he, hji.symm⟩
   ·rw [if_neg hji] at hj; exact hI.sub j hj
  ·obtain ⟨o2, h1, h2, h3, h4⟩ := hI.ents k' e' u' he' hu'
   refine ⟨o2, h1, h2, h3, ?_⟩
   rcases h4 with h4 | h4 | h4
   ·left; rw [set_get hI.size hlt]; split
    ·rfl
    ·exact h4
   ·exact .inr (.inl h4)
   ·exact .inr (.inr h4)
 have hyield : ∀ j want, o.guard = some (j, want) → ∀ t, (os.toArray[j]?).bind (·.dst) = some t → ∀ v, lk (cur (us.take k) (fun _ => true) 0 l0) t = some v → a.tmps[t]? = some v := by
  intro j want hg t ht v hv
  have htn : t ∈ namesOf os.toArray o := by
   simp only [namesOf, List.mem_append, guTmp, hg]
   left; rw [ht]; simp
  exact hI.fr.at_ t v (by rw [hlook.1 t htn]; exact hv)
 unfold wpOp
 rw [show os.toArray[e.1]? = some o by simpa using ho]
 rcases hsay with hd | ⟨hg, hne, A, Wk, hWA, _, hV⟩ | ⟨hg, d, hud⟩
 ·rw [hnl] at hd; cases hd
 ·have hwant := wanted_of hg hyield
  simp only [hwant, if_true]
  left
  have hpinW : SatW c Wk w := drop_all (A := A) (hWA ▸ hI.wd)
  have hlr : ∀ t v, lk (restr os.toArray o (cur (us.take k) (fun _ => true) 0 l0)) t = some v → a.tmps[t]? = some v := fun t v ht => by
   obtain ⟨h1, h2⟩ := lk_restrL ht
   exact hI.fr.at_ t v (by rw [hlook.1 t h2]; exact h1)
  have hstep := hV w (allSl a n) hpinW a w ⟨hI.fr.dfr, hI.fr.sz, fun t v ht => by
   rw [lk_append] at ht
   cases hr : lk (restr os.toArray o (cur (us.take k) (fun _ => true) 0 l0)) t with
   | some v' => rw [hr] at ht; cases ht; exact hlr t v hr
   | none => rw [hr] at ht; exact allSl_lk a n t v ht⟩ ⟨Ext.refl _ _, hpinW.holds, fun b hb => .inr hb, hpinW.nd⟩
  rcases wpList_single hstep rfl with hstep | ⟨_, a0, w0, hq, _⟩
  case inr => cases hq
  refine oper_wp_change (noG_wp hstep) (fun a' w' hp => hcont a' w' (hinv a' w' ?_ ?_)) (fun e _ _ hp => hp.1)
  ·obtain ⟨_, hsa, _⟩ := hp
   exact hfr a' (after_op hI.fr hlr hsa) hsa.dfr hsa.sz
  ·obtain ⟨_, _, hsw⟩ := hp
   rw [hWA]
   exact frame_all (hWA ▸ hI.wd) hsw
 ·have hnw := wanted_of hg hyield
  simp only [hnw, Bool.false_eq_true, if_false]
  have hod : o.dst = some d := by rw [hdst, hud]; rfl
  have hput := hI.fr.put (v := undef) (hinn d hod)
  rw [hod]
  exact hcont _ _ (hinv _ _ (hfr _ (fun t v ht => hput.at_ t v (by rw [hud] at ht; exact ht)) hput.dfr hput.sz) hI.wd)
theorem get_snoc {α : Type} {E : List α} {x e : α} {k : Nat} (h : (E ++ [x])[k]? = some e) : (k < E.length ∧ E[k]? = some e) ∨ (k = E.length ∧ e = x) := by
 rcases Nat.lt_or_ge k E.length with hk | hk
 ·rw [List.getElem?_append_left hk] at h; exact .inl ⟨hk, h⟩
 ·rw [List.getElem?_append_right hk] at h
  have : k - E.length = 0 := by
   rcases Nat.eq_zero_or_pos (k - E.length) with h0 | h0
   ·exact h0
   ·rw [List.getElem?_eq_none (by simp; omega)] at h; cases h
  rw [this] at h; simp at h
  exact .inr ⟨by omega, h.symm⟩
theorem new_not {E : En} {i : Nat} (h : newP i E = true) : ∀ (k : Nat) (e : Nat × Kd), E[k]? = some e → e.1 ≠ i := by
 intro k e he hei
 simp only [newP, Bool.not_eq_true', List.any_eq_false] at h
 exact h e (List.mem_of_getElem? he) (by rw [hei]; exact Nat.beq_refl i)
theorem any_order {l0 : Sl} {E : En} {W : List Res} {l : Sl} {rest : List Nat} (h : QF P c n os (Q .normal) E W l rest) : ∀ (fuel : Nat) (us : Pu) (L : Array Bool) (a : Act) (w : World),
  (os.length - (L.toList.filter id).length = fuel) → InvP P c n os l0 E us W l L a w → wpAny P .any os.toArray Q fuel L a w := by
 induction h with
 | fin hc hf hk =>
  rename_i E W l
  simp only [chkP, Bool.and_eq_true] at hc
  obtain ⟨hanc, hpairs⟩ := hc
  have hfin : ∀ (us : Pu) (L : Array Bool) (a : Act) (w : World), InvP P c n os l0 E us W l L a w → Region.ready .any os.toArray L = [] → Q .normal a w := by
   intro us L a w hI hr
   have hd := ready_nil hanc hI.size hr
   refine hk a w ?_ hI.wd
   have e := cur_congr us (dn L E) (fun _ => true) 0 l0 (fun j hj => by
    have hjl : j < E.length := by have := hI.len; omega
    obtain ⟨o, ho, _⟩ := hI.ents j E[j] (us[j]) (by simp [hjl]) (by simp [hj])
    have hlt : (E[j]).1 < os.length := by
     rcases Nat.lt_or_ge (E[j]).1 os.length with h | h
     ·exact h
     ·rw [List.getElem?_eq_none h] at ho; cases ho
    simp only [Nat.zero_add, dn, List.getElem?_eq_getElem hjl]
    exact hd _ hlt)
   have hA := hI.fr
   rw [e, ← hI.txt] at hA
   exact hA
  intro fuel
  induction fuel with
  | zero => intro us L a w hf hI; exact ⟨ready_full hI.size hf, hfin us L a w hI (ready_full hI.size hf)⟩
  | succ fuel ih =>
   intro us L a w hfu hI
   refine ⟨hfin us L a w hI, fun i hi => ?_⟩
   obtain ⟨o, ho, hnl, hlt, hdeps⟩ := ready_spec hI.size hi
   simp only [fullP, List.all_eq_true, List.mem_range] at hf
   obtain ⟨e, hem, hei⟩ := List.any_eq_true.1 (hf i hlt)
   obtain ⟨k, hk'⟩ := List.getElem?_of_mem hem
   have hei := Nat.eq_of_beq_eq_true hei
   subst hei
   exact perform hI hanc hpairs hk' ho hnl hdeps (fun a' w' hI' => ih us _ a' w' (set_count hI.size hlt hnl hfu) hI')
 | val kd hk hi ho hd hn hg h hr ih =>
  rename_i E W l i d o v rest
  intro fuel us L a w hfu hI
  have hnew := new_not hi
  have hnd : L.getD i false = false := by
   cases hx : L.getD i false
   ·rfl
   ·obtain ⟨k, e, he, hei⟩ := hI.sub i hx; exact absurd hei (hnew k e he)
  refine ih fuel (us ++ [some (d, v)]) L a w hfu ⟨hI.size, hI.clo, fun j hj => ?_, by simp [hI.len], ?_, hI.wd, ?_, fun k e u he hu => ?_⟩
  ·obtain ⟨k, e, he, hej⟩ := hI.sub j hj
   exact ⟨k, e, by rw [List.getElem?_append_left]; exact he; exact (List.getElem?_eq_some_iff.1 he).1, hej⟩
  ·rw [cur_append]
   have e1 : cur us (dn L (E ++ [(i, kd)])) 0 l0 = cur us (dn L E) 0 l0 := cur_congr _ _ _ _ _ (fun j hj => by
    simp only [Nat.zero_add, dn]; rw [List.getElem?_append_left (by have := hI.len; omega)])
   have e2 : dn L (E ++ [(i, kd)]) (0 + us.length) = false := by
    simp only [Nat.zero_add, dn, hI.len, List.getElem?_concat_length]; exact hnd
   simp only [cur, e2, Bool.false_eq_true, if_false, e1]; exact hI.fr
  ·rw [cur_append, ← hI.txt]; simp [cur]
  ·rcases get_snoc he with ⟨hkl, he'⟩ | ⟨rfl, rfl⟩
   ·have hu' : us[k]? = some u := by rwa [List.getElem?_append_left (by have := hI.len; omega)] at hu
    have := hI.ents k e u he' hu'
    rw [List.take_append_of_le_length (by have := hI.len; omega)]
    exact this
   ·have hu' : u = some (d, v) := by rw [← hI.len, List.getElem?_concat_length] at hu; exact (Option.some.inj hu).symm
    subst hu'
    refine ⟨o, ho, by simpa using hd, fun d' hd' => by rw [hd] at hd'; cases hd'; exact hn, .inr (.inl ?_)⟩
    rw [List.take_append_of_le_length (by have := hI.len; omega), ← hI.len, List.take_length, ← hI.txt]
    refine ⟨hg, hk, ?_⟩
    cases kd with
    | free => exact ⟨W, [], by simp, fun _ => rfl, h⟩
    | pin => exact ⟨[], W, rfl, fun hx => (by cases hx), h⟩
    | eff => simp [Kd.isEff] at hk
    | alc => simp [Kd.isEff] at hk
 | no hi ho hd hn hg hr ih =>
  rename_i E W l i d o rest
  intro fuel us L a w hfu hI
  have hnew := new_not hi
  have hnd : L.getD i false = false := by
   cases hx : L.getD i false
   ·rfl
   ·obtain ⟨k, e, he, hei⟩ := hI.sub i hx; exact absurd hei (hnew k e he)
  refine ih fuel (us ++ [some (d, undef)]) L a w hfu ⟨hI.size, hI.clo, fun j hj => ?_, by simp [hI.len], ?_, hI.wd, ?_, fun k e u he hu => ?_⟩
  ·obtain ⟨k, e, he, hej⟩ := hI.sub j hj
   exact ⟨k, e, by rw [List.getElem?_append_left]; exact he; exact (List.getElem?_eq_some_iff.1 he).1, hej⟩
  ·rw [cur_append]
   have e1 : cur us (dn L (E ++ [(i, .free)])) 0 l0 = cur us (dn L E) 0 l0 := cur_congr _ _ _ _ _ (fun j hj => by
    simp only [Nat.zero_add, dn]; rw [List.getElem?_append_left (by have := hI.len; omega)])
   have e2 : dn L (E ++ [(i, .free)]) (0 + us.length) = false := by
    simp only [Nat.zero_add, dn, hI.len, List.getElem?_concat_length]; exact hnd
   simp only [cur, e2, Bool.false_eq_true, if_false, e1]; exact hI.fr
  ·rw [cur_append, ← hI.txt]; simp [cur]
  ·rcases get_snoc he with ⟨hkl, he'⟩ | ⟨rfl, rfl⟩
   ·have hu' : us[k]? = some u := by rwa [List.getElem?_append_left (by have := hI.len; omega)] at hu
    have := hI.ents k e u he' hu'
    rw [List.take_append_of_le_length (by have := hI.len; omega)]
    exact this
   ·have hu' : u = some (d, undef) := by rw [← hI.len, List.getElem?_concat_length] at hu; exact (Option.some.inj hu).symm
    subst hu'
    refine ⟨o, ho, by simpa using hd, fun d' hd' => by rw [hd] at hd'; cases hd'; exact hn, .inr (.inr ?_)⟩
    rw [List.take_append_of_le_length (by have := hI.len; omega), ← hI.len, List.take_length, ← hI.txt]
    exact ⟨hg, d, rfl⟩
 | nd hne hi ho hc hdesc hΦ hg h hr ih =>
  rename_i E W l is rest of Φf kf nx
  obtain ⟨i0, hi0⟩ : ∃ i, i ∈ is := List.exists_mem_of_ne_nil _ hne
  have hanc : ancOK os 0 (mkAnc os []) = true := by
   have := hc i0 hi0
   simp only [chkP, Bool.and_eq_true] at this
   exact this.1
  have hpairs : allPairs (ordOK os (mkAnc os [])) E = true := by
   have h0 := hc i0 hi0
   simp only [chkP, Bool.and_eq_true] at h0
   have : ∀ {X Y : En}, allPairs (ordOK os (mkAnc os [])) (X ++ Y) = true → allPairs (ordOK os (mkAnc os [])) X = true := by
    intro X
    induction X with
    | nil => intro Y _; rfl
    | cons x r ihx =>
     intro Y hxy
     simp only [List.cons_append, allPairs, Bool.and_eq_true, List.all_append] at hxy ⊢
     exact ⟨hxy.1.1, ihx hxy.2⟩
   exact this h0.2
  have hnew := fun i hi' => new_not (hi i hi')
  intro fuel
  induction fuel with
  | zero =>
   intro us L a w hfu hI
   have hr0 := ready_full hI.size hfu
   have hd := ready_nil hanc hI.size hr0
   have hlt : i0 < os.length := (List.getElem?_eq_some_iff.1 (ho i0 hi0)).1
   obtain ⟨k, e, he, hei⟩ := hI.sub i0 (hd i0 hlt)
   exact absurd hei (hnew i0 hi0 k e he)
  | succ fuel ihf =>
   intro us L a w hfu hI
   have hnds : ∀ i ∈ is, L.getD i false = false := by
    intro i hi'
    cases hx : L.getD i false
    ·rfl
    ·obtain ⟨k, e, he, hei⟩ := hI.sub i hx; exact absurd hei (hnew i hi' k e he)
   refine ⟨fun hr0 => ?_, fun j hj => ?_⟩
   ·have hd := ready_nil hanc hI.size hr0
    have h1 := hnds i0 hi0
    rw [hd i0 (List.getElem?_eq_some_iff.1 (ho i0 hi0)).1] at h1; cases h1
   obtain ⟨p, hp, hnl, hlt, hdeps⟩ := ready_spec hI.size hj
   have hanci := anc_done hanc hp hI.clo hdeps
   simp only [descP, Bool.and_eq_true, List.all_eq_true, List.mem_range, Bool.or_eq_true] at hdesc
   have hcase : j ∈ is ∨ ∃ (k : Nat) (e : Nat × Kd), E[k]? = some e ∧ e.1 = j := by
    rcases hdesc.2 j hlt with (h1 | h1) | h1
    ·obtain ⟨x, hx, hxj⟩ := List.any_eq_true.1 h1
     have hxj := Nat.eq_of_beq_eq_true hxj
     subst hxj
     exact .inl hx
    ·obtain ⟨x, hx, hxj⟩ := List.any_eq_true.1 h1
     have hxj := Nat.eq_of_beq_eq_true hxj
     subst hxj
     obtain ⟨i, hi', hb⟩ := List.any_eq_true.1 (hdesc.1 j hx)
     have hb := hanci i hb
     rw [hnds i hi'] at hb; cases hb
    ·obtain ⟨e, hem, hej⟩ := List.any_eq_true.1 h1
     obtain ⟨k, hk'⟩ := List.getElem?_of_mem hem
     exact .inr ⟨k, e, hk', Nat.eq_of_beq_eq_true hej⟩
   rcases hcase with hji | ⟨k, e, hk', rfl⟩
   case inr => exact perform hI hanc hpairs hk' hp hnl hdeps (fun a' w' hI' => ihf us _ a' w' (set_count hI.size hlt hnl hfu) hI')
   have hpairsX := hc j hji
   simp only [chkP, Bool.and_eq_true] at hpairsX
   have hpairsX := hpairsX.2
   have hnew := hnew j hji
   have ho := ho j hji
   have hΦ := hΦ j hji
   have hg := hg j hji
   have h := h j hji
   have ih := ih j hji
   rw [ho] at hp; cases hp
   generalize kf j = κ at *
   generalize Φf j = Φj at *
   generalize of j = o at *
   have hget : ∀ {k e}, E[k]? = some e → (E ++ [(j, κ)])[k]? = some e := fun {k e} he => by
    rw [List.getElem?_append_left]; exact he; exact (List.getElem?_eq_some_iff.1 he).1
   have hlast : (E ++ [(j, κ)])[E.length]? = some (j, κ) := by simp
   have hlook := look_at hI ho hnl hanci (Nat.le_refl _)
    (fun j' e' he' hjk y hy hc => ord_clash (allPairs_spec hpairsX hjk (hget he') hlast) hy ho hc)
    (fun j' e' he' hkj => by rw [List.getElem?_eq_none hkj] at he'; cases he')
   have htk : us.take E.length = us := by rw [← hI.len, List.take_length]
   rw [htk, ← hI.txt] at hlook
   have hyield : ∀ j' want, o.guard = some (j', want) → ∀ t, (os.toArray[j']?).bind (·.dst) = some t → ∀ v, lk l t = some v → a.tmps[t]? = some v := by
    intro j' want hg t ht v hv
    have htn : t ∈ namesOf os.toArray o := by
     simp only [namesOf, List.mem_append, guTmp, hg]
     left; rw [ht]; simp
    exact hI.fr.at_ t v (by rw [hlook.1 t htn]; exact hv)
   have hlr : ∀ t v, lk (restr os.toArray o l) t = some v → a.tmps[t]? = some v := fun t v ht => by
    obtain ⟨h1, h2⟩ := lk_restrL ht
    exact hI.fr.at_ t v (by rw [hlook.1 t h2]; exact h1)
   unfold wpOp
   rw [show os.toArray[j]? = some o by simpa using ho]
   have hwant := wanted_of hg hyield
   simp only [hwant, if_true]
   left
   have hstep := h w (allSl a n) hI.wd a w ⟨hI.fr.dfr, hI.fr.sz, fun t v ht => by
    rw [lk_append] at ht
    cases hr' : lk (restr os.toArray o l) t with
    | some v' => rw [hr'] at ht; cases ht; exact hlr t v hr'
    | none => rw [hr'] at ht; exact allSl_lk a n t v ht⟩ ⟨Ext.refl _ _, hI.wd.holds, fun b hb => .inr hb, hI.wd.nd⟩
   rcases wpList_single hstep rfl with hstep | ⟨_, a0, w0, hq, _⟩
   case inr => cases hq
   refine oper_wp_change (noG_wp hstep) (fun a' w' hp => ?_) (fun e _ _ hp => hp.1)
   obtain ⟨_, u, W', hu, hsa, hsw⟩ := hp
   have hL' := set_get hI.size hlt
   obtain ⟨hdst, hinn, hkind⟩ := hΦ u W' hu
   refine ih u W' hu fuel (us ++ [u]) _ a' w' (set_count hI.size hlt hnl hfu) ⟨by simp [hI.size], clo_set hI.size hlt hI.clo hanci, fun q hq => ?_, by simp [hI.len], ?_, satW_shift hI.wd hsw, ?_, fun k e u' he hu' => ?_⟩
   ·rw [hL'] at hq
    by_cases hqj : q = j
    ·exact ⟨E.length, (j, κ), hlast, hqj.symm⟩
    ·rw [if_neg hqj] at hq
     obtain ⟨k, e, he, hej⟩ := hI.sub q hq
     exact ⟨k, e, hget he, hej⟩
   ·rw [cur_append]
    have e1 : cur us (dn (L.setIfInBounds j true) (E ++ [(j, κ)])) 0 l0 = cur us (dn L E) 0 l0 := cur_congr _ _ _ _ _ (fun q hq => by
     have hql : q < E.length := by have := hI.len; omega
     simp only [Nat.zero_add, dn]; rw [List.getElem?_append_left hql, List.getElem?_eq_getElem hql]
     simp only [hL', if_neg (hnew q E[q] (by simp [hql]))])
    have e2 : dn (L.setIfInBounds j true) (E ++ [(j, κ)]) (0 + us.length) = true := by
     simp only [Nat.zero_add, dn, hI.len, List.getElem?_concat_length, hL', if_true]
    simp only [cur, e2, if_true, e1]
    exact ⟨hsa.dfr, hsa.sz, after_op hI.fr hlr hsa⟩
   ·rw [cur_append, ← hI.txt]; simp [cur]
   ·rcases get_snoc he with ⟨hkl, he'⟩ | ⟨rfl, rfl⟩
    ·have hu2 : us[k]? = some u' := by rwa [List.getElem?_append_left (by have := hI.len; omega)] at hu'
     obtain ⟨o2, h1, h2, h3, h4⟩ := hI.ents k e u' he' hu2
     rw [List.take_append_of_le_length (by have := hI.len; omega)]
     refine ⟨o2, h1, h2, h3, ?_⟩
     have hdone : L.getD e.1 false = true → (L.setIfInBounds j true).getD e.1 false = true := fun hx => by rw [hL']; split; rfl; exact hx
     rcases h4 with h4 | ⟨g1, g2, A, Wk, g3, g4, g5⟩ | h4
     ·exact .inl (hdone h4)
     ·rcases hkind with rfl | ⟨rfl, B, hB⟩
      ·cases hkd : e.2 with
       | free =>
        have := g4 hkd
        subst this
        exact .inr (.inl ⟨g1, rfl, W', [], by simp, fun _ => rfl, g5⟩)
       | pin =>
        refine .inl (hdone (hanci _ ?_))
        exact ord_mem (allPairs_spec hpairsX hkl (hget he') hlast) (by rw [hkd]; rfl)
       | eff => rw [hkd] at g2; simp [Kd.isEff] at g2
       | alc => rw [hkd] at g2; simp [Kd.isEff] at g2
      ·exact .inr (.inl ⟨g1, g2, B ++ A, Wk, by rw [hB, g3, List.append_assoc], g4, g5⟩)
     ·exact .inr (.inr h4)
    ·have hu2 : u' = u := by rw [← hI.len, List.getElem?_concat_length] at hu'; exact (Option.some.inj hu').symm
     subst hu2
     refine ⟨o, ho, hdst, hinn, .inl ?_⟩
     rw [hL', if_pos rfl]
theorem st_perm {rid : Nat} {W : List Res} {l : Sl} (π : List Nat) (hm : P.follows .mixedOrders = true) (h : QF P c n os (Q .normal) [] W l π) : Go c n l W ((Code.region rid os.toArray true).wp P Q) := by
 refine st_anyB hm fun a w ha hw => any_order (l0 := l) h _ [] _ a w ?_ ⟨by simp, ?_, ?_, rfl, ha, hw, rfl, ?_⟩
 ·simp
 ·intro i j hi; simp [Array.getD_eq_getD_getElem?, Array.getElem?_replicate] at hi; split at hi <;> simp at hi
 ·intro i hi; simp [Array.getD_eq_getD_getElem?, Array.getElem?_replicate] at hi; split at hi <;> simp at hi
 ·intro k e u he; simp at he
variable {K : Act → World → Prop} {E : En} {W : List Res} {l : Sl} {i d : Nat} {o : Oper} {rest : List Nat}
theorem Zpf {v : Value} (ho : os[i]? = some o) (h : OpV P c n [] [] (restr os.toArray o l) (noG o) (some (d, v))) (hr : QF P c n os K (E ++ [(i, .free)]) W ((d, v) :: l) rest)
  (hi : newP i E = true := by rfl) (hd : o.dst = some d := by rfl) (hn : Nat.blt d n = true := by rfl) (hg : gSays os.toArray l o = some true := by rfl) : QF P c n os K E W l (i :: rest) :=
 QF.val .free rfl hi ho hd hn hg h hr
theorem Zpp {v : Value} (ho : os[i]? = some o) (h : OpV P c n W W (restr os.toArray o l) (noG o) (some (d, v))) (hr : QF P c n os K (E ++ [(i, .pin)]) W ((d, v) :: l) rest)
  (hi : newP i E = true := by rfl) (hd : o.dst = some d := by rfl) (hn : Nat.blt d n = true := by rfl) (hg : gSays os.toArray l o = some true := by rfl) : QF P c n os K E W l (i :: rest) :=
 QF.val .pin rfl hi ho hd hn hg h hr
theorem Zpo (ho : os[i]? = some o) (hr : QF P c n os K (E ++ [(i, .free)]) W ((d, undef) :: l) rest)
  (hi : newP i E = true := by rfl) (hd : o.dst = some d := by rfl) (hn : Nat.blt d n = true := by rfl) (hg : gSays os.toArray l o = some false := by rfl) : QF P c n os K E W l (i :: rest) :=
 QF.no hi ho hd hn hg hr
theorem nd1 {Φ : Option (Nat × Value) → List Res → Prop} (kd : Kd) (ho : os[i]? = some o) (hi : newP i E = true) (hc : chkP os (E ++ [(i, kd)]) = true) (hdesc : descP os [i] rest E = true)
  (hΦ : ∀ u W', Φ u W' → o.dst = u.map (·.1) ∧ (∀ d, o.dst = some d → Nat.blt d n = true) ∧ (kd = .eff ∨ (kd = .alc ∧ ∃ B, W' = B ++ W)))
  (hg : gSays os.toArray l o = some true) (h : OpN P c n W Φ (restr os.toArray o l) (noG o))
  (hr : ∀ u W', Φ u W' → QF P c n os K (E ++ [(i, kd)]) W' (u.toList ++ l) rest) : QF P c n os K E W l (i :: rest) := by
 refine QF.nd (is := [i]) (nx := fun _ => rest) (o := fun _ => o) (Φ := fun _ => Φ) (kd := fun _ => kd) (by simp) ?_ ?_ ?_ hdesc ?_ ?_ ?_ ?_ <;> intro j hj <;> (have hj := List.mem_singleton.1 hj; subst hj)
 ·exact hi
 ·exact ho
 ·exact hc
 ·exact hΦ
 ·exact hg
 ·exact h
 ·exact hr
def OpF (P : Program) (c : Cx) (n : Nat) (W : List Res) (F : Value → List Res) (d : Nat) (lr : Sl) (o : Oper) : Prop :=
 ∀ w0 m, SatW c W w0 → Go ⟨w0, fps W⟩ n (lr ++ m) W (wpList P #[] (fun e a w => e = .normal ∧ ∃ v, SatA n ((d, v) :: (lr ++ m)) a ∧ SatW ⟨w0, fps W⟩ (F v) w) [o])
theorem Zpn {F : Value → List Res} (ho : os[i]? = some o) (h : OpF P c n W F d (restr os.toArray o l) (noG o)) (hr : ∀ v, QF P c n os K (E ++ [(i, .eff)]) (F v) ((d, v) :: l) rest)
  (hi : newP i E = true := by rfl) (hd : o.dst = some d := by rfl) (hn : Nat.blt d n = true := by rfl) (hg : gSays os.toArray l o = some true := by rfl)
  (hc : chkP os (E ++ [(i, .eff)]) = true := by rfl) (hdesc : descP os [i] rest E = true := by rfl) : QF P c n os K E W l (i :: rest) :=
 nd1 .eff (Φ := fun u W' => ∃ v, u = some (d, v) ∧ W' = F v) ho hi hc hdesc (fun u W' ⟨v, hu, _⟩ => by subst hu; exact ⟨hd, fun d' hd' => by rw [hd] at hd'; cases hd'; exact hn, .inl rfl⟩) hg
  (fun w0 m hw a w ha hw' => single_mono (h w0 m hw a w ha hw') rfl (fun _ _ _ h => h.1) fun a w ⟨h1, v, h2, h3⟩ => ⟨h1, some (d, v), F v, ⟨v, rfl, rfl⟩, h2, h3⟩)
  (fun u W' ⟨v, hu, hW⟩ => by subst hu; subst hW; exact hr v)
theorem Zpx {F : Value → List Res} {L : Sl} {v : Value} {W' : List Res} (hF : F v = W' := by rfl) :
  Go c n ((d, v) :: L) W' (wpList P #[] (fun e a w => e = .normal ∧ ∃ v, SatA n ((d, v) :: L) a ∧ SatW c (F v) w) []) :=
 fun _ _ ha hw => wpList_nil ⟨rfl, v, ha, by rw [hF]; exact hw⟩
def OpB (P : Program) (c : Cx) (n : Nat) (W : List Res) (F : Nat → List Res) (d : Nat) (lr : Sl) (o : Oper) : Prop :=
 ∀ w0 m, SatW c W w0 → Go ⟨w0, fps W⟩ n (lr ++ m) W (wpList P #[] (fun e a w => e = .normal ∧ ∃ b, SatA n ((d, pt b 0) :: (lr ++ m)) a ∧ SatW ⟨w0, fps W⟩ (F b ++ W) w) [o])
theorem Zpb {F : Nat → List Res} (ho : os[i]? = some o) (h : OpB P c n W F d (restr os.toArray o l) (noG o)) (hr : ∀ b, QF P c n os K (E ++ [(i, .alc)]) (F b ++ W) ((d, pt b 0) :: l) rest)
  (hi : newP i E = true := by rfl) (hd : o.dst = some d := by rfl) (hn : Nat.blt d n = true := by rfl) (hg : gSays os.toArray l o = some true := by rfl)
  (hc : chkP os (E ++ [(i, .alc)]) = true := by rfl) (hdesc : descP os [i] rest E = true := by rfl) : QF P c n os K E W l (i :: rest) :=
 nd1 .alc (Φ := fun u W' => ∃ b, u = some (d, pt b 0) ∧ W' = F b ++ W) ho hi hc hdesc (fun u W' ⟨v, hu, hW⟩ => by subst hu; exact ⟨hd, fun d' hd' => by rw [hd] at hd'; cases hd'; exact hn, .inr ⟨rfl, F v, hW⟩⟩) hg
  (fun w0 m hw a w ha hw' => single_mono (h w0 m hw a w ha hw') rfl (fun _ _ _ h => h.1) fun a w ⟨h1, b, h2, h3⟩ => ⟨h1, some (d, pt b 0), F b ++ W, ⟨b, rfl, rfl⟩, h2, h3⟩)
  (fun u W' ⟨v, hu, hW⟩ => by subst hu; subst hW; exact hr v)
theorem Zpbx {b : Nat} {v : Value} {T : TypeId} {L : Sl} :
  Go c n ((d, pt b 0) :: L) (.blk b v T :: W) (wpList P #[] (fun e a w => e = .normal ∧ ∃ b, SatA n ((d, pt b 0) :: L) a ∧ SatW c ((fun b => [.blk b v T]) b ++ W) w) []) :=
 fun _ _ ha hw => wpList_nil ⟨rfl, b, ha, hw⟩
def OpC (P : Program) (c : Cx) (n : Nat) (W : List Res) (F : Value → List Res) (d : Nat) (lr : Sl) (o : Oper) : Prop :=
 ∀ w0 m, SatW c W w0 → Go ⟨w0, fps W⟩ n (lr ++ m) W (wpList P #[] (fun e a w => e = .normal ∧ ∃ v, SatA n ((d, v) :: (lr ++ m)) a ∧ SatW ⟨w0, fps W⟩ (F v ++ W) w) [o])
theorem Zpc {F : Value → List Res} (ho : os[i]? = some o) (h : OpC P c n W F d (restr os.toArray o l) (noG o)) (hr : ∀ v, QF P c n os K (E ++ [(i, .alc)]) (F v ++ W) ((d, v) :: l) rest)
  (hi : newP i E = true := by rfl) (hd : o.dst = some d := by rfl) (hn : Nat.blt d n = true := by rfl) (hg : gSays os.toArray l o = some true := by rfl)
  (hc : chkP os (E ++ [(i, .alc)]) = true := by rfl) (hdesc : descP os [i] rest E = true := by rfl) : QF P c n os K E W l (i :: rest) :=
 nd1 .alc (Φ := fun u W' => ∃ v, u = some (d, v) ∧ W' = F v ++ W) ho hi hc hdesc (fun u W' ⟨v, hu, hW⟩ => by subst hu; exact ⟨hd, fun d' hd' => by rw [hd] at hd'; cases hd'; exact hn, .inr ⟨rfl, F v, hW⟩⟩) hg
  (fun w0 m hw a w ha hw' => single_mono (h w0 m hw a w ha hw') rfl (fun _ _ _ h => h.1) fun a w ⟨h1, v, h2, h3⟩ => ⟨h1, some (d, v), F v ++ W, ⟨v, rfl, rfl⟩, h2, h3⟩)
  (fun u W' ⟨v, hu, hW⟩ => by subst hu; subst hW; exact hr v)
theorem Zpcx {v : Value} {xs : List Value} {T : TypeId} {L : Sl} :
  Go c n ((d, v) :: L) (.sl v xs T :: W) (wpList P #[] (fun e a w => e = .normal ∧ ∃ v, SatA n ((d, v) :: L) a ∧ SatW c ((fun v => [.sl v xs T]) v ++ W) w) []) :=
 fun _ _ ha hw => wpList_nil ⟨rfl, v, ha, hw⟩
theorem two {p : Nat → Prop} {i j : Nat} (h1 : p i) (h2 : p j) : ∀ k ∈ [i, j], p k := by
 intro k hk
 rcases List.mem_cons.1 hk with rfl | hk
 ·exact h1
 ·have := List.mem_singleton.1 hk
  subst this; exact h2
theorem Zpbb {v v' : Value} {T T' : TypeId} {j d' : Nat} {o' : Oper} (ho : os[i]? = some o) (ho' : os[j]? = some o') (h : OpB P c n W (fun b => [.blk b v T]) d (restr os.toArray o l) (noG o)) (h' : OpB P c n W (fun b => [.blk b v' T']) d' (restr os.toArray o' l) (noG o'))
  (hr : ∀ b, QF P c n os K (E ++ [(i, .alc)]) (.blk b v T :: W) ((d, pt b 0) :: l) (j :: rest)) (hr' : ∀ b, QF P c n os K (E ++ [(j, .alc)]) (.blk b v' T' :: W) ((d', pt b 0) :: l) (i :: rest))
  (hij : Nat.beq i j = false := by rfl) (hi : newP i E = true := by rfl) (hi' : newP j E = true := by rfl) (hd : o.dst = some d := by rfl) (hd' : o'.dst = some d' := by rfl) (hn : Nat.blt d n = true := by rfl) (hn' : Nat.blt d' n = true := by rfl)
  (hg : gSays os.toArray l o = some true := by rfl) (hg' : gSays os.toArray l o' = some true := by rfl)
  (hc : chkP os (E ++ [(i, .alc)]) = true := by rfl) (hc' : chkP os (E ++ [(j, .alc)]) = true := by rfl) (hdesc : descP os [i, j] rest E = true := by rfl) : QF P c n os K E W l (i :: j :: rest) := by
 have hne : ¬ j = i := fun h => by subst h; rw [Nat.beq_refl] at hij; cases hij
 refine QF.nd (is := [i, j]) (nx := fun k => [i, j].erase k ++ rest) (o := fun k => if k = i then o else o') (Φ := fun k u W' => if k = i then ∃ b, u = some (d, pt b 0) ∧ W' = .blk b v T :: W else ∃ b, u = some (d', pt b 0) ∧ W' = .blk b v' T' :: W)
  (kd := fun _ => .alc) (by simp) (two hi hi') (two ?_ ?_) (two hc hc') hdesc (two ?_ ?_) (two ?_ ?_) (two ?_ ?_) (two ?_ ?_)
 ·simp only [if_true]; exact ho
 ·simp only [if_neg hne]; exact ho'
 ·simp only [if_true]
  intro u W' ⟨b, hu, hW⟩; subst hu; exact ⟨hd, fun q hq => by rw [hd] at hq; cases hq; exact hn, .inr ⟨by trivial, [_], hW⟩⟩
 ·simp only [if_neg hne]
  intro u W' ⟨b, hu, hW⟩; subst hu; exact ⟨hd', fun q hq => by rw [hd'] at hq; cases hq; exact hn', .inr ⟨by trivial, [_], hW⟩⟩
 ·simp only [if_true]; exact hg
 ·simp only [if_neg hne]; exact hg'
 ·simp only [if_true]
  exact fun w0 m hw a w ha hw' => single_mono (h w0 m hw a w ha hw') rfl (fun _ _ _ h => h.1) fun a w ⟨h1, b, h2, h3⟩ => ⟨h1, some (d, pt b 0), _, ⟨b, rfl, rfl⟩, h2, h3⟩
 ·simp only [if_neg hne]
  exact fun w0 m hw a w ha hw' => single_mono (h' w0 m hw a w ha hw') rfl (fun _ _ _ h => h.1) fun a w ⟨h1, b, h2, h3⟩ => ⟨h1, some (d', pt b 0), _, ⟨b, rfl, rfl⟩, h2, h3⟩
 ·simp only [if_true]
  intro u W' ⟨b, hu, hW⟩; subst hu; subst hW
  have := hr b
  rwa [List.erase_cons_head]
 ·simp only [if_neg hne]
  intro u W' ⟨b, hu, hW⟩; subst hu; subst hW
  have := hr' b
  rw [List.erase_cons_tail (by simpa using fun h => hne h.symm), List.erase_cons_head]
  exact this
theorem Zpcb {xs : List Value} {v' : Value} {T T' : TypeId} (n1 n2 : List Nat) {j d' : Nat} {o' : Oper} (ho : os[i]? = some o) (ho' : os[j]? = some o') (h : OpC P c n W (fun v => [.sl v xs T]) d (restr os.toArray o l) (noG o)) (h' : OpB P c n W (fun b => [.blk b v' T']) d' (restr os.toArray o' l) (noG o'))
  (hr : ∀ v, QF P c n os K (E ++ [(i, .alc)]) (.sl v xs T :: W) ((d, v) :: l) n1) (hr' : ∀ b, QF P c n os K (E ++ [(j, .alc)]) (.blk b v' T' :: W) ((d', pt b 0) :: l) n2)
  (hij : Nat.beq i j = false := by rfl) (hi : newP i E = true := by rfl) (hi' : newP j E = true := by rfl) (hd : o.dst = some d := by rfl) (hd' : o'.dst = some d' := by rfl) (hn : Nat.blt d n = true := by rfl) (hn' : Nat.blt d' n = true := by rfl)
  (hg : gSays os.toArray l o = some true := by rfl) (hg' : gSays os.toArray l o' = some true := by rfl)
  (hc : chkP os (E ++ [(i, .alc)]) = true := by rfl) (hc' : chkP os (E ++ [(j, .alc)]) = true := by rfl) (hdesc : descP os [i, j] rest E = true := by rfl) : QF P c n os K E W l (i :: j :: rest) := by
 have hne : ¬ j = i := fun h => by subst h; rw [Nat.beq_refl] at hij; cases hij
 refine QF.nd (is := [i, j]) (nx := fun k => if k = i then n1 else n2) (o := fun k => if k = i then o else o') (Φ := fun k u W' => if k = i then ∃ v, u = some (d, v) ∧ W' = .sl v xs T :: W else ∃ b, u = some (d', pt b 0) ∧ W' = .blk b v' T' :: W)
  (kd := fun _ => .alc) (by simp) (two hi hi') (two ?_ ?_) (two hc hc') hdesc (two ?_ ?_) (two ?_ ?_) (two ?_ ?_) (two ?_ ?_)
 ·simp only [if_true]; exact ho
 ·simp only [if_neg hne]; exact ho'
 ·simp only [if_true]
  intro u W' ⟨b, hu, hW⟩; subst hu; exact ⟨hd, fun q hq => by rw [hd] at hq; cases hq; exact hn, .inr ⟨by trivial, [_], hW⟩⟩
 ·simp only [if_neg hne]
  intro u W' ⟨b, hu, hW⟩; subst hu; exact ⟨hd', fun q hq => by rw [hd'] at hq; cases hq; exact hn', .inr ⟨by trivial, [_], hW⟩⟩
 ·simp only [if_true]; exact hg
 ·simp only [if_neg hne]; exact hg'
 ·simp only [if_true]
  exact fun w0 m hw a w ha hw' => single_mono (h w0 m hw a w ha hw') rfl (fun _ _ _ h => h.1) fun a w ⟨h1, b, h2, h3⟩ => ⟨h1, some (d, b), _, ⟨b, rfl, rfl⟩, h2, h3⟩
 ·simp only [if_neg hne]
  exact fun w0 m hw a w ha hw' => single_mono (h' w0 m hw a w ha hw') rfl (fun _ _ _ h => h.1) fun a w ⟨h1, b, h2, h3⟩ => ⟨h1, some (d', pt b 0), _, ⟨b, rfl, rfl⟩, h2, h3⟩
 ·simp only [if_true]
  intro u W' ⟨b, hu, hW⟩; subst hu; subst hW
  have := hr b
  exact this
 ·simp only [if_neg hne]
  intro u W' ⟨b, hu, hW⟩; subst hu; subst hW
  have := hr' b
  exact this
theorem Zps {W' : List Res} (ho : os[i]? = some o) (h : OpV P c n W W' (restr os.toArray o l) (noG o) none) (hr : QF P c n os K (E ++ [(i, .eff)]) W' l rest)
  (hi : newP i E = true := by rfl) (hd : o.dst = none := by rfl) (hg : gSays os.toArray l o = some true := by rfl)
  (hc : chkP os (E ++ [(i, .eff)]) = true := by rfl) (hdesc : descP os [i] rest E = true := by rfl) : QF P c n os K E W l (i :: rest) :=
 nd1 .eff (Φ := fun u V => u = none ∧ V = W') ho hi hc hdesc (fun u V ⟨hu, _⟩ => by subst hu; exact ⟨hd, (fun d' hd' => by rw [hd] at hd'; cases hd'), .inl rfl⟩) hg
  (fun w0 m hw a w ha hw' => single_mono (h w0 m hw a w ha hw') rfl (fun _ _ _ h => h.1) fun a w ⟨h1, h2, h3⟩ => ⟨h1, none, W', ⟨rfl, rfl⟩, h2, h3⟩)
  (fun u V ⟨hu, hV⟩ => by subst hu; subst hV; exact hr)
theorem Zple {v : Value} (ho : os[i]? = some o) (h : OpV P c n W W (restr os.toArray o l) (noG o) (some (d, v))) (hr : QF P c n os K (E ++ [(i, .alc)]) W ((d, v) :: l) rest)
  (hi : newP i E = true := by rfl) (hd : o.dst = some d := by rfl) (hn : Nat.blt d n = true := by rfl) (hg : gSays os.toArray l o = some true := by rfl)
  (hc : chkP os (E ++ [(i, .alc)]) = true := by rfl) (hdesc : descP os [i] rest E = true := by rfl) : QF P c n os K E W l (i :: rest) :=
 nd1 .alc (Φ := fun u V => u = some (d, v) ∧ V = W) ho hi hc hdesc (fun u V ⟨hu, hV⟩ => by subst hu; exact ⟨hd, (fun d' hd' => by rw [hd] at hd'; cases hd'; exact hn), .inr ⟨rfl, [], hV⟩⟩) hg
  (fun w0 m hw a w ha hw' => single_mono (h w0 m hw a w ha hw') rfl (fun _ _ _ h => h.1) fun a w ⟨h1, h2, h3⟩ => ⟨h1, some (d, v), W, ⟨rfl, rfl⟩, h2, h3⟩)
  (fun u V ⟨hu, hV⟩ => by subst hu; subst hV; exact hr)
theorem Zpls {v : Value} {W2 : List Res} (n1 n2 : List Nat) {j : Nat} {o' : Oper} (ho : os[i]? = some o) (ho' : os[j]? = some o') (h : OpV P c n W W (restr os.toArray o l) (noG o) (some (d, v))) (h' : OpV P c n W W2 (restr os.toArray o' l) (noG o') none)
  (hr : QF P c n os K (E ++ [(i, .alc)]) W ((d, v) :: l) n1) (hr' : QF P c n os K (E ++ [(j, .eff)]) W2 l n2)
  (hij : Nat.beq i j = false := by rfl) (hi : newP i E = true := by rfl) (hi' : newP j E = true := by rfl) (hd : o.dst = some d := by rfl) (hn : Nat.blt d n = true := by rfl) (hd' : o'.dst = none := by rfl)
  (hg : gSays os.toArray l o = some true := by rfl) (hg' : gSays os.toArray l o' = some true := by rfl)
  (hc : chkP os (E ++ [(i, .alc)]) = true := by rfl) (hc' : chkP os (E ++ [(j, .eff)]) = true := by rfl) (hdesc : descP os [i, j] rest E = true := by rfl) : QF P c n os K E W l (i :: j :: rest) := by
 have hne : ¬ j = i := fun h => by subst h; rw [Nat.beq_refl] at hij; cases hij
 refine QF.nd (is := [i, j]) (nx := fun k => if k = i then n1 else n2) (o := fun k => if k = i then o else o') (Φ := fun k u V => if k = i then u = some (d, v) ∧ V = W else u = none ∧ V = W2)
  (kd := fun k => if k = i then .alc else .eff) (by simp) (two hi hi') (two ?_ ?_) (two ?_ ?_) hdesc (two ?_ ?_) (two ?_ ?_) (two ?_ ?_) (two ?_ ?_)
 ·simp only [if_true]; exact ho
 ·simp only [if_neg hne]; exact ho'
 ·simp only [if_true]; exact hc
 ·simp only [if_neg hne]; exact hc'
 ·simp only [if_true]
  intro u V ⟨hu, hV⟩; subst hu; exact ⟨hd, (fun q hq => by rw [hd] at hq; cases hq; exact hn), .inr ⟨trivial, [], hV⟩⟩
 ·simp only [if_neg hne]
  intro u V ⟨hu, _⟩; subst hu; exact ⟨hd', (fun q hq => by rw [hd'] at hq; cases hq), .inl trivial⟩
 ·simp only [if_true]; exact hg
 ·simp only [if_neg hne]; exact hg'
 ·simp only [if_true]
  exact fun w0 m hw a w ha hw' => single_mono (h w0 m hw a w ha hw') rfl (fun _ _ _ h => h.1) fun a w ⟨h1, h2, h3⟩ => ⟨h1, some (d, v), W, ⟨rfl, rfl⟩, h2, h3⟩
 ·simp only [if_neg hne]
  exact fun w0 m hw a w ha hw' => single_mono (h' w0 m hw a w ha hw') rfl (fun _ _ _ h => h.1) fun a w ⟨h1, h2, h3⟩ => ⟨h1, none, W2, ⟨rfl, rfl⟩, h2, h3⟩
 ·simp only [if_true]
  intro u V ⟨hu, hV⟩; subst hu; subst hV
  exact hr
 ·simp only [if_neg hne]
  intro u V ⟨hu, hV⟩; subst hu; subst hV
  exact hr'
theorem Zp0 (hk : Go c n l W K) (hc : chkP os E = true := by rfl) (hf : fullP os E = true := by rfl) : QF P c n os K E W l [] := QF.fin hc hf hk
end
end Go.Proofs.YtbpmbdlgmmabcaaGreat.L.R
namespace Go.Proofs.YtbpmbdlgmmabcaaGreat.L.R
open Go Go.Proofs
section
variable {P : Program} {c : Cx} {n : Nat} {os : List Oper} {K : Act → World → Prop} {E : En} {W : List Res} {l : Sl} {i d : Nat} {o : Oper} {rest : List Nat}
theorem Zpcc {xs xs' : List Value} {T T' : TypeId} (n1 n2 : List Nat) {j d' : Nat} {o' : Oper} (ho : os[i]? = some o) (ho' : os[j]? = some o') (h : OpC P c n W (fun v => [.sl v xs T]) d (restr os.toArray o l) (noG o)) (h' : OpC P c n W (fun v => [.sl v xs' T']) d' (restr os.toArray o' l) (noG o'))
  (hr : ∀ v, QF P c n os K (E ++ [(i, .alc)]) (.sl v xs T :: W) ((d, v) :: l) n1) (hr' : ∀ v, QF P c n os K (E ++ [(j, .alc)]) (.sl v xs' T' :: W) ((d', v) :: l) n2)
  (hij : Nat.beq i j = false := by rfl) (hi : newP i E = true := by rfl) (hi' : newP j E = true := by rfl) (hd : o.dst = some d := by rfl) (hd' : o'.dst = some d' := by rfl) (hn : Nat.blt d n = true := by rfl) (hn' : Nat.blt d' n = true := by rfl)
  (hg : gSays os.toArray l o = some true := by rfl) (hg' : gSays os.toArray l o' = some true := by rfl)
  (hc : chkP os (E ++ [(i, .alc)]) = true := by rfl) (hc' : chkP os (E ++ [(j, .alc)]) = true := by rfl) (hdesc : descP os [i, j] rest E = true := by rfl) : QF P c n os K E W l (i :: j :: rest) := by
 have hne : ¬ j = i := fun h => by subst h; rw [Nat.beq_refl] at hij; cases hij
 refine QF.nd (is := [i, j]) (nx := fun k => if k = i then n1 else n2) (o := fun k => if k = i then o else o') (Φ := fun k u W' => if k = i then ∃ v, u = some (d, v) ∧ W' = .sl v xs T :: W else ∃ v, u = some (d', v) ∧ W' = .sl v xs' T' :: W)
  (kd := fun _ => .alc) (by simp) (two hi hi') (two ?_ ?_) (two hc hc') hdesc (two ?_ ?_) (two ?_ ?_) (two ?_ ?_) (two ?_ ?_)
 ·simp only [if_true]; exact ho
 ·simp only [if_neg hne]; exact ho'
 ·simp only [if_true]
  intro u W' ⟨b, hu, hW⟩; subst hu; exact ⟨hd, fun q hq => by rw [hd] at hq; cases hq; exact hn, .inr ⟨by trivial, [_], hW⟩⟩
 ·simp only [if_neg hne]
  intro u W' ⟨b, hu, hW⟩; subst hu; exact ⟨hd', fun q hq => by rw [hd'] at hq; cases hq; exact hn', .inr ⟨by trivial, [_], hW⟩⟩
 ·simp only [if_true]; exact hg
 ·simp only [if_neg hne]; exact hg'
 ·simp only [if_true]
  exact fun w0 m hw a w ha hw' => single_mono (h w0 m hw a w ha hw') rfl (fun _ _ _ h => h.1) fun a w ⟨h1, b, h2, h3⟩ => ⟨h1, some (d, b), _, ⟨b, rfl, rfl⟩, h2, h3⟩
 ·simp only [if_neg hne]
  exact fun w0 m hw a w ha hw' => single_mono (h' w0 m hw a w ha hw') rfl (fun _ _ _ h => h.1) fun a w ⟨h1, b, h2, h3⟩ => ⟨h1, some (d', b), _, ⟨b, rfl, rfl⟩, h2, h3⟩
 ·simp only [if_true]
  intro u W' ⟨b, hu, hW⟩; subst hu; subst hW
  exact hr b
 ·simp only [if_neg hne]
  intro u W' ⟨b, hu, hW⟩; subst hu; subst hW
  exact hr' b
end
end Go.Proofs.YtbpmbdlgmmabcaaGreat.L.R
namespace Go.Proofs.YtbpmbdlgmmabcaaGreat.L
open Go
theorem fill_seqP : ∀ (parts : List (Nat × Value)) (i : Nat) (done z : List Value), (∀ j p, parts[j]? = some p → p.1 = i + j ∧ p.2.oneCell' = true) → done.length = i → parts.length ≤ z.length →
  Instr.fill (fun i => some (i * 1, 1)) (done ++ z).toArray parts = some (done ++ parts.map (·.2) ++ z.drop parts.length).toArray
 | [], i, done, z, _, _, _ => by simp [Instr.fill]
 | (q, v) :: r, i, done, z, hp, hd, hl => by
  obtain ⟨h1, h2⟩ := hp 0 (q, v) rfl
  simp only [Nat.add_zero] at h1 h2
  subst h1
  cases z with
  | nil => simp at hl
  | cons z0 zr =>
   have hc := cells1 h2
   have ih := fill_seqP r (q + 1) (done ++ [v]) zr (fun j p hj => by
    have := hp (j + 1) p (by simpa using hj)
    exact ⟨by omega, this.2⟩) (by simp [hd]) (by simpa using hl)
   have hset : (done ++ z0 :: zr).set q v = done ++ [v] ++ zr := by
    subst hd
    rw [List.set_append_right _ _ (by omega)]; simp
   simp only [Instr.fill, Nat.mul_one, hc]
   rw [if_neg (by simp; omega)]
   have hzi : (#[v].zipIdx) = #[(v, 0)] := by simp
   simp only [hzi]
   simp only [List.size_toArray, List.length_cons, List.length_nil, List.foldl_toArray', List.foldl_cons, List.foldl_nil, Nat.add_zero, List.setIfInBounds_toArray, hset]
   simp only [Nat.mul_one] at ih
   simpa using ih
section
variable {P : Program} {c : Cx} {n : Nat} {l : Sl} {W : List Res} {ops : Array Oper} {Q : Exit → Act → World → Prop} {rest : List Oper}
variable {d : Nat} {T : TypeId} {pos : String} {after : Array Edge}
theorem st_buildP {t E : TypeId} {m : Nat} {ps : List (Nat × Operand)} {kk : IntKind} {vs : List Nat} (ht : P.underlying t = some (.array m E)) (hz : zrOf P t = some (LV kk (List.replicate m 0))) (hs : szOf P E = some 1)
  (hq : Seq 0 ps = true) (hl : ps.length = vs.length) (hm : Nat.ble vs.length m = true) (hv : evs l (ps.map (·.2)) = some (vs.map (N kk))) (hn : Nat.blt d n = true)
  (hk : Go c n ((d, LV kk (vs ++ List.replicate (m - vs.length) 0)) :: l) W (wpList P ops Q rest)) :
  Go c n l W (wpList P ops Q (⟨some d, .build t ps.toArray, T, pos, after, none⟩ :: rest)) :=
 st_val rfl rfl hn (fun a w ha hw => by
   have hm' := Nat.le_of_ble_eq_true hm
   obtain ⟨g1, g2⟩ := parts_ok ha hq hv (by simp [Value.oneCell'])
   have hfill := fill_seqP (ps.map fun (i, x) => (i, a.eval x)) 0 [] ((List.replicate m 0).map (N kk)) (fun j p hj => by have := g2 j p hj; exact ⟨by omega, this.2⟩) rfl (by simp; omega)
   rw [g1] at hfill
   simp only [List.nil_append, Nat.mul_one, List.length_map, hl] at hfill
   have e : (vs.map (N kk) ++ List.drop vs.length ((List.replicate m 0).map (N kk))).toArray = ((vs ++ List.replicate (m - vs.length) 0).map (N kk)).toArray := by
    rw [← List.map_drop, List.drop_replicate, List.map_append]
   rw [e] at hfill
   simp only [execOp, Instr.build, Sem.run_bind, run_underlying ht, run_zero hz, run_sizeOf hs, Result.andThen_ok, List.map_toArray, Value.cells, LV, Nat.mul_one, hfill]
   rfl) hk
theorem st_endc2_LV {fn : Func} {R : Ending → World → Prop} {t u : Tmp} {b m : Nat} {T U : TypeId} {k : IntKind} {ys : List Nat} {v : Value} {R0 : List Res}
  (hres : fn.results = #[.cell t T, .tmp u]) (hv : lk l t = some (pt b 0)) (hu : lk l u = some v) (hf : Find W (.blk b (LV k ys) U) R0) (hs : aggT P T = true) (hz : szOf P T = some m) (hl : ys.length = m)
  (hR : ∀ w, SatW c W w → R (.returned (.tuple #[LV k ys, v])) w) : Go c n l W (bodyPost P fn R .ret) :=
 st_endc2 hres hv hu hf hs (by subst hl; simpa using hz) hR
end
end Go.Proofs.YtbpmbdlgmmabcaaGreat.L
namespace Go.Proofs.YtbpmbdlgmmabcaaGreat.L
open Go Go.Proofs
def PartAt {α : Type} (ys : List α) (off m : Nat) (zs : List α) : Prop := ∃ pre post, ys = pre ++ zs ++ post ∧ pre.length = off ∧ zs.length = m
theorem PartAt.l {α : Type} {xs ys : List α} {m : Nat} (h : xs.length = m) : PartAt (xs ++ ys) 0 m xs := ⟨[], ys, rfl, rfl, h⟩
theorem PartAt.r {α : Type} {xs ys : List α} {off m : Nat} (h : xs.length = off) (h2 : ys.length = m) : PartAt (xs ++ ys) off m ys := ⟨xs, [], by simp, h, h2⟩
theorem PartAt.all {α : Type} {xs : List α} {m : Nat} (h : xs.length = m) : PartAt xs 0 m xs := ⟨[], [], by simp, rfl, h⟩
theorem PartAt.inl {α : Type} {xs ys zs : List α} {off m : Nat} (h : PartAt xs off m zs) : PartAt (xs ++ ys) off m zs := by
 obtain ⟨p, q, rfl, h1, h2⟩ := h
 exact ⟨p, q ++ ys, by simp, h1, h2⟩
theorem PartAt.inr {α : Type} {xs ys zs : List α} {off m : Nat} (h : PartAt ys off m zs) : PartAt (xs ++ ys) (xs.length + off) m zs := by
 obtain ⟨p, q, rfl, h1, h2⟩ := h
 exact ⟨xs ++ p, q, by simp, by simp [h1], h2⟩
theorem PartAt.map {α β : Type} {ys zs : List α} {off m : Nat} (f : α → β) (h : PartAt ys off m zs) : PartAt (ys.map f) off m (zs.map f) := by
 obtain ⟨p, q, rfl, h1, h2⟩ := h
 exact ⟨p.map f, q.map f, by simp, by simp [h1], by simp [h2]⟩
theorem PartAt.get {α : Type} {ys zs : List α} {off m : Nat} (h : PartAt ys off m zs) : ∀ j v, zs[j]? = some v → ys[off + j]? = some v := by
 obtain ⟨p, q, rfl, rfl, rfl⟩ := h
 intro j v hj
 rw [List.append_assoc, List.getElem?_append_right (by omega), Nat.add_sub_cancel_left]
 have hl : j < zs.length := (List.getElem?_eq_some_iff.1 hj).1
 rw [List.getElem?_append_left hl]; exact hj
theorem PartAt.ext {α : Type} {ys zs : List α} {off m : Nat} (h : PartAt ys off m zs) : (ys.toArray.extract off (off + m)) = zs.toArray := by
 obtain ⟨p, q, rfl, rfl, rfl⟩ := h
 simp
def fldOf (P : Program) (T : TypeId) (i : Nat) : Option (Nat × Nat) := match P.underlying T with
 | some (.struct fs) => match fs[i]? with
  | some f => match szOf P f.type with
   | some s => some (f.offset, s)
   | none => none
  | none => none
 | _ => none
theorem fldOf_spec {P : Program} {T : TypeId} {i o s : Nat} (h : fldOf P T i = some (o, s)) : ∃ fs f, P.underlying T = some (.struct fs) ∧ fs[i]? = some f ∧ f.offset = o ∧ szOf P f.type = some s := by
 unfold fldOf at h
 split at h
 ·rename_i fs h1
  split at h
  ·rename_i f h2
   split at h
   ·rename_i s' h3
    simp at h
    exact ⟨fs, f, h1, h2, h.1, by rw [h3, h.2]⟩
   ·cases h
  ·cases h
 ·cases h
theorem fold_seg (off : Nat) : ∀ (vs old : List Value) (s : Nat) (pre post : List Value), old.length = vs.length → pre.length = off + s →
  (vs.zipIdx s).foldl (fun (cs : Array Value) (x : Value × Nat) => cs.setIfInBounds (off + x.2) x.1) (pre ++ old ++ post).toArray = (pre ++ vs ++ post).toArray
 | [], [], s, pre, post, _, _ => by simp
 | v :: vs, o :: old, s, pre, post, hl, hp => by
  simp only [List.zipIdx_cons, List.foldl_cons]
  have e : ((pre ++ o :: old ++ post).toArray.setIfInBounds (off + s) v) = ((pre ++ [v]) ++ old ++ post).toArray := by
   rw [← hp]
   simp [List.setIfInBounds_toArray]
  rw [e, fold_seg off vs old (s + 1) (pre ++ [v]) post (by simpa using hl) (by simp; omega)]
  simp
 | [], _ :: _, _, _, _, hl, _ => by simp at hl
 | _ :: _, [], _, _, _, hl, _ => by simp at hl
theorem fill_cons {place : Nat → Option (Nat × Nat)} {i : Nat} {v : Value} {rest : List (Nat × Value)} {pre old post : List Value} (hp : place i = some (pre.length, old.length)) (hv : v.cells.size = old.length) :
  Instr.fill place (pre ++ old ++ post).toArray ((i, v) :: rest) = Instr.fill place (pre ++ v.cells.toList ++ post).toArray rest := by
 simp only [Instr.fill, hp]
 rw [if_neg (by simp [hv])]
 congr 1
 have := fold_seg pre.length v.cells.toList old 0 pre post (by simp [hv]) rfl
 rw [← this, ← Array.foldl_toList, Array.toList_zipIdx]
section
variable {P : Program} {c : Cx} {n : Nat} {l : Sl} {W : List Res} {ops : Array Oper} {Q : Exit → Act → World → Prop} {rest : List Oper}
variable {d : Nat} {T : TypeId} {pos : String} {after : Array Edge}
theorem st_fld {x : Operand} {b off o s i : Nat} {t : TypeId} (hx : ev l x = some (pt b off)) (hf : fldOf P t i = some (o, s)) (hs : Nat.blt 0 s = true) (hn : Nat.blt d n = true)
  (hk : Go c n ((d, pt b (off + o)) :: l) W (wpList P ops Q rest)) : Go c n l W (wpList P ops Q (⟨some d, .fieldAddr t x i, T, pos, after, none⟩ :: rest)) :=
 st_val rfl rfl hn (fun a w ha hw => by
  obtain ⟨fs, f, h1, h2, rfl, h4⟩ := fldOf_spec hf
  have hs0 : ¬ s = 0 := by have := Nat.le_of_ble_eq_true hs; omega
  simp [execOp, ha.ev hx, Instr.fieldAt, Instr.sureAddr, run_underlying h1, h2, fieldPlace, run_sizeOf h4, hs0, pt, Addr.add]) hk
theorem st_ldp {x : Operand} {b off m : Nat} {k : IntKind} {ys zs : List Nat} {E U : TypeId} {R : List Res} (hx : ev l x = some (pt b off)) (hf : Find W (.blk b (LV k ys) U) R) (hs : aggT P E = true) (hz : szOf P E = some m)
  (hp : PartAt ys off m zs) (hn : Nat.blt d n = true)
  (hk : Go c n ((d, LV k zs) :: l) W (wpList P ops Q rest)) : Go c n l W (wpList P ops Q (⟨some d, .load E x, T, pos, after, none⟩ :: rest)) :=
 st_val rfl rfl hn (fun a w ha hw => by
  have hh : w.heap[b]? = some (.cells (ys.map (N k)).toArray U (0, 0)) := hw.holds _ hf.mem
  have hl : zs.length = m := by obtain ⟨_, _, _, _, h⟩ := hp; exact h
  have := run_loadVar_a (P := P) (w := w) (b := b) (off := off) (cs := zs.map (N k)) hs (by simpa [hl] using hz) hh (fun j v hv => by
   have := (hp.map (N k)).get j v hv
   simpa using this)
  simp [execOp, ha.ev hx, Instr.loadAt, Instr.sureAddr, this, LV]) hk
def plOf (P : Program) : List Field → Option (List (Nat × Nat))
 | [] => some []
 | f :: fs => match szOf P f.type, plOf P fs with
  | some s, some r => some ((f.offset, s) :: r)
  | _, _ => none
def plF (f : Field) : Sem (Nat × Nat) := do pure (f.offset, ← sizeOf f.type)
theorem run_pl {w : World} : ∀ {fs : List Field} {pl : List (Nat × Nat)}, plOf P fs = some pl → (fs.mapM plF).run P w = .ok pl w
 | [], pl, h => by simp [plOf] at h; subst h; simp
 | f :: fs, pl, h => by
  simp only [plOf] at h
  split at h
  ·rename_i s r h1 h2
   simp at h; subst h
   simp [List.mapM_cons, plF, run_sizeOf h1, run_pl h2]
  ·cases h
theorem run_plA {w : World} {fs : Array Field} {pl : List (Nat × Nat)} (h : plOf P fs.toList = some pl) : (fs.mapM plF).run P w = .ok pl.toArray w := by
 rw [Array.mapM_eq_mapM_toList]
 simp [run_pl h]
inductive FillsN (pl : List (Nat × Nat)) : List Nat → List (Nat × List Nat) → List Nat → Prop
 | nil {ys : List Nat} : FillsN pl ys [] ys
 | cons {pre old post zs out : List Nat} {i : Nat} {rest : List (Nat × List Nat)} (hp : pl[i]? = some (pre.length, old.length)) (hz : zs.length = old.length) (h : FillsN pl (pre ++ zs ++ post) rest out) :
   FillsN pl (pre ++ old ++ post) ((i, zs) :: rest) out
theorem fillsN {pl : List (Nat × Nat)} {k : IntKind} {ys out : List Nat} {ps : List (Nat × List Nat)} (h : FillsN pl ys ps out) :
  Instr.fill (pl.toArray[·]?) (ys.map (N k)).toArray (ps.map fun p => (p.1, LV k p.2)) = some (out.map (N k)).toArray := by
 induction h with
 | nil => rfl
 | cons hp hz h ih =>
  rename_i pre old post zs out i rest
  have e := fill_cons (place := (pl.toArray[·]?)) (i := i) (v := LV k zs) (rest := rest.map fun p => (p.1, LV k p.2)) (pre := pre.map (N k)) (old := old.map (N k)) (post := post.map (N k)) (by simpa using hp) (by simpa [LV, Value.cells] using hz)
  simp only [List.map_append, List.map_cons] at ih ⊢
  rw [e]
  simpa [LV, Value.cells] using ih
theorem st_buildS {t : TypeId} {fs : Array Field} {pl : List (Nat × Nat)} {k : IntKind} {z out : List Nat} {is : List Nat} {xs : List Operand} {vs : List (List Nat)} (ht : P.underlying t = some (.struct fs)) (hpl : plOf P fs.toList = some pl) (hz : zrOf P t = some (LV k z))
  (hv : evs l xs = some (vs.map (LV k))) (hf : FillsN pl z (is.zip vs) out) (hn : Nat.blt d n = true)
  (hk : Go c n ((d, LV k out) :: l) W (wpList P ops Q rest)) : Go c n l W (wpList P ops Q (⟨some d, .build t (is.zip xs).toArray, T, pos, after, none⟩ :: rest)) :=
 st_val rfl rfl hn (fun a w ha hw => by
  have he : ((is.zip xs).map fun (p : Nat × Operand) => (p.1, a.eval p.2)) = (is.zip vs).map fun p => (p.1, LV k p.2) := by
   have h1 : xs.map a.eval = vs.map (LV k) := ha.evs hv
   have h2 : (is.zip xs).map (fun (p : Nat × Operand) => (p.1, a.eval p.2)) = is.zip (xs.map a.eval) := by rw [List.zip_map_right]; rfl
   have h3 : (is.zip vs).map (fun (p : Nat × List Nat) => (p.1, LV k p.2)) = is.zip (vs.map (LV k)) := by rw [List.zip_map_right]; rfl
   rw [h2, h1, h3]
  have hpp : (fs.mapM fun (f : Field) => (do let s ← sizeOf f.type; pure (f.offset, s) : Sem (Nat × Nat))).run P w = .ok pl.toArray w := run_plA hpl
  have hff := fillsN (k := k) hf
  rw [← he] at hff
  simp only [execOp, Instr.build, Sem.run_bind, run_underlying ht, run_zero hz, hpp, Result.andThen_ok, List.map_toArray, Value.cells, LV]
  rw [hff]
  rfl) hk
theorem st_build2 {t : TypeId} {fs : Array Field} {m : Nat} {k : IntKind} {xs ys : List Nat} {x y : Operand} (ht : P.underlying t = some (.struct fs)) (hpl : plOf P fs.toList = some [(0, m), (m, m)]) (hz : zrOf P t = some (LV k (List.replicate (m + m) 0)))
  (hv : evs l [x, y] = some [LV k xs, LV k ys]) (h1 : xs.length = m) (h2 : ys.length = m) (hn : Nat.blt d n = true)
  (hk : Go c n ((d, LV k (xs ++ ys)) :: l) W (wpList P ops Q rest)) : Go c n l W (wpList P ops Q (⟨some d, .build t #[(0, x), (1, y)], T, pos, after, none⟩ :: rest)) :=
 st_buildS (is := [0, 1]) (xs := [x, y]) (vs := [xs, ys]) ht hpl hz hv (by
  have e : List.replicate (m + m) 0 = [] ++ List.replicate m 0 ++ List.replicate m 0 := by rw [List.nil_append, List.replicate_append_replicate]
  rw [e]
  refine .cons (by simp) (by simpa using h1) ?_
  rw [List.nil_append, ← List.append_nil (xs ++ List.replicate m 0)]
  refine .cons (by simp [h1]) (by simpa using h2) ?_
  rw [List.append_nil]; exact .nil) hn hk
theorem st_build2a {t : TypeId} {fs : Array Field} {m : Nat} {k : IntKind} {xs : List Nat} {x : Operand} (ht : P.underlying t = some (.struct fs)) (hpl : plOf P fs.toList = some [(0, m), (m, m)]) (hz : zrOf P t = some (LV k (List.replicate (m + m) 0)))
  (hv : evs l [x] = some [LV k xs]) (h1 : xs.length = m) (hn : Nat.blt d n = true)
  (hk : Go c n ((d, LV k (xs ++ List.replicate m 0)) :: l) W (wpList P ops Q rest)) : Go c n l W (wpList P ops Q (⟨some d, .build t #[(0, x)], T, pos, after, none⟩ :: rest)) :=
 st_buildS (is := [0]) (xs := [x]) (vs := [xs]) ht hpl hz hv (by
  have e : List.replicate (m + m) 0 = [] ++ List.replicate m 0 ++ List.replicate m 0 := by rw [List.nil_append, List.replicate_append_replicate]
  rw [e]
  refine .cons (by simp) (by simpa using h1) ?_
  exact .nil) hn hk
theorem st_build2b {t : TypeId} {fs : Array Field} {m : Nat} {k : IntKind} {ys : List Nat} {y : Operand} (ht : P.underlying t = some (.struct fs)) (hpl : plOf P fs.toList = some [(0, m), (m, m)]) (hz : zrOf P t = some (LV k (List.replicate (m + m) 0)))
  (hv : evs l [y] = some [LV k ys]) (h1 : ys.length = m) (hn : Nat.blt d n = true)
  (hk : Go c n ((d, LV k (List.replicate m 0 ++ ys)) :: l) W (wpList P ops Q rest)) : Go c n l W (wpList P ops Q (⟨some d, .build t #[(1, y)], T, pos, after, none⟩ :: rest)) :=
 st_buildS (is := [1]) (xs := [y]) (vs := [ys]) ht hpl hz hv (by
  have e : List.replicate (m + m) 0 = List.replicate m 0 ++ List.replicate m 0 ++ [] := by rw [List.append_nil, List.replicate_append_replicate]
  rw [e]
  refine .cons (by simp) (by simpa using h1) ?_
  rw [List.append_nil]; exact .nil) hn hk
theorem st_build20 {t : TypeId} {fs : Array Field} {pl : List (Nat × Nat)} {k : IntKind} {z : List Nat} (ht : P.underlying t = some (.struct fs)) (hpl : plOf P fs.toList = some pl) (hz : zrOf P t = some (LV k z)) (hn : Nat.blt d n = true)
  (hk : Go c n ((d, LV k z) :: l) W (wpList P ops Q rest)) : Go c n l W (wpList P ops Q (⟨some d, .build t #[], T, pos, after, none⟩ :: rest)) :=
 st_buildS (is := []) (xs := []) (vs := []) ht hpl hz rfl .nil hn hk
theorem run_rec2D (D : Nat) {w : World} {t : TypeId} {f0 f1 : Field} {k : IntKind} {m : Nat} {E : TypeId} (ht : P.underlying t = some (.struct #[f0, f1])) (hst : P.stoodInHeld t = false) (hn0 : (f0.name != "_") = true) (hn1 : (f1.name != "_") = true)
  (h0 : P.underlying f0.type = some (.array m E)) (h1 : P.underlying f1.type = some (.array m E)) (hs0 : szOf P f0.type = some m) (hs1 : szOf P f1.type = some m) (ho0 : f0.offset = 0) (ho1 : f1.offset = m)
  (hE : P.underlying E = some (.int k)) (hz : szOf P E = some 1) {xs ys us vs : List Nat} (hx : xs.length = m) (hy : ys.length = m) (hu : us.length = m) (hv : vs.length = m) :
  (Op.equalIn (D + 3) t (LV k (xs ++ ys)) (LV k (us ++ vs))).run P w = .ok (decide (xs = us) && decide (ys = vs)) w := by
 have hf : P.fieldsOf t = #[f0, f1] := by unfold Program.fieldsOf; rw [ht]
 have e := run_equalIn_struct (P := P) w (D + 2) t ((xs ++ ys).map (N k)).toArray ((us ++ vs).map (N k)).toArray (by rw [hf]; exact ht) hst
 rw [hf] at e
 simp only [LV]
 rw [e]
 have a0 : aggT P f0.type = true := by unfold aggT; rw [h0]
 have a1 : aggT P f1.type = true := by unfold aggT; rw [h1]
 have p0 : ∀ (zs ts : List Nat), zs.length = m → (part f0.type ((zs ++ ts).map (N k)).toArray f0.offset).run P w = .ok (LV k zs) w := fun zs ts hz => by
  have he := ((PartAt.l (ys := ts) hz).map (N k)).ext
  rw [Nat.zero_add] at he
  simp only [part, Sem.run_bind, run_isAgg_t a0, Result.andThen_ok, if_true, run_sizeOf hs0, ho0, Nat.zero_add, he, Sem.run_pure, LV]
 have p1 : ∀ (zs ts : List Nat), zs.length = m → ts.length = m → (part f1.type ((zs ++ ts).map (N k)).toArray f1.offset).run P w = .ok (LV k ts) w := fun zs ts hz ht => by
  have he := ((PartAt.r (xs := zs) hz ht).map (N k)).ext
  simp only [part, Sem.run_bind, run_isAgg_t a1, Result.andThen_ok, if_true, run_sizeOf hs1, ho1, he, Sem.run_pure, LV]
 have q0 := run_arrEq (w := w) D h0 hE hz xs us hx hu
 have q1 := run_arrEq (w := w) D h1 hE hz ys vs hy hv
 have n0 : f0.name ≠ "_" := by simpa using hn0
 have n1 : f1.name ≠ "_" := by simpa using hn1
 simp only [Op.eqFields, if_pos n0, if_pos n1, Sem.run_bind, p0 xs ys hx, p0 us vs hu, p1 xs ys hx hy, p1 us vs hu hv, Result.andThen_ok, q0, q1, Sem.run_ite, Sem.run_pure]
 cases decide (xs = us) <;> cases decide (ys = vs) <;> rfl
theorem st_eq2 {t : TypeId} {f0 f1 : Field} {k : IntKind} {m : Nat} {E yt : TypeId} {x y : Operand} {xs ys us vs : List Nat} (hx : ev l x = some (LV k (xs ++ ys))) (hy : ev l y = some (LV k (us ++ vs))) (ht : P.underlying t = some (.struct #[f0, f1])) (hst : P.stoodInHeld t = false) (hn0 : (f0.name != "_") = true) (hn1 : (f1.name != "_") = true)
  (h0 : P.underlying f0.type = some (.array m E)) (h1 : P.underlying f1.type = some (.array m E)) (hs0 : szOf P f0.type = some m) (hs1 : szOf P f1.type = some m) (ho0 : f0.offset = 0) (ho1 : f1.offset = m)
  (hE : P.underlying E = some (.int k)) (hz : szOf P E = some 1) (hg : P.eqGuardType P.depth t = false) (l1 : xs.length = m) (l2 : ys.length = m) (l3 : us.length = m) (l4 : vs.length = m) (hn : Nat.blt d n = true)
  (hk : Go c n ((d, .bool (decide (xs = us) && decide (ys = vs))) :: l) W (wpList P ops Q rest)) : Go c n l W (wpList P ops Q (⟨some d, .binOp .eql t x y yt, T, pos, after, none⟩ :: rest)) :=
 st_val rfl rfl hn (fun a w ha _ => by
  have q1 := run_rec2D 9997 (w := w) ht hst hn0 hn1 h0 h1 hs0 hs1 ho0 ho1 hE hz l1 l2 l3 l4
  have q2 := run_eqGuard_agg (P := P) w .eql t x y ((xs ++ ys).map (N k)).toArray ((us ++ vs).map (N k)).toArray hg
  have q3 := run_eql_struct (P := P) w t ((xs ++ ys).map (N k)).toArray ((us ++ vs).map (N k)).toArray
  simp only [LV] at q1 hx hy
  rw [q1] at q3
  simp only [execOp, ha.ev hx, ha.ev hy, Sem.run_bind, q2, Result.andThen_ok, q3, Sem.run_pure]) hk
theorem st_ne2 {t : TypeId} {f0 f1 : Field} {k : IntKind} {m : Nat} {E yt : TypeId} {x y : Operand} {xs ys us vs : List Nat} (hx : ev l x = some (LV k (xs ++ ys))) (hy : ev l y = some (LV k (us ++ vs))) (ht : P.underlying t = some (.struct #[f0, f1])) (hst : P.stoodInHeld t = false) (hn0 : (f0.name != "_") = true) (hn1 : (f1.name != "_") = true)
  (h0 : P.underlying f0.type = some (.array m E)) (h1 : P.underlying f1.type = some (.array m E)) (hs0 : szOf P f0.type = some m) (hs1 : szOf P f1.type = some m) (ho0 : f0.offset = 0) (ho1 : f1.offset = m)
  (hE : P.underlying E = some (.int k)) (hz : szOf P E = some 1) (hg : P.eqGuardType P.depth t = false) (l1 : xs.length = m) (l2 : ys.length = m) (l3 : us.length = m) (l4 : vs.length = m) (hn : Nat.blt d n = true)
  (hk : Go c n ((d, .bool (!(decide (xs = us) && decide (ys = vs)))) :: l) W (wpList P ops Q rest)) : Go c n l W (wpList P ops Q (⟨some d, .binOp .neq t x y yt, T, pos, after, none⟩ :: rest)) :=
 st_val rfl rfl hn (fun a w ha _ => by
  have q1 := run_rec2D 9997 (w := w) ht hst hn0 hn1 h0 h1 hs0 hs1 ho0 ho1 hE hz l1 l2 l3 l4
  have q2 := run_eqGuard_agg (P := P) w .neq t x y ((xs ++ ys).map (N k)).toArray ((us ++ vs).map (N k)).toArray hg
  have q3 := run_neq_struct (P := P) w t ((xs ++ ys).map (N k)).toArray ((us ++ vs).map (N k)).toArray
  simp only [LV] at q1 hx hy
  rw [q1] at q3
  simp only [execOp, ha.ev hx, ha.ev hy, Sem.run_bind, q2, Result.andThen_ok, q3, Sem.run_pure]) hk
theorem st_eq2v {r : Bool} {t : TypeId} {f0 f1 : Field} {k : IntKind} {m : Nat} {E yt : TypeId} {x y : Operand} {xs ys us vs : List Nat} (hx : ev l x = some (LV k (xs ++ ys))) (hy : ev l y = some (LV k (us ++ vs))) (ht : P.underlying t = some (.struct #[f0, f1])) (hst : P.stoodInHeld t = false) (hn0 : (f0.name != "_") = true) (hn1 : (f1.name != "_") = true)
  (h0 : P.underlying f0.type = some (.array m E)) (h1 : P.underlying f1.type = some (.array m E)) (hs0 : szOf P f0.type = some m) (hs1 : szOf P f1.type = some m) (ho0 : f0.offset = 0) (ho1 : f1.offset = m)
  (hE : P.underlying E = some (.int k)) (hz : szOf P E = some 1) (hg : P.eqGuardType P.depth t = false) (hr : (decide (xs = us) && decide (ys = vs)) = r) (l1 : xs.length = m) (l2 : ys.length = m) (l3 : us.length = m) (l4 : vs.length = m) (hn : Nat.blt d n = true)
  (hk : Go c n ((d, .bool r) :: l) W (wpList P ops Q rest)) : Go c n l W (wpList P ops Q (⟨some d, .binOp .eql t x y yt, T, pos, after, none⟩ :: rest)) :=
 st_eq2 hx hy ht hst hn0 hn1 h0 h1 hs0 hs1 ho0 ho1 hE hz hg l1 l2 l3 l4 hn (by rw [hr]; exact hk)
theorem st_ne2v {r : Bool} {t : TypeId} {f0 f1 : Field} {k : IntKind} {m : Nat} {E yt : TypeId} {x y : Operand} {xs ys us vs : List Nat} (hx : ev l x = some (LV k (xs ++ ys))) (hy : ev l y = some (LV k (us ++ vs))) (ht : P.underlying t = some (.struct #[f0, f1])) (hst : P.stoodInHeld t = false) (hn0 : (f0.name != "_") = true) (hn1 : (f1.name != "_") = true)
  (h0 : P.underlying f0.type = some (.array m E)) (h1 : P.underlying f1.type = some (.array m E)) (hs0 : szOf P f0.type = some m) (hs1 : szOf P f1.type = some m) (ho0 : f0.offset = 0) (ho1 : f1.offset = m)
  (hE : P.underlying E = some (.int k)) (hz : szOf P E = some 1) (hg : P.eqGuardType P.depth t = false) (hr : (decide (xs = us) && decide (ys = vs)) = r) (l1 : xs.length = m) (l2 : ys.length = m) (l3 : us.length = m) (l4 : vs.length = m) (hn : Nat.blt d n = true)
  (hk : Go c n ((d, .bool (!r)) :: l) W (wpList P ops Q rest)) : Go c n l W (wpList P ops Q (⟨some d, .binOp .neq t x y yt, T, pos, after, none⟩ :: rest)) :=
 st_ne2 hx hy ht hst hn0 hn1 h0 h1 hs0 hs1 ho0 ho1 hE hz hg l1 l2 l3 l4 hn (by rw [hr]; exact hk)
end
end Go.Proofs.YtbpmbdlgmmabcaaGreat.L
namespace Go.Proofs.YtbpmbdlgmmabcaaGreat.L
open Go Go.Proofs
def HasB (w : World) (b : Nat) (v : Value) (U : TypeId) : Prop := w.heap[b]? = some (.cells v.cells U (0, 0))
structure OldB (c : Cx) (b : Nat) (v : Value) (U : TypeId) : Prop where
 has : HasB c.w0 b v U
 out : b ∉ c.S
theorem HasB.lt {w : World} {b : Nat} {v : Value} {U : TypeId} (h : HasB w b v U) : b < w.heap.size := by
 rcases Nat.lt_or_ge b w.heap.size with h1 | h1
 ·exact h1
 ·unfold HasB at h; rw [Array.getElem?_eq_none h1] at h; cases h
theorem OldB.mk0 {w : World} {b : Nat} {v : Value} {U : TypeId} (h : HasB w b v U) : OldB ⟨w, fps []⟩ b v U := ⟨h, by simp [fps]⟩
theorem OldB.now {c : Cx} {b : Nat} {v : Value} {U : TypeId} {W : List Res} (h : OldB c b v U) : ∀ w, SatW c W w → HasB w b v U := fun w hw => by
 have := hw.ext.block b h.has.lt h.out
 unfold HasB
 rw [this]; exact h.has
theorem OldB.shift {c : Cx} {b : Nat} {v : Value} {U : TypeId} {W : List Res} {w0 : World} (h : OldB c b v U) (h0 : SatW c W w0) : OldB ⟨w0, fps W⟩ b v U :=
 ⟨h.now w0 h0, fun hm => by
  rcases h0.own b hm with h1 | h1
  ·have := h.has.lt; omega
  ·exact h.out h1⟩
theorem HasB.own {c : Cx} {b : Nat} {v : Value} {U : TypeId} {W R : List Res} (h : Find W (.blk b v U) R) : ∀ w, SatW c W w → HasB w b v U := fun _ hw => hw.holds _ h.mem
section
variable {P : Program} {c : Cx} {n : Nat} {l : Sl} {W : List Res} {ops : Array Oper} {Q : Exit → Act → World → Prop} {rest : List Oper}
variable {d : Nat} {T : TypeId} {pos : String} {after : Array Edge}
theorem st_ldo {x : Operand} {b off m : Nat} {k : IntKind} {ys zs : List Nat} {E U : TypeId} (hx : ev l x = some (pt b off)) (ho : OldB c b (LV k ys) U) (hs : aggT P E = true) (hz : szOf P E = some m)
  (hp : PartAt ys off m zs) (hn : Nat.blt d n = true)
  (hk : Go c n ((d, LV k zs) :: l) W (wpList P ops Q rest)) : Go c n l W (wpList P ops Q (⟨some d, .load E x, T, pos, after, none⟩ :: rest)) :=
 st_val rfl rfl hn (fun a w ha hw => by
  have hh : w.heap[b]? = some (.cells (ys.map (N k)).toArray U (0, 0)) := ho.now w hw
  have hl : zs.length = m := by obtain ⟨_, _, _, _, h⟩ := hp; exact h
  have := run_loadVar_a (P := P) (w := w) (b := b) (off := off) (cs := zs.map (N k)) hs (by simpa [hl] using hz) hh (fun j v hv => by
   have := (hp.map (N k)).get j v hv
   simpa using this)
  simp [execOp, ha.ev hx, Instr.loadAt, Instr.sureAddr, this, LV]) hk
end
end Go.Proofs.YtbpmbdlgmmabcaaGreat.L
namespace Go.Proofs.YtbpmbdlgmmabcaaGreat.L
open Go Go.Proofs
abbrev slv (b k : Nat) : Value := .slice (some ⟨b, 0, none⟩) k k
theorem fill_many {kk : IntKind} {m : Nat} : ∀ (vss : List (List Nat)) (i : Nat) (done : List Value), (∀ v ∈ vss, v.length = m) → done.length = i * m →
  Instr.fill (fun i => some (i * m, m)) (done ++ List.replicate (vss.length * m) (N kk 0)).toArray ((vss.zipIdx i).map fun p => (p.2, LV kk p.1)) = some (done ++ vss.flatten.map (N kk)).toArray
 | [], i, done, _, _ => by simp [Instr.fill]
 | v :: r, i, done, hv, hd => by
  have h1 := hv v (List.mem_cons_self ..)
  have ih := fill_many (kk := kk) (m := m) r (i + 1) (done ++ v.map (N kk)) (fun u hu => hv u (List.mem_cons_of_mem _ hu)) (by simp [hd, h1, Nat.add_mul])
  have e := fill_cons (place := fun i => some (i * m, m)) (i := i) (v := LV kk v) (rest := (r.zipIdx (i + 1)).map fun p => (p.2, LV kk p.1)) (pre := done) (old := List.replicate m (N kk 0)) (post := List.replicate (r.length * m) (N kk 0))
   (by simp [hd]) (by simp [LV, Value.cells, h1])
  have hrep : done ++ List.replicate ((v :: r).length * m) (N kk 0) = done ++ List.replicate m (N kk 0) ++ List.replicate (r.length * m) (N kk 0) := by
   rw [List.append_assoc, List.replicate_append_replicate]
   congr 2
   rw [List.length_cons, Nat.add_mul, Nat.one_mul, Nat.add_comm]
  rw [hrep, List.zipIdx_cons, List.map_cons, e]
  have hc : (LV kk v).cells.toList = v.map (N kk) := by simp [LV, Value.cells]
  rw [hc, ih]
  simp
section
variable {P : Program} {c : Cx} {n : Nat} {l : Sl} {W : List Res} {ops : Array Oper} {Q : Exit → Act → World → Prop} {rest : List Oper}
variable {d : Nat} {T : TypeId} {pos : String} {after : Array Edge}
theorem parts_many {a : Act} {kk : IntKind} : ∀ {ps : List (Nat × Operand)} {i : Nat} {vss : List (List Nat)} (_ : SatA n l a) (_ : Seq i ps = true) (_ : evs l (ps.map (·.2)) = some (vss.map (LV kk))),
  (ps.map fun (i, x) => (i, a.eval x)) = (vss.zipIdx i).map fun p => (p.2, LV kk p.1)
 | [], i, vss, _, _, he => by
  have : vss = [] := by
   cases vss with
   | nil => rfl
   | cons v r => simp [evs] at he
  subst this; rfl
 | (q, x) :: r, i, vss, ha, hs, he => by
  simp only [Seq, Bool.and_eq_true] at hs
  have hq := Nat.eq_of_beq_eq_true hs.1
  subst hq
  simp only [List.map_cons, evs] at he
  split at he
  ·rename_i v us hx hr
   cases vss with
   | nil => simp at he
   | cons v0 vr =>
    simp at he
    obtain ⟨h1, h2⟩ := he
    subst h1
    subst h2
    have ih := parts_many (ps := r) (i := q + 1) (vss := vr) ha hs.2 hr
    simp only [List.map_cons, List.zipIdx_cons, ih, ha.ev hx]
  ·simp at he
theorem zeros_many {kk : IntKind} {m k : Nat} (hm : 0 < m) : (Array.range (k * m)).map (fun j => (List.replicate m (N kk 0)).toArray[j % (List.replicate m (N kk 0)).toArray.size]!) = (List.replicate (k * m) (N kk 0)).toArray := by
 apply Array.ext
 ·simp
 ·intro j h1 h2
  have hj : j % m < m := Nat.mod_lt _ hm
  simp [hj]
theorem st_buildSliceM {t E : TypeId} {k m : Nat} {ps : List (Nat × Operand)} {kk : IntKind} {vss : List (List Nat)} (ht : P.underlying t = some (.slice E)) (hz : zrOf P E = some (LV kk (List.replicate m 0))) (hs : szOf P E = some m)
  (hm : Nat.blt 0 (k * m) = true) (hq : Seq 0 ps = true) (hl : vss.length = k) (hv : evs l (ps.map (·.2)) = some (vss.map (LV kk))) (hlen : ∀ v ∈ vss, v.length = m) (hk24 : Nat.ble (k * m) 16777216 = true) (hn : Nat.blt d n = true)
  (hk : ∀ b, Go c n ((d, slv b k) :: l) (.blk b (LV kk vss.flatten) E :: W) (wpList P ops Q rest)) :
  Go c n l W (wpList P ops Q (⟨some d, .buildSlice t k ps.toArray, T, pos, after, none⟩ :: rest)) :=
 st_op rfl rfl hn (Φ := fun u V => ∃ b, u = slv b k ∧ V = .blk b (LV kk vss.flatten) E :: W)
  (fun a w ha hw => by
   have hp := parts_many ha hq hv
   have hm0 : 0 < k * m := by simpa [Nat.blt_eq] using hm
   have hmm : 0 < m := Nat.pos_of_mul_pos_left hm0
   have hle : ¬ (16777216 < k * m) := by have := Nat.le_of_ble_eq_true hk24; omega
   have hne : ¬ (k * m = 0) := by omega
   have hfill := fill_many (kk := kk) (m := m) vss 0 [] hlen (by simp)
   simp only [List.nil_append] at hfill
   rw [hl] at hfill
   have h0 := zeros_many (kk := kk) (m := m) (k := k) hmm
   refine ⟨_, _, _, ?_, hw.alloc (o := .cells (vss.flatten.map (N kk)).toArray E) (r := .blk w.heap.size (LV kk vss.flatten) E) rfl ?_, _, rfl, rfl⟩
   ·have hz2 : (LV kk (List.replicate m 0)).cells = (List.replicate m (N kk 0)).toArray := by simp [LV, Value.cells]
    simp only [execOp, Instr.buildSlice, Sem.run_bind, run_underlying ht, run_sizeOf hs, Result.andThen_ok, List.map_toArray, hp]
    simp only [show (2 : Nat) ^ 24 = 16777216 from rfl, gt_iff_lt, if_neg hle, if_neg hne, Sem.run_bind, run_zero hz, Result.andThen_ok, Sem.run_pure, hz2, h0, hfill]
    simp [newRow, slv]
   ·simp [Res.holds, LV, Value.cells])
  (fun u V ⟨b, hu, hV⟩ => by subst hu; subst hV; exact hk b)
theorem st_buildM {t E : TypeId} {k m : Nat} {ps : List (Nat × Operand)} {kk : IntKind} {vss : List (List Nat)} (ht : P.underlying t = some (.array k E)) (hz : zrOf P t = some (LV kk (List.replicate (k * m) 0))) (hs : szOf P E = some m)
  (hq : Seq 0 ps = true) (hl : vss.length = k) (hv : evs l (ps.map (·.2)) = some (vss.map (LV kk))) (hlen : ∀ v ∈ vss, v.length = m) (hn : Nat.blt d n = true)
  (hk : Go c n ((d, LV kk vss.flatten) :: l) W (wpList P ops Q rest)) :
  Go c n l W (wpList P ops Q (⟨some d, .build t ps.toArray, T, pos, after, none⟩ :: rest)) :=
 st_val rfl rfl hn (fun a w ha hw => by
  have hp := parts_many ha hq hv
  have hfill := fill_many (kk := kk) (m := m) vss 0 [] hlen (by simp)
  simp only [List.nil_append, hl] at hfill
  have hz2 : (LV kk (List.replicate (k * m) 0)).cells = (List.replicate (k * m) (N kk 0)).toArray := by simp [LV, Value.cells]
  simp only [execOp, Instr.build, Sem.run_bind, run_underlying ht, run_zero hz, run_sizeOf hs, Result.andThen_ok, List.map_toArray, hp, hz2, hfill]
  rfl) hk
theorem st_ia_slv {x y : Operand} {b off len cap i m : Nat} {k : IntKind} {t E : TypeId} (hx : ev l x = some (.slice (some ⟨b, off, none⟩) len cap)) (hy : ev l y = some (N k i)) (ht : P.underlying t = some (.slice E)) (hz : szOf P E = some m) (hi : i < len)
  (hn : Nat.blt d n = true) (hk : Go c n ((d, pt b (off + i * m)) :: l) W (wpList P ops Q rest)) : Go c n l W (wpList P ops Q (⟨some d, .indexAddr t x y, T, pos, after, none⟩ :: rest)) :=
 st_val rfl rfl hn (fun a w ha hw => by
  simp [execOp, ha.ev hx, ha.ev hy, Instr.indexAt, asIntOf, run_underlying ht, hi, run_sizeOf hz, Addr.add]) hk
theorem st_len_slv {x : Operand} {a0 : Option Addr} {len cap : Nat} {t E : TypeId} {ts : List TypeId} (hx : ev l x = some (.slice a0 len cap)) (ht : P.underlying t = some (.slice E))
  (hn : Nat.blt d n = true) (hk : Go c n ((d, N .i64 len) :: l) W (wpList P ops Q rest)) :
  Go c n l W (wpList P ops Q (⟨some d, .call { callee := .builtin .len, args := #[x], argTypes := (t :: ts).toArray }, T, pos, after, none⟩ :: rest)) :=
 st_val rfl rfl hn (fun a w ha hw => by
  simp [execOp, ha.ev hx, resolve, invoke, builtin, Builtin.len_, run_underlying ht, goInt]) hk
theorem st_endc2c_LV {fn : Func} {R : Ending → World → Prop} {t u : Tmp} {b b' m m' : Nat} {T T' U U' : TypeId} {k k' : IntKind} {ys ys' : List Nat} {R0 R1 : List Res}
  (hres : fn.results = #[.cell t T, .cell u T']) (hv : lk l t = some (pt b 0)) (hu : lk l u = some (pt b' 0)) (hf : Find W (.blk b (LV k ys) U) R0) (hf' : Find W (.blk b' (LV k' ys') U') R1) (hs : aggT P T = true) (hz : szOf P T = some m) (hl : ys.length = m)
  (hs' : aggT P T' = true) (hz' : szOf P T' = some m') (hl' : ys'.length = m')
  (hR : ∀ w, SatW c W w → R (.returned (.tuple #[LV k ys, LV k' ys'])) w) : Go c n l W (bodyPost P fn R .ret) :=
 st_endc2c hres hv hu hf hf' hs (by subst hl; simpa using hz) hs' (by subst hl'; simpa using hz') hR
end
theorem PartAt.nth {α : Type} {m : Nat} : ∀ {vss : List (List α)} {i : Nat} {zs : List α}, (∀ v ∈ vss, v.length = m) → vss[i]? = some zs → PartAt vss.flatten (i * m) m zs
 | [], i, zs, _, h => by simp at h
 | v :: r, 0, zs, hv, h => by
  simp at h
  subst h
  rw [Nat.zero_mul, List.flatten_cons]
  exact PartAt.l (hv v (List.mem_cons_self ..))
 | v :: r, i + 1, zs, hv, h => by
  have h1 := hv v (List.mem_cons_self ..)
  have ih := PartAt.nth (m := m) (vss := r) (i := i) (zs := zs) (fun u hu => hv u (List.mem_cons_of_mem _ hu)) (by simpa using h)
  have := PartAt.inr (xs := v) ih
  rw [h1, Nat.add_comm] at this
  rw [List.flatten_cons, Nat.add_mul, Nat.one_mul]
  exact this
end Go.Proofs.YtbpmbdlgmmabcaaGreat.L
namespace Go.Proofs.YtbpmbdlgmmabcaaGreat.L.R
open Go Go.Proofs.YtbpmbdlgmmabcaaGreat.L
section
variable {P : Program} {c : Cx} {n : Nat} {os : List Oper} {K : Act → World → Prop} {E : En} {W : List Res} {l : Sl} {i d : Nat} {o : Oper} {rest : List Nat}
def OpD (P : Program) (c : Cx) (n : Nat) (W : List Res) (G : Nat → Value) (F : Nat → List Res) (d : Nat) (lr : Sl) (o : Oper) : Prop :=
 ∀ w0 m, SatW c W w0 → Go ⟨w0, fps W⟩ n (lr ++ m) W (wpList P #[] (fun e a w => e = .normal ∧ ∃ b, SatA n ((d, G b) :: (lr ++ m)) a ∧ SatW ⟨w0, fps W⟩ (F b ++ W) w) [o])
theorem Zpd {G : Nat → Value} {F : Nat → List Res} (ho : os[i]? = some o) (h : OpD P c n W G F d (restr os.toArray o l) (noG o)) (hr : ∀ b, QF P c n os K (E ++ [(i, .alc)]) (F b ++ W) ((d, G b) :: l) rest)
  (hi : newP i E = true := by rfl) (hd : o.dst = some d := by rfl) (hn : Nat.blt d n = true := by rfl) (hg : gSays os.toArray l o = some true := by rfl)
  (hc : chkP os (E ++ [(i, .alc)]) = true := by rfl) (hdesc : descP os [i] rest E = true := by rfl) : QF P c n os K E W l (i :: rest) :=
 nd1 .alc (Φ := fun u W' => ∃ b, u = some (d, G b) ∧ W' = F b ++ W) ho hi hc hdesc (fun u W' ⟨v, hu, hW⟩ => by subst hu; exact ⟨hd, fun d' hd' => by rw [hd] at hd'; cases hd'; exact hn, .inr ⟨rfl, F v, hW⟩⟩) hg
  (fun w0 m hw a w ha hw' => single_mono (h w0 m hw a w ha hw') rfl (fun _ _ _ h => h.1) fun a w ⟨h1, b, h2, h3⟩ => ⟨h1, some (d, G b), F b ++ W, ⟨b, rfl, rfl⟩, h2, h3⟩)
  (fun u W' ⟨v, hu, hW⟩ => by subst hu; subst hW; exact hr v)
theorem Zpdx {b k : Nat} {v : Value} {T : TypeId} {L : Sl} :
  Go c n ((d, slv b k) :: L) (.blk b v T :: W) (wpList P #[] (fun e a w => e = .normal ∧ ∃ b, SatA n ((d, (fun b => slv b k) b) :: L) a ∧ SatW c ((fun b => [.blk b v T]) b ++ W) w) []) :=
 fun _ _ ha hw => wpList_nil ⟨rfl, b, ha, hw⟩
end
end Go.Proofs.YtbpmbdlgmmabcaaGreat.L.R
namespace Go.Proofs.YtbpmbdlgmmabcaaGreat.L
open Go Go.Proofs
def wide (m : Nat) : Value → Value
 | .slice a n c => .slice a (n * m) (c * m)
 | v => v
theorem wide_nil (m : Nat) : wide m (.slice none 0 0) = .slice none 0 0 := by simp [wide]
theorem wide_shape {m k : Nat} (hm : 0 < m) {s : Value} {a : Option Addr} {cap n : Nat} (h : wide m s = .slice a n cap) (hn : n = k * m) : ∃ c, s = .slice a k c ∧ cap = c * m := by
 cases s with
 | slice a0 n0 c0 =>
  simp only [wide, Value.slice.injEq] at h
  obtain ⟨rfl, h2, rfl⟩ := h
  have : n0 = k := Nat.eq_of_mul_eq_mul_right hm (h2.trans hn)
  subst this
  exact ⟨c0, rfl, rfl⟩
 | _ => simp [wide] at h
theorem run_firstM {P : Program} {w : World} {m k c : Nat} {a : Option Addr} {xs : List Value} (h : Rd w (wide m (.slice a k c)) xs) (hk : xs.length = k * m) : (Builtin.firstCells m k (.slice a k c)).run P w = .ok xs.toArray w := by
 obtain ⟨a0, cap, he, h1, h2, h3⟩ := h.shape
 simp only [wide, Value.slice.injEq] at he
 obtain ⟨rfl, e2, rfl⟩ := he
 cases a with
 | none => obtain ⟨hx, _⟩ := h2 rfl; subst hx; simp [Builtin.firstCells]
 | some a1 =>
  have hl : (loadCells a1 xs.length).run P w = .ok xs.toArray w :=
   run_loadCells_list (P := P) w a1 xs (fun j v hv => by
    have := h.cells j v hv
    simpa [wide, ea] using this)
  rw [hk] at hl
  simp [Builtin.firstCells, hl]
theorem run_append_M {P : Program} {w : World} {t E ty : TypeId} {by' m k j c c1 : Nat} {base a1 : Option Addr} {z : Value} {xs ys : List Value} (hm : 0 < m) (ht : P.underlying t = some (.slice E)) (hz : zrOf P E = some z) (hs : szOf P E = some m) (hb : byOf P E = some by')
    (hzc : z.cells.size = m)
    (hS : (Res.sl (wide m (.slice base k c)) xs E).holds w) (hY : Rd w (wide m (.slice a1 j c1)) ys) (hxk : xs.length = k * m) (hyj : ys.length = j * m) (hys : ∀ v ∈ ys, v.oneCell' = true) (hj : 0 < j)
    (hbd : (k + j) * by' ≤ 140737488355328) (h63 : k + j < 9223372036854775808) :
    ∃ s' w', (Builtin.append_ #[t, t] ty #[.slice base k c, .slice a1 j c1]).run P w = .ok s' w' ∧ (Res.sl (wide m s') (xs ++ ys) E).holds w' ∧ Ext (Res.sl (wide m (.slice base k c)) xs E).fp w w' ∧
      ((Res.sl (wide m s') (xs ++ ys) E).fp = (Res.sl (wide m (.slice base k c)) xs E).fp ∨ ((Res.sl (wide m s') (xs ++ ys) E).fp = [w.heap.size])) := by
  obtain ⟨i, hi, hz', hs', hb'⟩ := info_of hz hs hb
  have hfY := fun q => run_firstM (P := P) (hY.drew q) hyj
  have hfY0 := run_firstM (P := P) hY hyj
  have hz0 : ∀ w, (zeroValue E).run P w = .ok z w := run_zero hz
  have hty : ∀ w, (underlying t).run P w = .ok (.slice E) w := run_underlying ht
  have hti : ∀ w, (typeInfo E).run P w = .ok i w := fun w => by simp [typeInfo, hi]
  have h63i : ¬ (9223372036854775807 < ((k : Int) + (j : Int))) := by omega
  have hjm : 0 < j * m := Nat.mul_pos hj hm
  by_cases hroom : k + j ≤ c
  · -- there is room
    rcases hS with ⟨hs1, hx1⟩ | ⟨b, off, cap', pre, post, fz, hq⟩
    · simp only [wide, Value.slice.injEq] at hs1
      obtain ⟨_, _, h3⟩ := hs1
      have : c = 0 := by rcases Nat.mul_eq_zero.1 h3 with h | h <;> omega
      omega
    · obtain ⟨hv, g1, g2, g3, g4, g5⟩ := hq
      simp only [wide, Value.slice.injEq] at hv
      obtain ⟨rfl, hv2, rfl⟩ := hv
      have hroomM : (k + j) * m ≤ c * m := Nat.mul_le_mul_right m hroom
      rw [Nat.add_mul, ← hxk, ← hyj] at hroomM
      have hfit : off + xs.length + ys.length ≤ (pre ++ xs ++ post).toArray.size := by simp; omega
      have hfz : ¬ fz.1 < fz.2 ∨ (pre ++ xs ++ post).length ≤ fz.1 := by
        by_cases hf : fz.1 < fz.2
        · exact .inr (g5 (by omega))
        · exact .inl hf
      have hst : ∀ (vs : List Value) (i0 : Nat) (cur : List Value) (w : World), w.heap[b]? = some (.cells cur.toArray E fz) → cur.length = (pre ++ xs ++ post).length → off + xs.length + i0 + vs.length ≤ cur.length → (∀ v ∈ vs, v.oneCell' = true) →
          ∃ cur' : List Value, (storeCells ⟨b, off + xs.length, none⟩ vs i0).run P w = .ok () (w.setRow b cur'.toArray) ∧ cur' = cur.take (off + xs.length + i0) ++ vs ++ cur.drop (off + xs.length + i0 + vs.length) := by
        intro vs
        induction vs with
        | nil =>
          intro i0 cur w hh hl hle h1v
          refine ⟨cur, ?_, by simp⟩
          rw [setRow_self w b _ E fz hh]; rfl
        | cons v r ih =>
          intro i0 cur w hh hl hle h1v
          simp only [List.length_cons] at hle
          have hlt : off + xs.length + i0 < cur.length := by omega
          have hcell : w.cell? ⟨b, off + xs.length + i0, none⟩ = some cur[off + xs.length + i0] := by simp [World.cell?, hh, hlt]
          have hfro : w.frozen? ⟨b, off + xs.length + i0, none⟩ = false := by
            simp only [World.frozen?, hh]
            rcases hfz with h | h
            · simp; omega
            · simp; omega
          have hs1 : (store ((⟨b, off + xs.length, none⟩ : Addr).add i0) v).run P w = .ok () (w.setRow b (cur.set (off + xs.length + i0) v).toArray) := by
            rw [add_pt, run_store P w _ v _ (h1v v (by simp)), hcell]
            simp [hfro, setCell_eq_setRow w b _ cur.toArray E fz v hh]
          obtain ⟨cur', hr, he⟩ := ih (i0 + 1) (cur.set (off + xs.length + i0) v) (w.setRow b (cur.set (off + xs.length + i0) v).toArray) (setRow_heap w b _ _ E fz hh) (by simpa using hl) (by simp; omega) (fun u hu => h1v u (by simp [hu]))
          refine ⟨cur', ?_, ?_⟩
          · simp only [storeCells, Sem.run_bind, hs1, Result.andThen_ok, hr, setRow_setRow]
          · rw [he]
            have e := list_seg_step cur (off + xs.length + i0) v r (by omega)
            simpa [Nat.add_assoc] using e
      obtain ⟨cur', hr, he⟩ := hst ys 0 (pre ++ xs ++ post) w g4 rfl (by simp; omega) hys
      have hcur : cur' = pre ++ (xs ++ ys) ++ post.drop ys.length := by
        rw [he]
        subst g3
        simp only [Nat.add_zero]
        rw [List.take_left' (by simp), show pre.length + xs.length + ys.length = (pre ++ xs).length + ys.length by simp, List.drop_append]
        simp
      rw [hcur] at hr
      refine ⟨.slice (some ⟨b, off, none⟩) (k + j) c, w.setRow b (pre ++ (xs ++ ys) ++ post.drop ys.length).toArray, ?_, ?_, ?_, .inl rfl⟩
      · simp at hr
        rw [hxk] at hr
        simp [Builtin.append_, hty, run_sizeOf hs, Builtin.lenOf, hfY0, hroom, add_pt, hr]
      · refine .inr ⟨b, off, c * m, pre, post.drop ys.length, fz, by simp [wide, hxk, hyj, Nat.add_mul], by simpa using hroomM, ?_, g3, setRow_heap w b _ _ E fz g4, ?_⟩
        · simp; omega
        · intro hf; have := g5 (by omega); simp at this ⊢; omega
      · exact ⟨rfl, rfl, rfl, by simp, fun q _ hq => setRow_other w b q _ (by simpa [Res.fp, wide] using hq)⟩
  · -- a new block
    have hfit := growslice_fits (need := k + j) (old := c) (bytes := by') (by omega) hbd
    have h48 : ¬ (281474976710656 < Builtin.nextslicecap (k + j) c * i.bytes) := by rw [hb']; omega
    have hX : Rd w (wide m (.slice base k c)) xs := by
      have := RdW.own (c := ⟨w, (Res.sl (wide m (.slice base k c)) xs E).fp⟩) (W := [.sl (wide m (.slice base k c)) xs E]) (Find.here)
      refine this w ⟨Ext.refl _ _, by simpa using hS, fun b hb => .inr (by simpa [fps] using hb), ?_⟩
      simp only [fps, List.flatMap_cons, List.flatMap_nil, List.append_nil]
      cases base <;> simp [Res.fp, wide]
    have hfX := fun q => run_firstM (P := P) (hX.drew q) hxk
    have hcut : k + j ≤ grownCap w (k + j) c E := by
      simp only [grownCap, Question.cut]; omega
    have hzr : ∃ zs : List Value, Builtin.zeroCells z.cells (grownCap w (k + j) c E - (k + j)) = zs.toArray ∧ zs.length = (grownCap w (k + j) c E - (k + j)) * m :=
      ⟨(Builtin.zeroCells z.cells (grownCap w (k + j) c E - (k + j))).toList, by simp, by simp [Builtin.zeroCells, hzc]⟩
    obtain ⟨zs, hzs, hzl⟩ := hzr
    have hcm : (grownCap w (k + j) c E - (k + j)) * m + (k + j) * m = grownCap w (k + j) c E * m := by rw [← Nat.add_mul]; congr 1; omega
    refine ⟨.slice (some ⟨w.heap.size, 0, none⟩) (k + j) (grownCap w (k + j) c E),
      { w with drawn := w.drawn + 1, heap := w.heap.push (.cells (xs ++ ys ++ zs).toArray E) }, ?_, ?_, ?_, .inr rfl⟩
    · have hfX' : (Builtin.firstCells m k (Value.slice base k c)).run P w.drew = .ok xs.toArray w.drew := by
        have := hfX (w.drawn + 1); simpa using this
      have hfY' : (Builtin.firstCells m j (.slice a1 j c1)).run P w.drew = .ok ys.toArray w.drew := by
        have := hfY (w.drawn + 1); simpa using this
      have hcells : xs.toArray ++ ys.toArray ++ Builtin.zeroCells z.cells (grownCap w (k + j) c E - (k + j)) = (xs ++ ys ++ zs).toArray := by rw [hzs]; simp
      have hres : (Builtin.append_ #[t, t] ty #[Value.slice base k c, .slice a1 j c1]).run P w =
          .ok (.slice (some ⟨w.heap.size, 0, none⟩) (k + j) (grownCap w (k + j) c E))
            (w.drew.alloc (.cells (xs.toArray ++ ys.toArray ++ Builtin.zeroCells z.cells (grownCap w (k + j) c E - (k + j))) E)) := by
        simp [Builtin.append_, hty, run_sizeOf hs, Builtin.lenOf, hroom, h63i, h48, hti, Question.forced, hfX', hfY', hz0, newRow, grownCap, -List.append_toArray]
      rw [hcells] at hres
      exact hres
    · have hle : (k + j) * m ≤ grownCap w (k + j) c E * m := Nat.mul_le_mul_right m hcut
      rw [Nat.add_mul] at hle hcm
      refine .inr ⟨w.heap.size, 0, grownCap w (k + j) c E * m, [], zs, (0, 0), by simp [wide, hxk, hyj, Nat.add_mul], by simp [hxk, hyj]; exact hle, ?_, rfl, ?_, by simp⟩
      · simp [hxk, hyj, hzl]; omega
      · simp
    · exact ⟨rfl, rfl, rfl, by simp, fun q hq _ => by
        show (w.heap.push _)[q]? = _
        rw [Array.getElem?_push, if_neg (by omega)]⟩
section
variable {P : Program} {c : Cx} {n : Nat} {l : Sl} {W : List Res} {ops : Array Oper} {Q : Exit → Act → World → Prop} {rest : List Oper}
variable {d : Nat} {T : TypeId} {pos : String} {after : Array Edge}
theorem st_append_M {x y : Operand} {s y0 : Value} {kk : IntKind} {m : Nat} {xss yss : List (List Nat)} {t E : TypeId} {by' : Nat} {R : List Res} (hx : ev l x = some s) (hy : ev l y = some y0) (hf : Find W (.sl (wide m s) (xss.flatten.map (N kk)) E) R) (hr : RdW c W (wide m y0) (yss.flatten.map (N kk)))
  (ht : P.underlying t = some (.slice E)) (hz : zrOf P E = some (LV kk (List.replicate m 0))) (hs : szOf P E = some m) (hb : byOf P E = some by') (hm : 0 < m)
  (hxl : xss.flatten.length = xss.length * m) (hyl : yss.flatten.length = yss.length * m) (hj : 0 < yss.length)
  (hbd : (xss.length + yss.length) * by' ≤ 140737488355328) (h63 : xss.length + yss.length < 9223372036854775808) (hn : Nat.blt d n = true)
  (hk : ∀ s', Go c n ((d, s') :: l) (.sl (wide m s') ((xss ++ yss).flatten.map (N kk)) E :: R) (wpList P ops Q rest)) :
  Go c n l W (wpList P ops Q (⟨some d, .call { callee := .builtin .append, args := #[x, y], argTypes := #[t, t] }, T, pos, after, none⟩ :: rest)) :=
 st_op rfl rfl hn (Φ := fun u V => V = .sl (wide m u) ((xss ++ yss).flatten.map (N kk)) E :: R)
  (fun a w ha hw => by
   have hY := hr w hw
   have hX := RdW.own hf w hw
   have hw := hw.perm hf.perm
   obtain ⟨a0, cap0, he0, _⟩ := hX.shape
   obtain ⟨c0, hs0, _⟩ := wide_shape (k := xss.length) hm he0 (by rw [List.length_map]; exact hxl)
   subst hs0
   obtain ⟨a1, cap1, he1, _⟩ := hY.shape
   obtain ⟨c1, hs1, _⟩ := wide_shape (k := yss.length) hm he1 (by rw [List.length_map]; exact hyl)
   subst hs1
   obtain ⟨s', w', h2, h3, h4, h5⟩ := run_append_M (P := P) (ty := T) hm ht hz hs hb (by simp [LV, Value.cells]) (hw.holds _ (List.mem_cons_self ..)) hY (by rw [List.length_map]; exact hxl) (by rw [List.length_map]; exact hyl) (by intro v hv; simp only [List.mem_map] at hv; obtain ⟨q, _, rfl⟩ := hv; rfl) hj hbd h63
   refine ⟨s', w', _, by simp [execOp, ha.ev hx, ha.ev hy, resolve, invoke, builtin, h2], ?_, rfl⟩
   have e : (xss ++ yss).flatten.map (N kk) = xss.flatten.map (N kk) ++ yss.flatten.map (N kk) := by simp
   rw [e]
   rcases h5 with h5 | h5
   ·exact hw.upd h5 h4 h3
   ·have hlt := hw.lt
    have hn := hw.nd
    simp only [fps, List.flatMap_cons] at hn hlt
    obtain ⟨n1, n2, n3⟩ := List.nodup_append.1 hn
    refine ⟨hw.ext.trans h4 (fun q hq => hw.own q (by simp only [fps, List.flatMap_cons, List.mem_append]; exact .inl hq)), ?_, ?_, ?_⟩
    ·intro r hr
     rcases List.mem_cons.1 hr with rfl | hr
     ·exact h3
     ·exact Res.holds_congr (hw.holds r (List.mem_cons_of_mem _ hr)) fun b hb => h4.block b (Res.fp_lt (hw.holds r (List.mem_cons_of_mem _ hr)) b hb) fun hb' => n3 b hb' b (List.mem_flatMap.2 ⟨r, hr, hb⟩) rfl
    ·intro b hb
     simp only [fps, List.flatMap_cons, h5, List.mem_append, List.mem_singleton] at hb
     rcases hb with rfl | hb
     ·exact .inl hw.ext.size
     ·exact hw.own b (by simp only [fps, List.flatMap_cons, List.mem_append]; exact .inr hb)
    ·simp only [fps, List.flatMap_cons, h5]
     refine List.nodup_append.2 ⟨by simp, n2, fun p hp q hq => ?_⟩
     simp only [List.mem_singleton] at hp; subst hp
     have := hlt q (List.mem_append.2 (.inr hq)); omega)
  (fun u V hV => by subst hV; exact hk u)
theorem st_own_nilM {φ : Act → World → Prop} (m : Nat) (T : TypeId) (hk : Go c n l (.sl (wide m (.slice none 0 0)) [] T :: W) φ) : Go c n l W φ :=
 st_own_nil T (by rw [wide_nil] at hk; exact hk)
theorem RdW.slv {b k m : Nat} {kk : IntKind} {ys : List Nat} {U : TypeId} {R : List Res} (h : Find W (.blk b (LV kk ys) U) R) (hl : ys.length = k * m) : RdW c W (wide m (slv b k)) (ys.map (N kk)) := by
 have := RdW.arrAll (c := c) h hl
 have e : wide m (L.slv b k) = subA b (k * m) 0 (k * m) := by
  simp [wide, subA]
 rw [e]; exact this
theorem st_ia_M {x y : Operand} {s : Value} {i m k : Nat} {kk : IntKind} {xs : List Value} {t E : TypeId} (hx : ev l x = some s) (hy : ev l y = some (N kk i)) (ht : P.underlying t = some (.slice E)) (hz : szOf P E = some m) (hr : RdW c W (wide m s) xs) (hm : 0 < m) (hk' : xs.length = k * m) (hi : i < k)
  (hn : Nat.blt d n = true) (hk : Go c n ((d, .pointer (some (ea (wide m s) (i * m)))) :: l) W (wpList P ops Q rest)) : Go c n l W (wpList P ops Q (⟨some d, .indexAddr t x y, T, pos, after, none⟩ :: rest)) :=
 st_val rfl rfl hn (fun a w ha hw => by
  obtain ⟨a0, cap, he, h1, h2, h3⟩ := (hr w hw).shape
  obtain ⟨c0, hs0, _⟩ := wide_shape (k := k) hm he hk'
  subst hs0
  cases a0 with
  | none =>
   obtain ⟨h, _⟩ := h2 rfl; subst h
   have : k * m = 0 := by simpa using hk'.symm
   rcases Nat.mul_eq_zero.1 this with h | h <;> omega
  | some a1 => simp [execOp, ha.ev hx, ha.ev hy, Instr.indexAt, asIntOf, run_underlying ht, hi, run_sizeOf hz, ea, wide]) hk
theorem ea_add {w : World} {s : Value} {xs : List Value} (h : Rd w s xs) (hne : 0 < xs.length) (i j : Nat) : (ea s i).add j = ea s (i + j) := by
 obtain ⟨a0, cap, rfl, h1, h2, h3⟩ := h.shape
 cases a0 with
 | none => obtain ⟨h, _⟩ := h2 rfl; subst h; simp at hne
 | some a1 =>
  have := h3 a1 rfl
  obtain ⟨b, o, sp⟩ := a1
  simp only at this; subst this
  simp only [ea, add_pt, Nat.add_assoc]
theorem st_load_M {x : Operand} {s : Value} {kk : IntKind} {i m : Nat} {xss : List (List Nat)} {zs : List Nat} {A : TypeId} (hx : ev l x = some (.pointer (some (ea s (i * m))))) (hs : aggT P A = true) (hz : szOf P A = some m) (hr : RdW c W s (xss.flatten.map (N kk)))
  (hv : ∀ v ∈ xss, v.length = m) (hi : xss[i]? = some zs) (hm : 0 < m)
  (hn : Nat.blt d n = true) (hk : Go c n ((d, LV kk zs) :: l) W (wpList P ops Q rest)) :
  Go c n l W (wpList P ops Q (⟨some d, .load A x, T, pos, after, none⟩ :: rest)) :=
 st_val rfl rfl hn (fun a w ha hw => by
  have hzl : zs.length = m := hv zs (List.mem_of_getElem? hi)
  have hne : 0 < (xss.flatten.map (N kk)).length := by
   have hmem := List.mem_of_getElem? hi
   cases hq : xss.flatten with
   | nil =>
    have := List.flatten_eq_nil_iff.1 hq zs hmem
    subst this; simp at hzl; omega
   | cons a r => simp
  have hp := PartAt.nth hv hi
  have hl : (loadCells (ea s (i * m)) (zs.map (N kk)).length).run P w = .ok (zs.map (N kk)).toArray w :=
   run_loadCells_list (P := P) w _ (zs.map (N kk)) (fun j v hv => by
    rw [ea_add (hr w hw) hne]
    refine (hr w hw).cells _ v ?_
    rw [List.getElem?_map, Option.map_eq_some_iff] at hv
    obtain ⟨u, hu, rfl⟩ := hv
    rw [List.getElem?_map, hp.get j u hu]; rfl)
  rw [List.length_map, hzl] at hl
  simp [execOp, ha.ev hx, Instr.loadAt, Instr.sureAddr, loadVar, run_isAgg_t hs, run_sizeOf hz, hl, LV]) hk
end
end Go.Proofs.YtbpmbdlgmmabcaaGreat.L
namespace Go.Proofs.YtbpmbdlgmmabcaaGreat.L
open Go Go.Proofs
set_option maxRecDepth 100000
attribute [local irreducible] Code.wp wpList Af bodyPost L.Go
theorem PartAt.trans {α : Type} {a b c : List α} {o m o2 m2 : Nat} (h : PartAt a o m b) (h2 : PartAt b o2 m2 c) : PartAt a (o + o2) m2 c := by
 obtain ⟨x, y, rfl, rfl, _⟩ := h
 obtain ⟨u, v, rfl, rfl, hm⟩ := h2
 exact ⟨x ++ u, v ++ y, by simp, by simp, hm⟩
section
variable {P : Program} {c : Cx} {n : Nat} {l : Sl} {W : List Res} {ops : Array Oper} {Q : Exit → Act → World → Prop} {rest : List Oper}
variable {d : Nat} {T : TypeId} {pos : String} {after : Array Edge}
end
end Go.Proofs.YtbpmbdlgmmabcaaGreat.L
namespace Go.Proofs.YtbpmbdlgmmabcaaGreat.L
open Go Go.Proofs
@[irreducible] def GL (ys : List Nat) (i : Bool) : Value := .agg (ys.map (N .u64) ++ [Value.bool i]).toArray
theorem GL_def (ys : List Nat) (i : Bool) : GL ys i = .agg (ys.map (N .u64) ++ [Value.bool i]).toArray := by unfold GL; rfl
theorem GL_cells (ys : List Nat) (i : Bool) : (GL ys i).cells = (ys.map (N .u64) ++ [Value.bool i]).toArray := by rw [GL_def]; rfl
inductive FillsV (pl : List (Nat × Nat)) : List Value → List (Nat × Value) → List Value → Prop
 | nil {ys : List Value} : FillsV pl ys [] ys
 | cons {pre old post out : List Value} {i : Nat} {v : Value} {rest : List (Nat × Value)} (hp : pl[i]? = some (pre.length, old.length)) (hz : v.cells.size = old.length) (h : FillsV pl (pre ++ v.cells.toList ++ post) rest out) :
   FillsV pl (pre ++ old ++ post) ((i, v) :: rest) out
theorem fillsV {pl : List (Nat × Nat)} {ys out : List Value} {ps : List (Nat × Value)} (h : FillsV pl ys ps out) :
  Instr.fill (pl.toArray[·]?) ys.toArray ps = some out.toArray := by
 induction h with
 | nil => rfl
 | cons hp hz h ih =>
  rename_i pre old post out i v rest
  have e := fill_cons (place := (pl.toArray[·]?)) (i := i) (v := v) (rest := rest) (pre := pre) (old := old) (post := post) (by simpa using hp) hz
  rw [e]
  exact ih
section
variable {P : Program}
theorem run_recG {w : World} {t A E : TypeId} {f0 f1 f2 g0 g1 : Field} {m : Nat} (ht : P.underlying t = some (.struct #[f0, f1, f2])) (hst : P.stoodInHeld t = false) (hn0 : (f0.name != "_") = true) (hn1 : (f1.name != "_") = true) (hn2 : (f2.name != "_") = true)
  (k0 : f0.type = A) (k1 : f1.type = A) (hs : szOf P A = some (m + m)) (ho0 : f0.offset = 0) (ho1 : f1.offset = m + m) (ho2 : f2.offset = m + m + (m + m)) (h2 : P.underlying f2.type = some .bool)
  (hA : P.underlying A = some (.struct #[g0, g1])) (hstA : P.stoodInHeld A = false) (gn0 : (g0.name != "_") = true) (gn1 : (g1.name != "_") = true)
  (h0 : P.underlying g0.type = some (.array m E)) (h1 : P.underlying g1.type = some (.array m E)) (hs0 : szOf P g0.type = some m) (hs1 : szOf P g1.type = some m) (go0 : g0.offset = 0) (go1 : g1.offset = m)
  (hE : P.underlying E = some (.int .u64)) (hz : szOf P E = some 1) {a b e f a' b' e' f' : List Nat} {i j : Bool} (la : a.length = m) (lb : b.length = m) (le : e.length = m) (lf : f.length = m) (la' : a'.length = m) (lb' : b'.length = m) (le' : e'.length = m) (lf' : f'.length = m) :
  (Op.equalIn 10000 t (GL ((a ++ b) ++ (e ++ f)) i) (GL ((a' ++ b') ++ (e' ++ f')) j)).run P w = .ok (((decide (a = a') && decide (b = b')) && (decide (e = e') && decide (f = f'))) && decide (i = j)) w := by
 have hf : P.fieldsOf t = #[f0, f1, f2] := by unfold Program.fieldsOf; rw [ht]
 rw [GL_def, GL_def]
 have q := run_equalIn_struct (P := P) w 9999 t (((a ++ b) ++ (e ++ f)).map (N .u64) ++ [Value.bool i]).toArray (((a' ++ b') ++ (e' ++ f')).map (N .u64) ++ [Value.bool j]).toArray (by rw [hf]; exact ht) hst
 rw [hf] at q
 rw [q]
 have a0 : aggT P A = true := by unfold aggT; rw [hA]
 have p0 : ∀ (zs ts : List Nat) (o : Bool), zs.length = m + m → (part f0.type ((zs ++ ts).map (N .u64) ++ [Value.bool o]).toArray f0.offset).run P w = .ok (LV .u64 zs) w := fun zs ts o hl => by
  have he := (((PartAt.l (ys := ts) hl).map (N .u64)).inl (ys := [Value.bool o])).ext
  rw [Nat.zero_add] at he
  simp only [part, Sem.run_bind, run_isAgg_t a0, Result.andThen_ok, if_true, k0, run_sizeOf hs, ho0, Nat.zero_add, he, Sem.run_pure, LV]
 have p1 : ∀ (zs ts : List Nat) (o : Bool), zs.length = m + m → ts.length = m + m → (part f1.type ((zs ++ ts).map (N .u64) ++ [Value.bool o]).toArray f1.offset).run P w = .ok (LV .u64 ts) w := fun zs ts o hl hl' => by
  have he := (((PartAt.r (xs := zs) hl hl').map (N .u64)).inl (ys := [Value.bool o])).ext
  simp only [part, Sem.run_bind, run_isAgg_t a0, Result.andThen_ok, if_true, k1, run_sizeOf hs, ho1, he, Sem.run_pure, LV]
 have p2 : ∀ (zs : List Nat) (o : Bool), zs.length = m + m + (m + m) → (part f2.type (zs.map (N .u64) ++ [Value.bool o]).toArray f2.offset).run P w = .ok (.bool o) w := fun zs o hl => by
  have ha : (isAgg f2.type).run P w = .ok false w := by simp [isAgg, run_underlying h2]
  simp [part, Sem.run_bind, ha, ho2, ← hl]
 have r0 := run_rec2D 9996 (w := w) (k := .u64) (t := A) hA hstA gn0 gn1 h0 h1 hs0 hs1 go0 go1 hE hz la lb la' lb'
 have r1 := run_rec2D 9996 (w := w) (k := .u64) (t := A) hA hstA gn0 gn1 h0 h1 hs0 hs1 go0 go1 hE hz le lf le' lf'
 rw [← k0] at r0
 rw [← k1] at r1
 have r2 := run_equalIn_bool w 9998 f2.type i j h2
 have n0 : f0.name ≠ "_" := by simpa using hn0
 have n1 : f1.name ≠ "_" := by simpa using hn1
 have n2 : f2.name ≠ "_" := by simpa using hn2
 have l1 : (a ++ b).length = m + m := by simp [la, lb]
 have l2 : (e ++ f).length = m + m := by simp [le, lf]
 have l1' : (a' ++ b').length = m + m := by simp [la', lb']
 have l2' : (e' ++ f').length = m + m := by simp [le', lf']
 simp only [Op.eqFields, if_pos n0, if_pos n1, if_pos n2, Sem.run_bind, p0 _ _ _ l1, p0 _ _ _ l1', p1 _ _ _ l1 l2, p1 _ _ _ l1' l2', p2 _ _ (show ((a ++ b) ++ (e ++ f)).length = m + m + (m + m) by rw [List.length_append, l1, l2]), p2 _ _ (show ((a' ++ b') ++ (e' ++ f')).length = m + m + (m + m) by rw [List.length_append, l1', l2']), Result.andThen_ok, r0, r1, r2, Sem.run_ite, Sem.run_pure]
 cases decide (a = a') <;> cases decide (b = b') <;> cases decide (e = e') <;> cases decide (f = f') <;> cases i <;> cases j <;> rfl
end
section
variable {P : Program} {c : Cx} {n : Nat} {l : Sl} {W : List Res} {ops : Array Oper} {Q : Exit → Act → World → Prop} {rest : List Oper}
variable {d : Nat} {T : TypeId} {pos : String} {after : Array Edge}
def litN (kk : IntKind) : Operand → Option Nat
 | .const (.int k (.ofNat n)) => if k = kk then some n else none
 | _ => none
def lits (kk : IntKind) : List (Nat × Operand) → Option (List Nat)
 | [] => some []
 | p :: r => match litN kk p.2, lits kk r with
  | some n, some ns => some (n :: ns)
  | _, _ => none
theorem litN_ev {kk : IntKind} {o : Operand} {n : Nat} (h : litN kk o = some n) : ev l o = some (N kk n) := by
 unfold litN at h
 split at h
 ·split at h
  ·rename_i hk
   cases h
   subst hk
   rfl
  ·cases h
 ·cases h
theorem lits_evs {kk : IntKind} : ∀ {ps : List (Nat × Operand)} {vs : List Nat}, lits kk ps = some vs → evs l (ps.map (·.2)) = some (vs.map (N kk))
 | [], vs, h => by
  cases h; rfl
 | p :: r, vs, h => by
  unfold lits at h
  split at h
  ·rename_i n ns h1 h2
   cases h
   simp only [List.map_cons, evs, litN_ev h1, lits_evs h2]
  ·cases h
theorem st_buildC {t E : TypeId} {m : Nat} {ps : List (Nat × Operand)} {kk : IntKind} {vs : List Nat} (ht : P.underlying t = some (.array m E)) (hz : zrOf P t = some (LV kk (List.replicate m 0))) (hs : szOf P E = some 1)
  (hq : Seq 0 ps = true) (hv : lits kk ps = some vs) (hl : ps.length = vs.length) (hm : Nat.ble vs.length m = true) (hn : Nat.blt d n = true)
  (hk : Go c n ((d, LV kk (vs ++ List.replicate (m - vs.length) 0)) :: l) W (wpList P ops Q rest)) :
  Go c n l W (wpList P ops Q (⟨some d, .build t ps.toArray, T, pos, after, none⟩ :: rest)) := st_buildP ht hz hs hq hl hm (lits_evs hv) hn hk
theorem st_buildV {t : TypeId} {fs : Array Field} {pl : List (Nat × Nat)} {z out : List Value} {is : List Nat} {xs : List Operand} {vs : List Value} (ht : P.underlying t = some (.struct fs)) (hpl : plOf P fs.toList = some pl) (hz : zrOf P t = some (.agg z.toArray))
  (hv : evs l xs = some vs) (hf : FillsV pl z (is.zip vs) out) (hn : Nat.blt d n = true)
  (hk : Go c n ((d, .agg out.toArray) :: l) W (wpList P ops Q rest)) : Go c n l W (wpList P ops Q (⟨some d, .build t (is.zip xs).toArray, T, pos, after, none⟩ :: rest)) :=
 st_val rfl rfl hn (fun a w ha hw => by
  have he : ((is.zip xs).map fun (p : Nat × Operand) => (p.1, a.eval p.2)) = is.zip vs := by
   have h1 : xs.map a.eval = vs := ha.evs hv
   have h2 : (is.zip xs).map (fun (p : Nat × Operand) => (p.1, a.eval p.2)) = is.zip (xs.map a.eval) := by rw [List.zip_map_right]; rfl
   rw [h2, h1]
  have hpp : (fs.mapM fun (f : Field) => (do let s ← sizeOf f.type; pure (f.offset, s) : Sem (Nat × Nat))).run P w = .ok pl.toArray w := run_plA hpl
  have hff := fillsV hf
  rw [← he] at hff
  simp only [execOp, Instr.build, Sem.run_bind, run_underlying ht, run_zero hz, hpp, Result.andThen_ok, List.map_toArray, Value.cells]
  rw [hff]
  rfl) hk
theorem st_buildG {t : TypeId} {fs : Array Field} {m : Nat} {xs ys : List Nat} {x y : Operand} (ht : P.underlying t = some (.struct fs)) (hpl : plOf P fs.toList = some [(0, m), (m, m), (m + m, 1)]) (hz : zrOf P t = some (GL (List.replicate (m + m) 0) false))
  (hv : evs l [x, y] = some [LV .u64 xs, LV .u64 ys]) (h1 : xs.length = m) (h2 : ys.length = m) (hn : Nat.blt d n = true)
  (hk : Go c n ((d, GL (xs ++ ys) false) :: l) W (wpList P ops Q rest)) : Go c n l W (wpList P ops Q (⟨some d, .build t #[(0, x), (1, y)], T, pos, after, none⟩ :: rest)) :=
 st_buildV (is := [0, 1]) (xs := [x, y]) (vs := [LV .u64 xs, LV .u64 ys]) (z := List.replicate m (N .u64 0) ++ List.replicate m (N .u64 0) ++ [Value.bool false]) (out := xs.map (N .u64) ++ ys.map (N .u64) ++ [Value.bool false]) ht hpl (by
  rw [hz, GL_def, List.map_replicate, List.replicate_append_replicate]) hv (by
  have e : List.replicate m (N .u64 0) ++ List.replicate m (N .u64 0) ++ [Value.bool false] = [] ++ List.replicate m (N .u64 0) ++ (List.replicate m (N .u64 0) ++ [Value.bool false]) := by rw [List.nil_append, List.append_assoc]
  rw [e]
  refine .cons (by simp) (by simpa [LV, Value.cells] using h1) ?_
  have e2 : [] ++ (LV .u64 xs).cells.toList ++ (List.replicate m (N .u64 0) ++ [Value.bool false]) = xs.map (N .u64) ++ List.replicate m (N .u64 0) ++ [Value.bool false] := by simp [LV, Value.cells]
  rw [e2]
  refine .cons (by simp [h1]) (by simpa [LV, Value.cells] using h2) ?_
  have e3 : (LV .u64 ys).cells.toList = ys.map (N .u64) := by simp [LV, Value.cells]
  rw [e3]
  exact .nil) hn (by rw [GL_def, List.map_append] at hk; exact hk)
theorem st_buildGi {t : TypeId} {fs : Array Field} {m : Nat} {x : Operand} {i : Bool} (ht : P.underlying t = some (.struct fs)) (hpl : plOf P fs.toList = some [(0, m), (m, m), (m + m, 1)]) (hz : zrOf P t = some (GL (List.replicate (m + m) 0) false))
  (hv : evs l [x] = some [Value.bool i]) (hn : Nat.blt d n = true)
  (hk : Go c n ((d, GL (List.replicate (m + m) 0) i) :: l) W (wpList P ops Q rest)) : Go c n l W (wpList P ops Q (⟨some d, .build t #[(2, x)], T, pos, after, none⟩ :: rest)) :=
 st_buildV (is := [2]) (xs := [x]) (vs := [Value.bool i]) (z := (List.replicate (m + m) 0).map (N .u64) ++ [Value.bool false] ++ []) (out := (List.replicate (m + m) 0).map (N .u64) ++ [Value.bool i] ++ []) ht hpl (by
  rw [hz, GL_def]; simp) hv (by
  refine .cons (by simp) (by simp [Value.cells]) ?_
  have e3 : (Value.bool i).cells.toList = [Value.bool i] := by simp [Value.cells]
  rw [e3]
  exact .nil) hn (by rw [GL_def] at hk; simpa using hk)
theorem st_store_GL {x y : Operand} {b m : Nat} {ys zs : List Nat} {i j : Bool} {E U : TypeId} {R : List Res} (hx : ev l x = some (pt b 0)) (hy : ev l y = some (GL zs j)) (hf : Find W (.blk b (GL ys i) U) R) (hz : szOf P E = some (m + 1)) (hl : ys.length = m) (hl' : zs.length = m)
  (hk : Go c n l (.blk b (GL zs j) U :: R) (wpList P ops Q rest)) : Go c n l W (wpList P ops Q (⟨none, .store E x y, T, pos, after, none⟩ :: rest)) := by
 rw [GL_def] at hy hf hk
 exact st_store_a hx hy hf hz (by simp [hl]) (by simp [hl']) (by
  intro v hv
  simp only [List.mem_append, List.mem_map, List.mem_singleton] at hv
  rcases hv with ⟨_, _, rfl⟩ | rfl <;> rfl) hk
theorem st_load_GL {x : Operand} {b m : Nat} {ys : List Nat} {i : Bool} {E U : TypeId} {R : List Res} (hx : ev l x = some (pt b 0)) (hf : Find W (.blk b (GL ys i) U) R) (hs : aggT P E = true) (hz : szOf P E = some (m + 1)) (hl : ys.length = m)
  (hn : Nat.blt d n = true) (hk : Go c n ((d, GL ys i) :: l) W (wpList P ops Q rest)) : Go c n l W (wpList P ops Q (⟨some d, .load E x, T, pos, after, none⟩ :: rest)) := by
 rw [GL_def] at hf hk
 exact st_load_a hx hf hs hz (by simp [hl]) hn hk
theorem st_ldpG {x : Operand} {b off m : Nat} {ys zs : List Nat} {i : Bool} {E U : TypeId} {R : List Res} (hx : ev l x = some (pt b off)) (hf : Find W (.blk b (GL ys i) U) R) (hs : aggT P E = true) (hz : szOf P E = some m)
  (hp : PartAt ys off m zs) (hn : Nat.blt d n = true)
  (hk : Go c n ((d, LV .u64 zs) :: l) W (wpList P ops Q rest)) : Go c n l W (wpList P ops Q (⟨some d, .load E x, T, pos, after, none⟩ :: rest)) :=
 st_val rfl rfl hn (fun a w ha hw => by
  have hh : w.heap[b]? = some (.cells (GL ys i).cells U (0, 0)) := hw.holds _ hf.mem
  rw [GL_cells] at hh
  have hl : zs.length = m := by obtain ⟨_, _, _, _, h⟩ := hp; exact h
  have := run_loadVar_a (P := P) (w := w) (b := b) (off := off) (cs := zs.map (N .u64)) hs (by simpa [hl] using hz) hh (fun j v hv => by
   have := ((hp.map (N .u64)).inl (ys := [Value.bool i])).get j v hv
   simpa using this)
  simp [execOp, ha.ev hx, Instr.loadAt, Instr.sureAddr, this, LV]) hk
theorem st_ldbG {x : Operand} {b off : Nat} {ys : List Nat} {i : Bool} {E U : TypeId} {R : List Res} (hx : ev l x = some (pt b off)) (hf : Find W (.blk b (GL ys i) U) R) (hs : scal P E = true) (hl : ys.length = off) (hn : Nat.blt d n = true)
  (hk : Go c n ((d, .bool i) :: l) W (wpList P ops Q rest)) : Go c n l W (wpList P ops Q (⟨some d, .load E x, T, pos, after, none⟩ :: rest)) :=
 st_val rfl rfl hn (fun a w ha hw => by
  have hh : w.heap[b]? = some (.cells (GL ys i).cells U (0, 0)) := hw.holds _ hf.mem
  rw [GL_cells] at hh
  have hc : w.cell? ⟨b, off, none⟩ = some (.bool i) := by
   rw [cell_of_row w b off _ U _ hh]; simp [← hl]
  simp [execOp, ha.ev hx, Instr.loadAt, Instr.sureAddr, run_loadVar_s hs hc]) hk
theorem st_endc_GL {fn : Func} {R : Ending → World → Prop} {t : Tmp} {b m : Nat} {T U : TypeId} {ys : List Nat} {i : Bool} {R0 : List Res}
  (hres : fn.results = #[.cell t T]) (hv : lk l t = some (pt b 0)) (hf : Find W (.blk b (GL ys i) U) R0) (hs : aggT P T = true) (hz : szOf P T = some (m + 1)) (hl : ys.length = m)
  (hR : ∀ w, SatW c W w → R (.returned (GL ys i)) w) : Go c n l W (bodyPost P fn R .ret) := by
 rw [GL_def] at hf
 exact st_endc hres hv hf hs (by rw [hz]; simp [hl]) (by rw [GL_def] at hR; exact hR)
theorem st_eqGv {r : Bool} {t A E yt : TypeId} {f0 f1 f2 g0 g1 : Field} {m : Nat} {x y : Operand} {a b e f a' b' e' f' : List Nat} {i j : Bool}
  (hr : (((decide (a = a') && decide (b = b')) && (decide (e = e') && decide (f = f'))) && decide (i = j)) = r)
  (hx : ev l x = some (GL ((a ++ b) ++ (e ++ f)) i)) (hy : ev l y = some (GL ((a' ++ b') ++ (e' ++ f')) j)) (ht : P.underlying t = some (.struct #[f0, f1, f2])) (hst : P.stoodInHeld t = false) (hn0 : (f0.name != "_") = true) (hn1 : (f1.name != "_") = true) (hn2 : (f2.name != "_") = true)
  (k0 : f0.type = A) (k1 : f1.type = A) (hs : szOf P A = some (m + m)) (ho0 : f0.offset = 0) (ho1 : f1.offset = m + m) (ho2 : f2.offset = m + m + (m + m)) (h2 : P.underlying f2.type = some .bool)
  (hA : P.underlying A = some (.struct #[g0, g1])) (hstA : P.stoodInHeld A = false) (gn0 : (g0.name != "_") = true) (gn1 : (g1.name != "_") = true)
  (h0 : P.underlying g0.type = some (.array m E)) (h1 : P.underlying g1.type = some (.array m E)) (hs0 : szOf P g0.type = some m) (hs1 : szOf P g1.type = some m) (go0 : g0.offset = 0) (go1 : g1.offset = m)
  (hE : P.underlying E = some (.int .u64)) (hz : szOf P E = some 1) (hg : P.eqGuardType P.depth t = false)
  (la : a.length = m) (lb : b.length = m) (le : e.length = m) (lf : f.length = m) (la' : a'.length = m) (lb' : b'.length = m) (le' : e'.length = m) (lf' : f'.length = m) (hn : Nat.blt d n = true)
  (hk : Go c n ((d, .bool r) :: l) W (wpList P ops Q rest)) : Go c n l W (wpList P ops Q (⟨some d, .binOp .eql t x y yt, T, pos, after, none⟩ :: rest)) :=
 st_val rfl rfl hn (fun w0 w ha _ => by
  have q1 := run_recG (w := w) (i := i) (j := j) ht hst hn0 hn1 hn2 k0 k1 hs ho0 ho1 ho2 h2 hA hstA gn0 gn1 h0 h1 hs0 hs1 go0 go1 hE hz la lb le lf la' lb' le' lf'
  rw [hr] at q1
  rw [GL_def] at hx hy
  rw [GL_def, GL_def] at q1
  have q2 := run_eqGuard_agg (P := P) w .eql t x y (((a ++ b) ++ (e ++ f)).map (N .u64) ++ [Value.bool i]).toArray (((a' ++ b') ++ (e' ++ f')).map (N .u64) ++ [Value.bool j]).toArray hg
  have q3 := run_eql_struct (P := P) w t (((a ++ b) ++ (e ++ f)).map (N .u64) ++ [Value.bool i]).toArray (((a' ++ b') ++ (e' ++ f')).map (N .u64) ++ [Value.bool j]).toArray
  rw [q1] at q3
  simp only [execOp, ha.ev hx, ha.ev hy, Sem.run_bind, q2, Result.andThen_ok, q3, Sem.run_pure]) hk
end
end Go.Proofs.YtbpmbdlgmmabcaaGreat.L
namespace Go.Proofs.YtbpmbdlgmmabcaaGreat.L
open Go Go.Proofs
section
variable {α : Type}
theorem PartAt.t0 {xs ys zs : List α} {m : Nat} (h : xs.length = m) : PartAt (xs ++ (ys ++ zs)) 0 m xs := PartAt.l h
theorem PartAt.t1 {xs ys zs : List α} {m : Nat} (h : xs.length = m) (h2 : ys.length = m) : PartAt (xs ++ (ys ++ zs)) m m ys := ⟨xs, zs, by simp, h, h2⟩
theorem PartAt.t2 {xs ys zs : List α} {m : Nat} (h : xs.length = m) (h2 : ys.length = m) (h3 : zs.length = m) : PartAt (xs ++ (ys ++ zs)) (m + m) m zs := ⟨xs ++ ys, [], by simp, by simp [h, h2], h3⟩
end
section
variable {P : Program}
theorem run_rec3 {w : World} {t A E : TypeId} {f0 f1 f2 g0 g1 : Field} {m : Nat} (ht : P.underlying t = some (.struct #[f0, f1, f2])) (hst : P.stoodInHeld t = false) (hn0 : (f0.name != "_") = true) (hn1 : (f1.name != "_") = true) (hn2 : (f2.name != "_") = true)
  (k0 : f0.type = A) (k1 : f1.type = A) (k2 : f2.type = A) (hs : szOf P A = some (m + m)) (ho0 : f0.offset = 0) (ho1 : f1.offset = m + m) (ho2 : f2.offset = m + m + (m + m))
  (hA : P.underlying A = some (.struct #[g0, g1])) (hstA : P.stoodInHeld A = false) (gn0 : (g0.name != "_") = true) (gn1 : (g1.name != "_") = true)
  (h0 : P.underlying g0.type = some (.array m E)) (h1 : P.underlying g1.type = some (.array m E)) (hs0 : szOf P g0.type = some m) (hs1 : szOf P g1.type = some m) (go0 : g0.offset = 0) (go1 : g1.offset = m)
  (hE : P.underlying E = some (.int .u64)) (hz : szOf P E = some 1) {a b e f g h a' b' e' f' g' h' : List Nat} (la : a.length = m) (lb : b.length = m) (le : e.length = m) (lf : f.length = m) (lg : g.length = m) (lh : h.length = m) (la' : a'.length = m) (lb' : b'.length = m) (le' : e'.length = m) (lf' : f'.length = m) (lg' : g'.length = m) (lh' : h'.length = m) :
  (Op.equalIn 10000 t (LV .u64 ((a ++ b) ++ ((e ++ f) ++ (g ++ h)))) (LV .u64 ((a' ++ b') ++ ((e' ++ f') ++ (g' ++ h'))))).run P w = .ok (((decide (a = a') && decide (b = b')) && (decide (e = e') && decide (f = f'))) && (decide (g = g') && decide (h = h'))) w := by
 have hf : P.fieldsOf t = #[f0, f1, f2] := by unfold Program.fieldsOf; rw [ht]
 have q := run_equalIn_struct (P := P) w 9999 t (((a ++ b) ++ ((e ++ f) ++ (g ++ h))).map (N .u64)).toArray (((a' ++ b') ++ ((e' ++ f') ++ (g' ++ h'))).map (N .u64)).toArray (by rw [hf]; exact ht) hst
 rw [hf] at q
 simp only [LV]
 rw [q]
 have a0 : aggT P A = true := by unfold aggT; rw [hA]
 have pp : ∀ (fl : Field) (k : fl.type = A) (vs zs : List Nat) (off : Nat) (ho : fl.offset = off), PartAt vs off (m + m) zs → (part fl.type (vs.map (N .u64)).toArray fl.offset).run P w = .ok (LV .u64 zs) w := fun fl k vs zs off ho hp => by
  have he := (hp.map (N .u64)).ext
  simp only [part, Sem.run_bind, k, run_isAgg_t a0, Result.andThen_ok, if_true, run_sizeOf hs, ho, he, Sem.run_pure, LV]
 have r0 := run_rec2D 9996 (w := w) (k := .u64) (t := A) hA hstA gn0 gn1 h0 h1 hs0 hs1 go0 go1 hE hz la lb la' lb'
 have r1 := run_rec2D 9996 (w := w) (k := .u64) (t := A) hA hstA gn0 gn1 h0 h1 hs0 hs1 go0 go1 hE hz le lf le' lf'
 have r2 := run_rec2D 9996 (w := w) (k := .u64) (t := A) hA hstA gn0 gn1 h0 h1 hs0 hs1 go0 go1 hE hz lg lh lg' lh'
 rw [← k0] at r0
 rw [← k1] at r1
 rw [← k2] at r2
 have n0 : f0.name ≠ "_" := by simpa using hn0
 have n1 : f1.name ≠ "_" := by simpa using hn1
 have n2 : f2.name ≠ "_" := by simpa using hn2
 have l1 : (a ++ b).length = m + m := by simp [la, lb]
 have l2 : (e ++ f).length = m + m := by simp [le, lf]
 have l3 : (g ++ h).length = m + m := by simp [lg, lh]
 have l1' : (a' ++ b').length = m + m := by simp [la', lb']
 have l2' : (e' ++ f').length = m + m := by simp [le', lf']
 have l3' : (g' ++ h').length = m + m := by simp [lg', lh']
 simp only [Op.eqFields, if_pos n0, if_pos n1, if_pos n2, Sem.run_bind, pp _ k0 _ _ _ ho0 (PartAt.t0 l1), pp _ k0 _ _ _ ho0 (PartAt.t0 l1'), pp _ k1 _ _ _ ho1 (PartAt.t1 l1 l2), pp _ k1 _ _ _ ho1 (PartAt.t1 l1' l2'), pp _ k2 _ _ _ ho2 (PartAt.t2 l1 l2 l3), pp _ k2 _ _ _ ho2 (PartAt.t2 l1' l2' l3'), Result.andThen_ok, r0, r1, r2, Sem.run_ite, Sem.run_pure]
 cases decide (a = a') <;> cases decide (b = b') <;> cases decide (e = e') <;> cases decide (f = f') <;> cases decide (g = g') <;> cases decide (h = h') <;> rfl
end
section
variable {P : Program} {c : Cx} {n : Nat} {l : Sl} {W : List Res} {ops : Array Oper} {Q : Exit → Act → World → Prop} {rest : List Oper}
variable {d : Nat} {T : TypeId} {pos : String} {after : Array Edge}
theorem st_build3 {t : TypeId} {fs : Array Field} {m : Nat} {k : IntKind} {xs ys zs : List Nat} {x y z : Operand} (ht : P.underlying t = some (.struct fs)) (hpl : plOf P fs.toList = some [(0, m), (m, m), (m + m, m)]) (hz : zrOf P t = some (LV k (List.replicate (m + (m + m)) 0)))
  (hv : evs l [x, y, z] = some [LV k xs, LV k ys, LV k zs]) (h1 : xs.length = m) (h2 : ys.length = m) (h3 : zs.length = m) (hn : Nat.blt d n = true)
  (hk : Go c n ((d, LV k (xs ++ (ys ++ zs))) :: l) W (wpList P ops Q rest)) : Go c n l W (wpList P ops Q (⟨some d, .build t #[(0, x), (1, y), (2, z)], T, pos, after, none⟩ :: rest)) :=
 st_buildS (is := [0, 1, 2]) (xs := [x, y, z]) (vs := [xs, ys, zs]) ht hpl hz hv (by
  have e : List.replicate (m + (m + m)) 0 = [] ++ List.replicate m 0 ++ (List.replicate m 0 ++ List.replicate m 0) := by rw [List.nil_append, List.replicate_append_replicate, List.replicate_append_replicate]
  rw [e]
  refine .cons (by simp) (by simpa using h1) ?_
  have e2 : [] ++ xs ++ (List.replicate m 0 ++ List.replicate m 0) = xs ++ List.replicate m 0 ++ List.replicate m 0 := by simp
  rw [e2]
  refine .cons (by simp [h1]) (by simpa using h2) ?_
  have e3 : xs ++ ys ++ List.replicate m 0 = (xs ++ ys) ++ List.replicate m 0 ++ [] := by simp
  rw [e3]
  refine .cons (by simp [h1, h2]) (by simpa using h3) ?_
  rw [List.append_nil, List.append_assoc]; exact .nil) hn hk
theorem st_eq3v {r : Bool} {t A E yt : TypeId} {f0 f1 f2 g0 g1 : Field} {m : Nat} {x y : Operand} {a b e f g h a' b' e' f' g' h' : List Nat}
  (hr : (((decide (a = a') && decide (b = b')) && (decide (e = e') && decide (f = f'))) && (decide (g = g') && decide (h = h'))) = r)
  (hx : ev l x = some (LV .u64 ((a ++ b) ++ ((e ++ f) ++ (g ++ h))))) (hy : ev l y = some (LV .u64 ((a' ++ b') ++ ((e' ++ f') ++ (g' ++ h'))))) (ht : P.underlying t = some (.struct #[f0, f1, f2])) (hst : P.stoodInHeld t = false) (hn0 : (f0.name != "_") = true) (hn1 : (f1.name != "_") = true) (hn2 : (f2.name != "_") = true)
  (k0 : f0.type = A) (k1 : f1.type = A) (k2 : f2.type = A) (hs : szOf P A = some (m + m)) (ho0 : f0.offset = 0) (ho1 : f1.offset = m + m) (ho2 : f2.offset = m + m + (m + m))
  (hA : P.underlying A = some (.struct #[g0, g1])) (hstA : P.stoodInHeld A = false) (gn0 : (g0.name != "_") = true) (gn1 : (g1.name != "_") = true)
  (h0 : P.underlying g0.type = some (.array m E)) (h1 : P.underlying g1.type = some (.array m E)) (hs0 : szOf P g0.type = some m) (hs1 : szOf P g1.type = some m) (go0 : g0.offset = 0) (go1 : g1.offset = m)
  (hE : P.underlying E = some (.int .u64)) (hz : szOf P E = some 1) (hg : P.eqGuardType P.depth t = false)
  (la : a.length = m) (lb : b.length = m) (le : e.length = m) (lf : f.length = m) (lg : g.length = m) (lh : h.length = m) (la' : a'.length = m) (lb' : b'.length = m) (le' : e'.length = m) (lf' : f'.length = m) (lg' : g'.length = m) (lh' : h'.length = m) (hn : Nat.blt d n = true)
  (hk : Go c n ((d, .bool r) :: l) W (wpList P ops Q rest)) : Go c n l W (wpList P ops Q (⟨some d, .binOp .eql t x y yt, T, pos, after, none⟩ :: rest)) :=
 st_val rfl rfl hn (fun w0 w ha _ => by
  have q1 := run_rec3 (w := w) ht hst hn0 hn1 hn2 k0 k1 k2 hs ho0 ho1 ho2 hA hstA gn0 gn1 h0 h1 hs0 hs1 go0 go1 hE hz la lb le lf lg lh la' lb' le' lf' lg' lh'
  rw [hr] at q1
  have q2 := run_eqGuard_agg (P := P) w .eql t x y (((a ++ b) ++ ((e ++ f) ++ (g ++ h))).map (N .u64)).toArray (((a' ++ b') ++ ((e' ++ f') ++ (g' ++ h'))).map (N .u64)).toArray hg
  have q3 := run_eql_struct (P := P) w t (((a ++ b) ++ ((e ++ f) ++ (g ++ h))).map (N .u64)).toArray (((a' ++ b') ++ ((e' ++ f') ++ (g' ++ h'))).map (N .u64)).toArray
  simp only [LV] at q1 hx hy
  rw [q1] at q3
  simp only [execOp, ha.ev hx, ha.ev hy, Sem.run_bind, q2, Result.andThen_ok, q3, Sem.run_pure]) hk
theorem st_build0G {t : TypeId} {fs : Array Field} {pl : List (Nat × Nat)} {m : Nat} (ht : P.underlying t = some (.struct fs)) (hpl : plOf P fs.toList = some pl) (hz : zrOf P t = some (GL (List.replicate m 0) false)) (hn : Nat.blt d n = true)
  (hk : Go c n ((d, GL (List.replicate m 0) false) :: l) W (wpList P ops Q rest)) : Go c n l W (wpList P ops Q (⟨some d, .build t #[], T, pos, after, none⟩ :: rest)) :=
 st_buildV (is := []) (xs := []) (vs := []) (z := (List.replicate m 0).map (N .u64) ++ [Value.bool false]) (out := (List.replicate m 0).map (N .u64) ++ [Value.bool false]) ht hpl (by rw [hz, GL_def]) rfl .nil hn (by rw [GL_def] at hk; exact hk)
theorem st_endc2_GL {fn : Func} {R : Ending → World → Prop} {t u : Tmp} {b m : Nat} {T U : TypeId} {ys : List Nat} {i : Bool} {v : Value} {R0 : List Res}
  (hres : fn.results = #[.cell t T, .tmp u]) (hv : lk l t = some (pt b 0)) (hu : lk l u = some v) (hf : Find W (.blk b (GL ys i) U) R0) (hs : aggT P T = true) (hz : szOf P T = some (m + 1)) (hl : ys.length = m)
  (hR : ∀ w, SatW c W w → R (.returned (.tuple #[GL ys i, v])) w) : Go c n l W (bodyPost P fn R .ret) := by
 rw [GL_def] at hf
 exact st_endc2 hres hv hu hf hs (by rw [hz]; simp [hl]) (by rw [GL_def] at hR; exact hR)
end
end Go.Proofs.YtbpmbdlgmmabcaaGreat.L
namespace Go.Proofs.YtbpmbdlgmmabcaaGreat.Num
theorem drop_get {P xs : List Nat} {i : Nat} (h : P.length = i) : (P ++ xs.drop i).getD i 0 = xs.getD i 0 := by
 rw [List.getD_eq_getElem?_getD, List.getElem?_append_right (by omega), h, Nat.sub_self, List.getElem?_drop, Nat.add_zero, ← List.getD_eq_getElem?_getD]
theorem drop_get1 {P xs : List Nat} {i : Nat} (h : P.length = i) : (P ++ xs.drop i).getD (i + 1) 0 = xs.getD (i + 1) 0 := by
 rw [List.getD_eq_getElem?_getD, List.getElem?_append_right (by omega), h, show i + 1 - i = 1 by omega, List.getElem?_drop, ← List.getD_eq_getElem?_getD]
theorem D_getD' {m X : Nat} (h : X < W ^ m) (i : Nat) : (D m X).getD i 0 = X / W ^ i % W := by rw [V_getD (D_lt _ _), V_D' h]
theorem drop_set {P xs : List Nat} {i : Nat} (h : P.length = i) (hi : i < xs.length) (y : Nat) : (P ++ xs.drop i).set i y = P ++ [y] ++ xs.drop (i + 1) := by
 rw [List.set_append_right _ _ (by omega), h, Nat.sub_self, List.drop_eq_getElem_cons hi, List.set_cons_zero, List.append_assoc]; rfl
theorem crun_drop (g : Nat → Nat → Nat → Nat × Nat) (xs ys : List Nat) (i : Nat) (h : i < xs.length) :
  ((crun g xs ys i).1 ++ xs.drop i).set i (g (xs.getD i 0) (ys.getD i 0) (crun g xs ys i).2).1 = (crun g xs ys (i + 1)).1 ++ xs.drop (i + 1) := by
 rw [drop_set (crun_len g xs ys i) h, ← crun_fst]
theorem crun_new (g : Nat → Nat → Nat → Nat × Nat) (xs ys : List Nat) (i n : Nat) (h : i < n) :
  ((crun g xs ys i).1 ++ List.replicate (n - i) 0).set i (g (xs.getD i 0) (ys.getD i 0) (crun g xs ys i).2).1 = (crun g xs ys (i + 1)).1 ++ List.replicate (n - (i + 1)) 0 := by
 rw [crun_set g xs ys i n h, ← crun_fst]
theorem subg_fst (x y c : Nat) : (subg x y c).1 = (x + 18446744073709551616 - y - c) % 18446744073709551616 := rfl
theorem subg_snd (x y c : Nat) : (subg x y c).2 = if x < y + c then 1 else 0 := rfl
theorem addg_fst (x y c : Nat) : (addg x y c).1 = (x + y + c) % 18446744073709551616 := rfl
theorem addg_snd (x y c : Nat) : (addg x y c).2 = (x + y + c) / 18446744073709551616 := rfl
theorem D_sbn {k A B : Nat} (h : B ≤ A) : D k (sbn k A B) = D k (A - B) := by
 rw [sbn, show A + W ^ k - B = A - B + W ^ k by omega, ← D_mod, Nat.add_mod_right, D_mod]
theorem crun_subD {k A B : Nat} (hA : A < W ^ k) (hB : B < W ^ k) : crun subg (D k A) (D k B) k = (D k (sbn k A B), bwn A B) := by
 have h := crun_sub_end (D_lt k A) (D_lt k B) (n := k) (by rw [D_len]; exact Nat.le_refl _) (by rw [D_len]; exact Nat.le_refl _)
 rw [V_D' hA, V_D' hB] at h; exact h
theorem crun_addD {k A B : Nat} (hA : A < W ^ k) (hB : B < W ^ k) : crun addg (D k A) (D k B) k = (D k (A + B), (A + B) / W ^ k) := by
 have h := crun_add_end (D_lt k A) (D_lt k B) (n := k) (by rw [D_len]; exact Nat.le_refl _) (by rw [D_len]; exact Nat.le_refl _)
 rw [V_D' hA, V_D' hB] at h; exact h
theorem crun_subD_le (k A B i : Nat) : (crun subg (D k A) (D k B) i).2 ≤ 1 := crun_le subg_le (D_lt _ _) (D_lt _ _) i
theorem crun_addD_le (k A B i : Nat) : (crun addg (D k A) (D k B) i).2 ≤ 1 := crun_le addg_le (D_lt _ _) (D_lt _ _) i
def lessv (k m A c : Nat) : Nat := if A + c * W ^ k < m then A else A + c * W ^ k - m
theorem lessv_of {k m A c : Nat} (hm : m < W ^ k) (hc : c ≤ 1) : (if bwn A m > c then D k A else D k (sbn k A m)) = D k (lessv k m A c) := by
 have h01 : c = 0 ∨ c = 1 := by omega
 unfold lessv bwn
 rcases h01 with rfl | rfl
 ·by_cases h : A < m
  ·rw [if_pos h, if_pos (by decide), if_pos (by omega)]
  ·rw [if_neg h, if_neg (by decide), if_neg (by omega), Nat.zero_mul, Nat.add_zero, D_sbn (by omega)]
 ·rw [if_neg (show ¬ A + 1 * W ^ k < m by omega)]
  rw [if_neg (by split <;> omega), Nat.one_mul, sbn]
theorem lessv_sum {k m S : Nat} (h : S < 2 * m) (hm : m < W ^ k) : lessv k m (S % W ^ k) (S / W ^ k) = S % m := by
 unfold lessv
 rw [Nat.mul_comm, Nat.mod_add_div]
 by_cases hs : S < m
 ·rw [if_pos hs, Nat.mod_eq_of_lt hs, Nat.mod_eq_of_lt (by omega)]
 ·rw [if_neg hs, Nat.mod_eq_sub_mod (by omega), Nat.mod_eq_of_lt (a := S - m) (by omega)]
theorem six {ys : List Nat} (h : ys.length = 6) : [ys.getD 0 0, ys.getD 1 0, ys.getD 2 0, ys.getD 3 0, ys.getD 4 0, ys.getD 5 0] = ys := by
 match ys, h with
 | [a, b, c, d, e, f], _ => rfl
end Go.Proofs.YtbpmbdlgmmabcaaGreat.Num
namespace Go.Proofs.YtbpmbdlgmmabcaaGreat.L
open Go
section
variable {P : Program} {c : Cx} {n : Nat} {l : Sl} {W : List Res} {ops : Array Oper} {Q : Exit → Act → World → Prop} {rest : List Oper}
variable {d : Nat} {T : TypeId} {pos : String} {after : Array Edge}
theorem st_doV {o : Oper} {W' : List Res} (hd : o.dst = none) (hg : o.guard = none)
  (h : ∀ a w, SatA n l a → SatW c W w → ∃ v w', (execOp a.eval o).run P w = .ok (.value v) w' ∧ SatW c W' w')
  (hk : Go c n l W' (wpList P ops Q rest)) : Go c n l W (wpList P ops Q (o :: rest)) := by
 intro a w ha hw
 obtain ⟨v, w', hr, hw'⟩ := h a w ha hw
 refine wpList_plain hg fun K hK => ?_
 show o.upon P a K Q ((execOp a.eval o).run P w)
 rw [hr]
 show K (a.put o.dst v) w'
 rw [hd]
 exact hK _ _ (hk _ _ ha hw')
theorem st_clear {x : Operand} {b m lo hi : Nat} {kk : IntKind} {cs : List Nat} {t E U : TypeId} {R : List Res} (hx : ev l x = some (subA b m lo hi)) (hf : Find W (.blk b (LV kk cs) U) R)
  (ht : P.underlying t = some (.slice E)) (hz : zrOf P E = some (N kk 0)) (hm : cs.length = m) (h1 : lo ≤ hi) (h2 : hi ≤ m)
  (hk : Go c n l (.blk b (LV kk (cs.take lo ++ List.replicate (hi - lo) 0 ++ cs.drop hi)) U :: R) (wpList P ops Q rest)) :
  Go c n l W (wpList P ops Q (⟨none, .call { callee := .builtin .clear, args := #[x], argTypes := #[t] }, T, pos, after, none⟩ :: rest)) :=
 st_doV rfl rfl (W' := .blk b (LV kk (cs.take lo ++ List.replicate (hi - lo) 0 ++ cs.drop hi)) U :: R)
  (fun a w ha hw => by
   have hw := hw.perm hf.perm
   have hh : w.heap[b]? = some (.cells (cs.map (N kk)).toArray U (0, 0)) := hw.holds _ (List.mem_cons_self ..)
   by_cases he : hi - lo = 0
   ·have e1 : cs.take lo ++ List.replicate (hi - lo) 0 ++ cs.drop hi = cs := by
     rw [he, List.replicate_zero, List.append_nil, show hi = lo by omega, List.take_append_drop]
    rw [e1]
    refine ⟨.tuple #[], w, ?_, hw⟩
    simp [execOp, ha.ev hx, resolve, invoke, builtin, Builtin.clear_, run_underlying ht, subA, he]
   ·have hml : ¬ m = lo := by omega
    have hzc : (Builtin.zeroCells (N kk 0).cells (hi - lo)).toList = List.replicate (hi - lo) (N kk 0) := by
     apply List.ext_getElem
     ·simp [Builtin.zeroCells, Value.cells]
     ·intro j h1' h2'
      simp [Builtin.zeroCells, Value.cells, Nat.mod_one]
    have hst := run_storeCells_blk (P := P) (off := lo) (vs := List.replicate (hi - lo) (N kk 0)) hh (by simp; omega) (fun v hv => by rw [List.eq_of_mem_replicate hv]; rfl)
    have e2 : (cs.map (N kk)).take lo ++ List.replicate (hi - lo) (N kk 0) ++ (cs.map (N kk)).drop (lo + (List.replicate (hi - lo) (N kk 0)).length) = (cs.take lo ++ List.replicate (hi - lo) 0 ++ cs.drop hi).map (N kk) := by
     rw [List.length_replicate, show lo + (hi - lo) = hi by omega]
     simp [List.map_append, List.map_take, List.map_drop]
    rw [e2] at hst
    refine ⟨.tuple #[], w.setRow b ((cs.take lo ++ List.replicate (hi - lo) 0 ++ cs.drop hi).map (N kk)).toArray, ?_, satW_setRow hw (r' := .blk b (LV kk (cs.take lo ++ List.replicate (hi - lo) 0 ++ cs.drop hi)) U) rfl rfl hh (fun w' h => by simp only [Res.holds, LV, Value.cells]; rw [h])⟩
    have hn0 : hi - lo ≠ 0 := he
    obtain ⟨k, hk⟩ : ∃ k, hi - lo = k + 1 := ⟨hi - lo - 1, by omega⟩
    rw [hk] at hst hzc
    simp [execOp, ha.ev hx, resolve, invoke, builtin, Builtin.clear_, run_underlying ht, subA, if_neg hml, hk, run_zero hz, hzc, hst]) hk
end
end Go.Proofs.YtbpmbdlgmmabcaaGreat.L
namespace Go.Proofs.YtbpmbdlgmmabcaaGreat.L.Pr
def Prime (p : Nat) : Prop := 1 < p ∧ ∀ d, d ∣ p → d = 1 ∨ d = p
theorem Prime.pos {p : Nat} (h : Prime p) : 0 < p := Nat.lt_trans Nat.zero_lt_one h.1
theorem Prime.cop {p a : Nat} (hp : Prime p) (h : ¬ p ∣ a) : Nat.Coprime p a := by
 rcases hp.2 _ (Nat.gcd_dvd_left p a) with h1 | h1
 ·exact h1
 ·exact absurd (h1 ▸ Nat.gcd_dvd_right p a) h
theorem Prime.dvd_mul {p a b : Nat} (hp : Prime p) (h : p ∣ a * b) : p ∣ a ∨ p ∣ b := by
 by_cases ha : p ∣ a
 ·exact .inl ha
 ·exact .inr ((hp.cop ha).dvd_of_dvd_mul_left h)
theorem Prime.dvd_pow {p a : Nat} (hp : Prime p) : ∀ {k : Nat}, p ∣ a ^ k → p ∣ a
 | 0, h => by
  rw [Nat.pow_zero] at h
  have := Nat.le_of_dvd (by decide) h
  have := hp.1
  omega
 | k + 1, h => by
  rw [Nat.pow_succ] at h
  rcases hp.dvd_mul h with h1 | h1
  ·exact hp.dvd_pow h1
  ·exact h1
theorem has_prime : ∀ {n : Nat}, 1 < n → ∃ p, Prime p ∧ p ∣ n := by
 intro n
 induction n using Nat.strongRecOn with
 | ind n ih =>
  intro h
  by_cases hp : Prime n
  ·exact ⟨n, hp, Nat.dvd_refl n⟩
  ·have : ∃ d, d ∣ n ∧ d ≠ 1 ∧ d ≠ n := by
    apply Classical.byContradiction
    intro hc
    refine hp ⟨h, fun d hd => ?_⟩
    apply Classical.byContradiction
    intro hd2
    exact hc ⟨d, hd, fun e => hd2 (.inl e), fun e => hd2 (.inr e)⟩
   obtain ⟨d, hd, h1, h2⟩ := this
   have h3 := Nat.le_of_dvd (by omega) hd
   have h4 := Nat.pos_of_dvd_of_pos hd (by omega)
   obtain ⟨p, hp1, hp2⟩ := ih d (by omega) (by omega)
   exact ⟨p, hp1, Nat.dvd_trans hp2 hd⟩
theorem small_prime {n : Nat} (h : 1 < n) (hn : ¬ Prime n) : ∃ p, Prime p ∧ p ∣ n ∧ p * p ≤ n := by
 have : ∃ d, d ∣ n ∧ d ≠ 1 ∧ d ≠ n := by
  apply Classical.byContradiction
  intro hc
  refine hn ⟨h, fun d hd => ?_⟩
  apply Classical.byContradiction
  intro hd2
  exact hc ⟨d, hd, fun e => hd2 (.inl e), fun e => hd2 (.inr e)⟩
 obtain ⟨d, ⟨e, he⟩, h1, h2⟩ := this
 have hd0 : d ≠ 0 := by rintro rfl; omega
 have he0 : e ≠ 0 := by rintro rfl; omega
 have he1 : e ≠ 1 := by rintro rfl; omega
 rcases Nat.le_total d e with hle | hle
 ·obtain ⟨p, hp, hpd⟩ := has_prime (n := d) (by omega)
  have := Nat.le_of_dvd (by omega) hpd
  exact ⟨p, hp, he ▸ Nat.dvd_trans hpd (Nat.dvd_mul_right d e), he ▸ Nat.mul_le_mul this (Nat.le_trans this hle)⟩
 ·obtain ⟨p, hp, hpd⟩ := has_prime (n := e) (by omega)
  have := Nat.le_of_dvd (by omega) hpd
  exact ⟨p, hp, he ▸ Nat.dvd_trans hpd (Nat.dvd_mul_left e d), he ▸ Nat.mul_le_mul (Nat.le_trans this hle) this⟩
def lst (g : Nat → Nat) : Nat → List Nat
 | 0 => []
 | n + 1 => g n :: lst g n
def prod : List Nat → Nat
 | [] => 1
 | x :: r => x * prod r
theorem mem_lst {g : Nat → Nat} {y : Nat} : ∀ {n : Nat}, y ∈ lst g n ↔ ∃ i, i < n ∧ y = g i
 | 0 => by simp [lst]
 | n + 1 => by
  rw [lst, List.mem_cons, mem_lst]
  constructor
  ·rintro (h | ⟨i, hi, h⟩)
   ·exact ⟨n, by omega, h⟩
   ·exact ⟨i, by omega, h⟩
  ·rintro ⟨i, hi, h⟩
   by_cases hc : i = n
   ·subst hc; exact .inl h
   ·exact .inr ⟨i, by omega, h⟩
theorem len_lst {g : Nat → Nat} : ∀ {n : Nat}, (lst g n).length = n
 | 0 => rfl
 | n + 1 => by rw [lst, List.length_cons, len_lst]
theorem nodup_lst {g : Nat → Nat} : ∀ {n : Nat}, (∀ i j, i < j → j < n → g j ≠ g i) → (lst g n).Nodup
 | 0, _ => List.nodup_nil
 | n + 1, h => by
  rw [lst, List.nodup_cons]
  refine ⟨fun hm => ?_, nodup_lst fun i j h1 h2 => h i j h1 (by omega)⟩
  obtain ⟨i, hi, he⟩ := mem_lst.1 hm
  exact h i n hi (by omega) he
theorem prod_perm {l m : List Nat} (h : l.Perm m) : prod l = prod m := by
 induction h with
 | nil => rfl
 | cons x _ ih => simp only [prod, ih]
 | swap x y l => simp only [prod, Nat.mul_left_comm]
 | trans _ _ h1 h2 => exact h1.trans h2
theorem perm_of_sub : ∀ {l m : List Nat}, l.Nodup → (∀ x ∈ l, x ∈ m) → m.length ≤ l.length → l.Perm m
 | [], m, _, _, hl => by
  cases m with
  | nil => exact .nil
  | cons x r => simp at hl
 | x :: l, m, hn, hs, hl => by
  have hx := hs x (List.mem_cons_self ..)
  have hn := List.nodup_cons.1 hn
  have hp := List.perm_cons_erase hx
  refine List.Perm.trans (List.Perm.cons x (perm_of_sub hn.2 (fun y hy => ?_) ?_)) hp.symm
  ·have hne : y ≠ x := by rintro rfl; exact hn.1 hy
   exact (List.mem_erase_of_ne hne).2 (hs y (List.mem_cons_of_mem _ hy))
  ·have := hp.length_eq
   simp only [List.length_cons] at this hl
   omega
theorem prod_mul_mod (a p : Nat) : ∀ n, prod (lst (fun i => a * (i + 1) % p) n) % p = a ^ n * prod (lst (fun i => i + 1) n) % p
 | 0 => by simp [lst, prod]
 | n + 1 => by
  rw [lst, prod, lst, prod, Nat.mul_mod, prod_mul_mod a p n, Nat.mod_mod, ← Nat.mul_mod]
  congr 1
  rw [Nat.pow_succ]
  simp only [Nat.mul_assoc, Nat.mul_left_comm, Nat.mul_comm]
theorem prod_cop {p : Nat} (hp : Prime p) : ∀ n, n < p → ¬ p ∣ prod (lst (fun i => i + 1) n)
 | 0, _, h => by
  rw [lst, prod] at h
  have := Nat.le_of_dvd (by decide) h
  have := hp.1
  omega
 | n + 1, hn, h => by
  rw [lst, prod] at h
  rcases hp.dvd_mul h with h1 | h1
  ·have := Nat.le_of_dvd (by omega) h1
   omega
  ·exact prod_cop hp n (by omega) h1
theorem cancel {p a b q : Nat} (hp : Prime p) (hq : ¬ p ∣ q) (hab : b ≤ a) (h : a * q % p = b * q % p) : a % p = b % p := by
 have h1 := Nat.sub_mod_eq_zero_of_mod_eq h
 rw [← Nat.sub_mul] at h1
 rcases hp.dvd_mul (Nat.dvd_of_mod_eq_zero h1) with h2 | h2
 ·obtain ⟨c, hc⟩ := h2
  rw [show a = b + p * c by omega, Nat.add_mul_mod_self_left]
 ·exact absurd h2 hq
theorem fermat {p a : Nat} (hp : Prime p) (ha : ¬ p ∣ a) : a ^ (p - 1) % p = 1 := by
 have hp1 := hp.1
 have ha0 : 0 < a := by
  rcases Nat.eq_zero_or_pos a with h | h
  ·subst h; exact absurd (Nat.dvd_zero p) ha
  ·exact h
 have hperm : (lst (fun i => a * (i + 1) % p) (p - 1)).Perm (lst (fun i => i + 1) (p - 1)) := by
  refine perm_of_sub (nodup_lst fun i j hij hj he => ?_) (fun x hx => ?_) (by rw [len_lst, len_lst]; exact Nat.le_refl _)
  ·have h1 := Nat.sub_mod_eq_zero_of_mod_eq he
   rw [← Nat.mul_sub] at h1
   rcases hp.dvd_mul (Nat.dvd_of_mod_eq_zero h1) with h2 | h2
   ·exact ha h2
   ·have := Nat.le_of_dvd (by omega) h2
    omega
  ·obtain ⟨i, hi, rfl⟩ := mem_lst.1 hx
   have hlt : a * (i + 1) % p < p := Nat.mod_lt _ hp.pos
   have hne : a * (i + 1) % p ≠ 0 := by
    intro h0
    rcases hp.dvd_mul (Nat.dvd_of_mod_eq_zero h0) with h2 | h2
    ·exact ha h2
    ·have := Nat.le_of_dvd (by omega) h2
     omega
   exact mem_lst.2 ⟨a * (i + 1) % p - 1, by omega, by omega⟩
 have h1 := prod_mul_mod a p (p - 1)
 rw [prod_perm hperm] at h1
 have h2 := cancel hp (prod_cop hp (p - 1) (by omega)) (Nat.pow_pos ha0 : 1 ≤ a ^ (p - 1)) (by rw [Nat.one_mul]; exact h1.symm)
 rw [h2, Nat.mod_eq_of_lt hp1]
theorem pow_one_mod {b k P : Nat} (hP : 1 < P) (h : b % P = 1) : b ^ k % P = 1 := by
 rw [Nat.pow_mod, h, Nat.one_pow, Nat.mod_eq_of_lt hP]
theorem order_gcd {b P : Nat} (hP : 1 < P) : ∀ m k, b ^ m % P = 1 → b ^ k % P = 1 → b ^ Nat.gcd m k % P = 1 := by
 intro m k
 induction m, k using Nat.gcd.induction with
 | H0 k => intro _ h; rw [Nat.gcd_zero_left]; exact h
 | H1 m k hm ih =>
  intro h1 h2
  rw [Nat.gcd_rec]
  refine ih ?_ h1
  have h3 : b ^ k = (b ^ m) ^ (k / m) * b ^ (k % m) := by rw [← Nat.pow_mul, ← Nat.pow_add, Nat.div_add_mod]
  rw [h3, Nat.mul_mod, pow_one_mod hP h1, Nat.one_mul, Nat.mod_mod] at h2
  exact h2
theorem dvd_pow_lt {q g e : Nat} (hq : Prime q) (h : g ∣ q ^ (e + 1)) : g = q ^ (e + 1) ∨ g ∣ q ^ e := by
 obtain ⟨c, hc⟩ := h
 by_cases h1 : c = 1
 ·subst h1; rw [Nat.mul_one] at hc; exact .inl hc.symm
 ·right
  have hc0 : c ≠ 0 := by
   rintro rfl
   have := Nat.pow_pos (n := e + 1) hq.pos
   omega
  obtain ⟨s, hs, hsc⟩ := has_prime (n := c) (by omega)
  have hsq : s ∣ q := hs.dvd_pow (k := e + 1) (hc ▸ Nat.dvd_trans hsc (Nat.dvd_mul_left c g))
  have hse : s = q := by
   rcases hq.2 s hsq with h2 | h2
   ·have := hs.1; omega
   ·exact h2
  subst hse
  obtain ⟨c', hc'⟩ := hsc
  refine ⟨c', ?_⟩
  rw [hc', Nat.pow_succ, Nat.mul_left_comm, Nat.mul_comm] at hc
  exact Nat.eq_of_mul_eq_mul_left hs.pos hc
theorem pock1 {n P q e a : Nat} (hP : Prime P) (hPn : P ∣ n) (hn : 1 < n) (hq : Prime q) (hd : (n - 1) % q ^ (e + 1) = 0) (h1 : a ^ (n - 1) % n = 1)
  (h2 : Nat.gcd (a ^ ((n - 1) / q) % n + (n - 1)) n = 1) : q ^ (e + 1) ∣ P - 1 := by
 obtain ⟨m, hm⟩ := Nat.dvd_of_mod_eq_zero hd
 have hmod : ∀ x, x % n = 1 → x % P = 1 := by
  intro x hx
  rw [← Nat.mod_mod_of_dvd x hPn, hx, Nat.mod_eq_of_lt hP.1]
 have hb1 : (a ^ m) ^ (q ^ (e + 1)) % P = 1 := by
  rw [← Nat.pow_mul, Nat.mul_comm, ← hm]; exact hmod _ h1
 have haP : ¬ P ∣ a ^ m := by
  intro hc
  have : (a ^ m) ^ (q ^ (e + 1)) % P = 0 := by
   rw [Nat.pow_mod, Nat.mod_eq_zero_of_dvd hc, Nat.zero_pow (Nat.pow_pos hq.pos), Nat.zero_mod]
  omega
 have hg := order_gcd hP.1 _ _ hb1 (fermat hP haP)
 rcases dvd_pow_lt hq (Nat.gcd_dvd_left (q ^ (e + 1)) (P - 1)) with h3 | ⟨c, h3⟩
 ·rw [← h3]; exact Nat.gcd_dvd_right _ _
 ·exfalso
  have h4 : a ^ ((n - 1) / q) % P = 1 := by
   have : (n - 1) / q = m * q ^ e := by
    rw [hm, Nat.pow_succ, Nat.mul_comm (q ^ e) q, Nat.mul_assoc, Nat.mul_div_cancel_left _ hq.pos, Nat.mul_comm]
   rw [this, Nat.pow_mul, h3, Nat.pow_mul]
   exact pow_one_mod hP.1 hg
  have h5 : P ∣ a ^ ((n - 1) / q) % n + (n - 1) := by
   have h6 : a ^ ((n - 1) / q) % n % P = 1 := by rw [Nat.mod_mod_of_dvd _ hPn]; exact h4
   obtain ⟨c, hc⟩ := hPn
   have h7 : (a ^ ((n - 1) / q) % n + (n - 1) + 1) % P = 1 % P := by
    rw [show a ^ ((n - 1) / q) % n + (n - 1) + 1 = a ^ ((n - 1) / q) % n + P * c by omega, Nat.add_mul_mod_self_left, h6, Nat.mod_eq_of_lt hP.1]
   exact Nat.dvd_of_mod_eq_zero (Nat.add_right_cancel_iff.1 (rfl : 0 + 1 = 0 + 1) ▸ (by
    have h8 := Nat.sub_mod_eq_zero_of_mod_eq h7
    rwa [Nat.add_sub_cancel] at h8))
  have h8 := Nat.dvd_gcd h5 hPn
  rw [h2] at h8
  have := Nat.le_of_dvd (by decide) h8
  have := hP.1
  omega
def pm (n : Nat) : Nat → Nat → Nat → Nat
 | 0, _, _ => 1 % n
 | f + 1, b, e => cond (Nat.beq (e % 2) 1) (b * pm n f (b * b % n) (e / 2) % n) (pm n f (b * b % n) (e / 2))
theorem pm_eq (n : Nat) : ∀ (f b e : Nat), e < 2 ^ f → pm n f b e = b ^ e % n
 | 0, b, e, h => by
  have : e = 0 := by simpa using h
  subst this; rw [pm, Nat.pow_zero]
 | f + 1, b, e, h => by
  have ih := pm_eq n f (b * b % n) (e / 2) (by rw [Nat.pow_succ] at h; omega)
  have hs : (b * b % n) ^ (e / 2) % n = b ^ (2 * (e / 2)) % n := by
   rw [← Nat.pow_mod, ← Nat.pow_two, ← Nat.pow_mul]
  rw [pm, ih, hs]
  rcases Nat.mod_two_eq_zero_or_one e with h2 | h2
  ·rw [h2]
   show b ^ (2 * (e / 2)) % n = _
   rw [show 2 * (e / 2) = e by omega]
  ·rw [h2]
   show b * (b ^ (2 * (e / 2)) % n) % n = _
   rw [Nat.mul_mod, Nat.mod_mod, ← Nat.mul_mod, ← Nat.pow_succ', show (2 * (e / 2)).succ = e by omega]
def pkF : List (Nat × Nat × Nat) → Nat
 | [] => 1
 | (q, e, _) :: r => q ^ (e + 1) * pkF r
def pkOK (n f : Nat) : List (Nat × Nat × Nat) → Bool
 | [] => true
 | (q, e, a) :: r => Nat.beq ((n - 1) % q ^ (e + 1)) 0 && (Nat.beq (pm n f a (n - 1)) 1 && (Nat.beq (Nat.gcd (pm n f a ((n - 1) / q) + (n - 1)) n) 1 && (Nat.beq (Nat.gcd (q ^ (e + 1)) (pkF r)) 1 && pkOK n f r)))
theorem pkOK_dvd {n f P : Nat} (hP : Prime P) (hPn : P ∣ n) (hn : 1 < n) (hf : n < 2 ^ f) : ∀ {l : List (Nat × Nat × Nat)}, (∀ x ∈ l, Prime x.1) → pkOK n f l = true → pkF l ∣ P - 1
 | [], _, _ => Nat.one_dvd _
 | (q, e, a) :: r, hl, h => by
  simp only [pkOK, Bool.and_eq_true, Nat.beq_eq] at h
  obtain ⟨h1, h2, h3, h4, h5⟩ := h
  have hq := hl _ (List.mem_cons_self ..)
  rw [pm_eq n f a _ (by omega)] at h2
  rw [pm_eq n f a _ (Nat.lt_of_le_of_lt (Nat.div_le_self _ _) (by omega))] at h3
  exact Nat.Coprime.mul_dvd_of_dvd_of_dvd h4 (pock1 hP hPn hn hq h1 h2 h3) (pkOK_dvd hP hPn hn hf (fun x hx => hl x (List.mem_cons_of_mem _ hx)) h5)
theorem pock {n f : Nat} (l : List (Nat × Nat × Nat)) (hl : ∀ x ∈ l, Prime x.1)
  (h : (Nat.blt 1 n && (Nat.blt n (2 ^ f) && (Nat.blt n ((pkF l + 1) * (pkF l + 1)) && pkOK n f l))) = true) : Prime n := by
 simp only [Bool.and_eq_true, Nat.blt_eq] at h
 obtain ⟨h1, h2, h3, h4⟩ := h
 apply Classical.byContradiction
 intro hn
 obtain ⟨P, hP, hPn, hPP⟩ := small_prime h1 hn
 have hd := pkOK_dvd hP hPn h1 h2 hl h4
 have := Nat.le_of_dvd (by have := hP.1; omega) hd
 have hP1 := hP.1
 have hle : pkF l + 1 ≤ P := by omega
 exact Nat.lt_irrefl _ (Nat.lt_of_lt_of_le h3 (Nat.le_trans (Nat.mul_le_mul hle hle) hPP))
def noDiv (n : Nat) : Nat → Nat → Bool
 | lo, 0 => !Nat.beq (n % lo) 0
 | lo, k + 1 => noDiv n lo k && noDiv n (lo + 2 ^ k) k
theorem noDiv_spec {n : Nat} : ∀ {k lo d : Nat}, noDiv n lo k = true → lo ≤ d → d < lo + 2 ^ k → n % d ≠ 0
 | 0, lo, d, h, h1, h2 => by
  have : d = lo := by simp at h2; omega
  subst this
  intro h0
  rw [noDiv, h0] at h
  exact absurd h (by decide)
 | k + 1, lo, d, h, h1, h2 => by
  simp only [noDiv, Bool.and_eq_true] at h
  rw [Nat.pow_succ] at h2
  rcases Nat.lt_or_ge d (lo + 2 ^ k) with h3 | h3
  ·exact noDiv_spec h.1 h1 h3
  ·exact noDiv_spec h.2 h3 (by omega)
theorem small {n : Nat} (k : Nat) (h : (Nat.blt 1 n && (Nat.blt n ((2 + 2 ^ k) * (2 + 2 ^ k)) && noDiv n 2 k)) = true) : Prime n := by
 simp only [Bool.and_eq_true, Nat.blt_eq] at h
 obtain ⟨h1, h2, h3⟩ := h
 apply Classical.byContradiction
 intro hn
 obtain ⟨P, hP, hPn, hPP⟩ := small_prime h1 hn
 have hlt : P < 2 + 2 ^ k := by
  apply Classical.byContradiction
  intro hc
  have := Nat.mul_le_mul (Nat.le_of_not_lt hc) (Nat.le_of_not_lt hc)
  omega
 exact noDiv_spec h3 hP.1 hlt (Nat.mod_eq_zero_of_dvd hPn)
end Go.Proofs.YtbpmbdlgmmabcaaGreat.L.Pr
namespace Go.Proofs.YtbpmbdlgmmabcaaGreat.L.Pr
set_option maxRecDepth 100000
theorem prime_421987 : Prime 421987 := small 10 (by decide +kernel)
theorem prime_q4 : Prime 13090036741 := pock (f := 34) [(421987, 0, 2)] (by
 intro x hx
 simp only [List.mem_cons, List.not_mem_nil, or_false] at hx
 rcases hx with rfl
 ·exact prime_421987) (by decide +kernel)
theorem prime_755057 : Prime 755057 := small 10 (by decide +kernel)
theorem prime_q3 : Prime 3819663927398918131021 := pock (f := 72) [(13090036741, 0, 2), (755057, 0, 2)] (by
 intro x hx
 simp only [List.mem_cons, List.not_mem_nil, or_false] at hx
 rcases hx with rfl | rfl
 ·exact prime_q4
 ·exact prime_755057) (by decide +kernel)
theorem prime_q2 : Prime 1125266252156850182658904441386709967 := pock (f := 120) [(3819663927398918131021, 0, 2)] (by
 intro x hx
 simp only [List.mem_cons, List.not_mem_nil, or_false] at hx
 rcases hx with rfl
 ·exact prime_q3) (by decide +kernel)
theorem prime_q1 : Prime 15778400344354997994418419698270088123916926905054652752758194827714659 := pock (f := 234) [(1125266252156850182658904441386709967, 0, 2)] (by
 intro x hx
 simp only [List.mem_cons, List.not_mem_nil, or_false] at hx
 rcases hx with rfl
 ·exact prime_q2) (by decide +kernel)
theorem prime_p : Prime 4002409555221667393417789825735904156556882819939007885332058136124031650490837864442687629129015664037894272559787 := pock (f := 381) [(15778400344354997994418419698270088123916926905054652752758194827714659, 0, 2)] (by
 intro x hx
 simp only [List.mem_cons, List.not_mem_nil, or_false] at hx
 rcases hx with rfl
 ·exact prime_q1) (by decide +kernel)
end Go.Proofs.YtbpmbdlgmmabcaaGreat.L.Pr
namespace Go.Proofs.YtbpmbdlgmmabcaaGreat.L.Kf
open Pr
section ring
variable {n : Nat} [NeZero n]
def κ (n : Nat) [NeZero n] (a : Nat) : Fin n := Fin.ofNat n a
theorem κ_val (x : Fin n) : κ n x.val = x := Fin.ext (Nat.mod_eq_of_lt x.isLt)
theorem val_κ (a : Nat) : (κ n a).val = a % n := rfl
theorem κ_eq {a b : Nat} : κ n a = κ n b ↔ a % n = b % n := Fin.ext_iff
theorem κ_mod (a : Nat) : κ n (a % n) = κ n a := Fin.ext (Nat.mod_mod a n)
theorem κ_add (a b : Nat) : κ n (a + b) = κ n a + κ n b := Fin.ext (by rw [Fin.val_add, val_κ, val_κ, val_κ, ← Nat.add_mod])
theorem κ_mul (a b : Nat) : κ n (a * b) = κ n a * κ n b := Fin.ext (by rw [Fin.val_mul, val_κ, val_κ, val_κ, ← Nat.mul_mod])
theorem κ_0 : κ n 0 = 0 := rfl
theorem κ_1 : κ n 1 = 1 := rfl
theorem κ_n : κ n n = 0 := Fin.ext (by rw [val_κ, Nat.mod_self]; rfl)
theorem κ_sub {a b : Nat} (h : b ≤ a) : κ n (a - b) = κ n a - κ n b := by
 have h1 := κ_add (n := n) (a - b) b
 rw [Nat.sub_add_cancel h] at h1
 rw [h1]; grind
theorem κ_neg {a : Nat} (h : a ≤ n) : κ n (n - a) = - κ n a := by
 rw [κ_sub h, κ_n]; grind
theorem pow_s (a : Fin n) (k : Nat) : a ^ (k + 1) = a ^ k * a := rfl
theorem pow_0 (a : Fin n) : a ^ 0 = 1 := rfl
theorem κ_pow (a : Nat) : ∀ k, κ n (a ^ k) = κ n a ^ k
 | 0 => rfl
 | k + 1 => by rw [Nat.pow_succ, κ_mul, κ_pow a k, pow_s]
theorem val_pow (x : Fin n) (k : Nat) : (x ^ k).val = x.val ^ k % n := by
 rw [← val_κ, κ_pow, κ_val]
theorem pow_add' (a : Fin n) (i : Nat) : ∀ k, a ^ (i + k) = a ^ i * a ^ k
 | 0 => by rw [pow_0]; grind
 | k + 1 => by rw [← Nat.add_assoc, pow_s, pow_add' a i k, pow_s]; grind
theorem pow_mul' (a : Fin n) (i : Nat) : ∀ k, a ^ (i * k) = (a ^ i) ^ k
 | 0 => rfl
 | k + 1 => by rw [Nat.mul_add, Nat.mul_one, pow_add', pow_mul' a i k, pow_s]
theorem zero_pow' {k : Nat} (h : 0 < k) : (0 : Fin n) ^ k = 0 := by
 obtain ⟨j, rfl⟩ : ∃ j, k = j + 1 := ⟨k - 1, by omega⟩
 rw [pow_s]; grind
end ring
section field
variable {n : Nat} [NeZero n] (hp : Prime n)
include hp
theorem one_ne : (1 : Fin n) ≠ 0 := by
 intro h
 have := congrArg Fin.val h
 have h1 : (κ n 1).val = 0 := this
 rw [val_κ, Nat.mod_eq_of_lt hp.1] at h1
 exact absurd h1 (by decide)
omit hp in
theorem dvd_zero {a : Nat} : κ n a = 0 ↔ n ∣ a := by
 rw [← κ_0, κ_eq, Nat.zero_mod]
 exact ⟨Nat.dvd_of_mod_eq_zero, Nat.mod_eq_zero_of_dvd⟩
theorem mul_zero' {a b : Fin n} (h : a * b = 0) : a = 0 ∨ b = 0 := by
 rw [← κ_val a, ← κ_val b, ← κ_mul, dvd_zero] at h
 rcases hp.dvd_mul h with h1 | h1
 ·exact .inl (by rw [← κ_val a]; exact (dvd_zero).2 h1)
 ·exact .inr (by rw [← κ_val b]; exact (dvd_zero).2 h1)
theorem cancel' {a b c : Fin n} (hc : c ≠ 0) (h : a * c = b * c) : a = b := by
 have : (a - b) * c = 0 := by grind
 rcases mul_zero' hp this with h1 | h1
 ·grind
 ·exact absurd h1 hc
theorem fermat' {a : Fin n} (h : a ≠ 0) : a ^ (n - 1) = 1 := by
 have h1 : ¬ n ∣ a.val := fun hd => h (by rw [← κ_val a]; exact (dvd_zero).2 hd)
 have h2 := fermat hp h1
 refine Fin.ext ?_
 rw [val_pow, h2]
 show 1 = 1 % n
 rw [Nat.mod_eq_of_lt hp.1]
theorem fermat_p (a : Fin n) : a ^ n = a := by
 have h1 := hp.1
 by_cases h : a = 0
 ·subst h; exact zero_pow' (by omega)
 ·have h2 := fermat' hp h
  have h3 := pow_s a (n - 1)
  rw [h2, Nat.sub_add_cancel (by omega)] at h3
  rw [h3]; grind
omit hp
def inv (a : Fin n) : Fin n := a ^ (n - 2)
include hp
theorem mul_inv {a : Fin n} (h : a ≠ 0) : a * inv a = 1 := by
 have h1 := hp.1
 have h2 := fermat' hp h
 rw [show n - 1 = n - 2 + 1 by omega, pow_s] at h2
 rw [inv]; grind
theorem inv_unique {a b : Fin n} (h : a * b = 1) : inv a = b := by
 have ha : a ≠ 0 := by
  rintro rfl
  exact one_ne hp (by grind)
 have h1 := mul_inv hp ha
 refine cancel' hp ha ?_
 grind
theorem sq_eq {a b : Fin n} (h : a * a = b * b) : a = b ∨ a = -b := by
 have : (a - b) * (a + b) = 0 := by grind
 rcases mul_zero' hp this with h1 | h1
 ·exact .inl (by grind)
 ·exact .inr (by grind)
end field
end Go.Proofs.YtbpmbdlgmmabcaaGreat.L.Kf
namespace Go.Proofs.YtbpmbdlgmmabcaaGreat.L.Kf
open Pr
abbrev P3 (n : Nat) : Prop := Prime n ∧ n % 4 = 3
section roots
variable {n : Nat} [NeZero n]
def rt (a : Fin n) : Fin n := a ^ ((n + 1) / 4)
def isq (a : Fin n) : Bool := rt a * rt a == a
def sg (a : Fin n) : Nat := a.val % 2
def evn (a : Fin n) : Fin n := if sg a = 1 then -a else a
variable (hp : P3 n)
include hp
theorem two_ne : (2 : Fin n) ≠ 0 := by
 have h3 := hp.2
 intro h
 have : κ n 2 = 0 := h
 rw [dvd_zero] at this
 have := Nat.le_of_dvd (by decide) this
 omega
theorem rt_sq (a : Fin n) : rt a * rt a = a ^ ((n - 1) / 2) * a := by
 have h3 := hp.2
 rw [rt, ← pow_add', ← pow_s]
 congr 1; omega
theorem half_pow (x : Fin n) : (x * x) ^ ((n - 1) / 2) = x ^ (n - 1) := by
 have h3 := hp.2
 have : x * x = x ^ 2 := by rw [pow_s, pow_s, pow_0]; grind
 rw [this, ← pow_mul']
 congr 1; omega
theorem rt_of_sq {a x : Fin n} (h : x * x = a) : rt a * rt a = a := by
 rw [rt_sq hp, ← h, half_pow hp]
 by_cases hx : x = 0
 ·subst hx; grind
 ·rw [fermat' hp.1 hx]; grind
theorem isq_iff {a : Fin n} : isq a = true ↔ ∃ x, x * x = a := by
 rw [isq, beq_iff_eq]
 exact ⟨fun h => ⟨_, h⟩, fun ⟨x, h⟩ => rt_of_sq hp h⟩
theorem half_one {a : Fin n} (ha : a ≠ 0) : a ^ ((n - 1) / 2) = 1 ∨ a ^ ((n - 1) / 2) = -1 := by
 have h3 := hp.2
 have h1 : a ^ ((n - 1) / 2) * a ^ ((n - 1) / 2) = 1 * 1 := by
  rw [← pow_add', show (n - 1) / 2 + (n - 1) / 2 = n - 1 by omega, fermat' hp.1 ha]; grind
 exact sq_eq hp.1 h1
theorem sq_or (a : Fin n) : isq a = true ∨ isq (-a) = true := by
 by_cases ha : a = 0
 ·subst ha; left; exact (isq_iff hp).2 ⟨0, by grind⟩
 ·have h1 := rt_sq hp a
  rcases half_one hp ha with h | h
  ·left; rw [h] at h1; exact (isq_iff hp).2 ⟨rt a, by grind⟩
  ·right; rw [h] at h1; exact (isq_iff hp).2 ⟨rt a, by grind⟩
omit hp in
theorem odd_pow : ∀ k : Nat, (-1 : Fin n) ^ (2 * k + 1) = -1
 | 0 => by rw [pow_s, pow_0]; grind
 | k + 1 => by rw [show 2 * (k + 1) + 1 = 2 * k + 1 + 1 + 1 by omega, pow_s, pow_s, odd_pow k]; grind
theorem neg_one_no (x : Fin n) : x * x ≠ -1 := by
 have h3 := hp.2
 intro h
 have hx : x ≠ 0 := by
  rintro rfl
  exact one_ne hp.1 (by grind)
 have h1 := half_pow hp x
 rw [h, fermat' hp.1 hx, show (n - 1) / 2 = 2 * (n / 4) + 1 by omega, odd_pow] at h1
 exact two_ne hp (by grind)
theorem sum_sq {x y : Fin n} (h : x * x + y * y = 0) : x = 0 ∧ y = 0 := by
 by_cases hy : y = 0
 ·subst hy
  have : x * x = 0 := by grind
  rcases mul_zero' hp.1 this with h1 | h1 <;> exact ⟨h1, rfl⟩
 ·exfalso
  have h1 := mul_inv hp.1 hy
  refine neg_one_no hp (x * inv y) ?_
  have : (x * inv y) * (x * inv y) = (x * x) * (inv y * inv y) := by grind
  rw [this, show x * x = -(y * y) by grind]
  have : -(y * y) * (inv y * inv y) = -((y * inv y) * (y * inv y)) := by grind
  rw [this, h1]; grind
theorem not_both {a : Fin n} (ha : a ≠ 0) (h1 : isq a = true) (h2 : isq (-a) = true) : False := by
 obtain ⟨x, hx⟩ := (isq_iff hp).1 h1
 obtain ⟨y, hy⟩ := (isq_iff hp).1 h2
 have := sum_sq hp (x := x) (y := y) (by grind)
 exact ha (by rw [← hx, this.1]; grind)
theorem isq_neg {a : Fin n} (ha : a ≠ 0) : isq (-a) = !isq a := by
 cases h1 : isq a
 ·rcases sq_or hp a with h | h
  ·rw [h1] at h; exact absurd h (by decide)
  ·rw [h]; rfl
 ·cases h2 : isq (-a)
  ·rfl
  ·exact (not_both hp ha h1 h2).elim
theorem isq_mul {a b : Fin n} (ha : a ≠ 0) (hb : b ≠ 0) : isq (a * b) = (isq a == isq b) := by
 have hm : ∀ x y : Fin n, isq x = true → isq y = true → isq (x * y) = true := by
  intro x y hx hy
  obtain ⟨s, hs⟩ := (isq_iff hp).1 hx
  obtain ⟨t, ht⟩ := (isq_iff hp).1 hy
  exact (isq_iff hp).2 ⟨s * t, by grind⟩
 have hab : a * b ≠ 0 := fun h => by
  rcases mul_zero' hp.1 h with h | h
  ·exact ha h
  ·exact hb h
 have e1 : -a * b = -(a * b) := by grind
 have e2 : a * -b = -(a * b) := by grind
 have e3 : -a * -b = a * b := by grind
 cases h1 : isq a <;> cases h2 : isq b
 ·rw [← e3, hm _ _ (by rw [isq_neg hp ha, h1]; rfl) (by rw [isq_neg hp hb, h2]; rfl)]; rfl
 ·have := hm (-a) b (by rw [isq_neg hp ha, h1]; rfl) h2
  rw [e1, isq_neg hp hab] at this
  cases h : isq (a * b)
  ·rfl
  ·rw [h] at this; exact absurd this (by decide)
 ·have := hm a (-b) h1 (by rw [isq_neg hp hb, h2]; rfl)
  rw [e2, isq_neg hp hab] at this
  cases h : isq (a * b)
  ·rfl
  ·rw [h] at this; exact absurd this (by decide)
 ·rw [hm a b h1 h2]; rfl
omit hp in
theorem val_neg {a : Fin n} (ha : a ≠ 0) : (-a).val = n - a.val := by
 have h0 : a.val ≠ 0 := fun h => ha (Fin.ext h)
 have := a.isLt
 rw [← κ_val a, ← κ_neg (by omega), val_κ, val_κ, Nat.mod_eq_of_lt this, Nat.mod_eq_of_lt (by omega)]
theorem sg_neg {a : Fin n} (ha : a ≠ 0) : sg a + sg (-a) = 1 := by
 have h3 := hp.2
 have h := val_neg ha
 have := a.isLt
 rw [sg, sg, h]; omega
omit hp
include hp
omit hp
theorem evn_sq (a : Fin n) : evn a * evn a = a * a := by
 rw [evn]; split <;> grind
end roots
structure K2 (n : Nat) where
 re : Fin n
 im : Fin n
deriving DecidableEq
namespace K2
variable {n : Nat} [NeZero n]
omit [NeZero n] in
theorem ext' {a b : K2 n} (h1 : a.re = b.re) (h2 : a.im = b.im) : a = b := by
 cases a; cases b; cases h1; cases h2; rfl
def zero : K2 n := ⟨0, 0⟩
def one : K2 n := ⟨1, 0⟩
def add (a b : K2 n) : K2 n := ⟨a.re + b.re, a.im + b.im⟩
def neg (a : K2 n) : K2 n := ⟨-a.re, -a.im⟩
def sub (a b : K2 n) : K2 n := ⟨a.re - b.re, a.im - b.im⟩
def mul (a b : K2 n) : K2 n := ⟨a.re * b.re - a.im * b.im, a.re * b.im + a.im * b.re⟩
def conj (a : K2 n) : K2 n := ⟨a.re, -a.im⟩
def scale (a : K2 n) (k : Fin n) : K2 n := ⟨a.re * k, a.im * k⟩
def norm (a : K2 n) : Fin n := a.re * a.re + a.im * a.im
def inv (a : K2 n) : K2 n := scale (conj a) (Kf.inv (norm a))
def pw (a : K2 n) : Nat → K2 n
 | 0 => one
 | k + 1 => mul (pw a k) a
def sgn (a : K2 n) : Nat := if a.re = 0 then sg a.im else sg a.re
theorem mul_comm' (a b : K2 n) : mul a b = mul b a := ext' (by simp only [mul]; grind) (by simp only [mul]; grind)
theorem mul_assoc' (a b c : K2 n) : mul (mul a b) c = mul a (mul b c) := ext' (by simp only [mul]; grind) (by simp only [mul]; grind)
theorem mul_one' (a : K2 n) : mul a one = a := ext' (by simp only [mul, one]; grind) (by simp only [mul, one]; grind)
theorem one_mul' (a : K2 n) : mul one a = a := ext' (by simp only [mul, one]; grind) (by simp only [mul, one]; grind)
theorem mul_add' (a b c : K2 n) : mul a (add b c) = add (mul a b) (mul a c) := ext' (by simp only [mul, add]; grind) (by simp only [mul, add]; grind)
theorem mul_zero2 (a : K2 n) : mul a zero = zero := ext' (by simp only [mul, zero]; grind) (by simp only [mul, zero]; grind)
theorem add_zero' (a : K2 n) : add a zero = a := ext' (by simp only [add, zero]; grind) (by simp only [add, zero]; grind)
theorem add_comm' (a b : K2 n) : add a b = add b a := ext' (by simp only [add]; grind) (by simp only [add]; grind)
theorem add_assoc' (a b c : K2 n) : add (add a b) c = add a (add b c) := ext' (by simp only [add]; grind) (by simp only [add]; grind)
theorem norm_mul (a b : K2 n) : norm (mul a b) = norm a * norm b := by simp only [norm, mul]; grind
theorem neg_neg' (a : K2 n) : neg (neg a) = a := ext' (by simp only [neg]; grind) (by simp only [neg]; grind)
theorem neg_mul_neg (a b : K2 n) : mul (neg a) (neg b) = mul a b := ext' (by simp only [mul, neg]; grind) (by simp only [mul, neg]; grind)
theorem pw_add (a : K2 n) (i : Nat) : ∀ k, pw a (i + k) = mul (pw a i) (pw a k)
 | 0 => by rw [pw, mul_one', Nat.add_zero]
 | k + 1 => by rw [← Nat.add_assoc, pw, pw_add a i k, pw, mul_assoc']
theorem pw_mul (a : K2 n) (i : Nat) : ∀ k, pw a (i * k) = pw (pw a i) k
 | 0 => rfl
 | k + 1 => by rw [Nat.mul_add, Nat.mul_one, pw_add, pw_mul a i k, pw]
theorem mul_pw (a b : K2 n) : ∀ k, pw (mul a b) k = mul (pw a k) (pw b k)
 | 0 => by simp only [pw, mul_one']
 | k + 1 => by
  rw [pw, mul_pw a b k, pw, pw]
  generalize pw a k = x; generalize pw b k = y
  exact ext' (by simp only [mul]; grind) (by simp only [mul]; grind)
theorem pw_one : ∀ k, pw (one : K2 n) k = one
 | 0 => rfl
 | k + 1 => by rw [pw, pw_one k, mul_one']
theorem pw_1 (a : K2 n) : pw a 1 = a := one_mul' a
theorem pw_base (x : Fin n) : ∀ k, pw ⟨x, 0⟩ k = ⟨x ^ k, 0⟩
 | 0 => rfl
 | k + 1 => by rw [pw, pw_base x k, pow_s]; exact ext' (by simp only [mul]; grind) (by simp only [mul]; grind)
variable (hp : P3 n)
include hp
theorem norm_zero {a : K2 n} (h : norm a = 0) : a = zero := by
 have := sum_sq hp h
 exact ext' this.1 this.2
theorem norm_ne {a : K2 n} (h : a ≠ zero) : norm a ≠ 0 := fun hc => h (norm_zero hp hc)
theorem mul_zero_or {a b : K2 n} (h : mul a b = zero) : a = zero ∨ b = zero := by
 have h1 : norm a * norm b = 0 := by rw [← norm_mul, h]; simp only [norm, zero]; grind
 rcases mul_zero' hp.1 h1 with h2 | h2
 ·exact .inl (norm_zero hp h2)
 ·exact .inr (norm_zero hp h2)
theorem mul_inv2 {a : K2 n} (h : a ≠ zero) : mul a (inv a) = one := by
 have h1 := mul_inv hp.1 (norm_ne hp h)
 generalize hN : Kf.inv (norm a) = N at h1
 simp only [inv, hN]
 simp only [norm] at h1
 refine ext' ?_ ?_
 ·simp only [mul, scale, conj, one]; grind
 ·simp only [mul, scale, conj, one]; grind
theorem cancel2 {a b c : K2 n} (hc : c ≠ zero) (h : mul a c = mul b c) : a = b := by
 have h1 : mul (mul a c) (inv c) = mul (mul b c) (inv c) := by rw [h]
 rwa [mul_assoc', mul_assoc', mul_inv2 hp hc, mul_one', mul_one'] at h1
theorem sq_eq2 {a b : K2 n} (h : mul a a = mul b b) : a = b ∨ a = neg b := by
 have : mul (sub a b) (add a b) = zero := by
  have e1 := congrArg re h
  have e2 := congrArg im h
  simp only [mul] at e1 e2
  refine ext' ?_ ?_
  ·simp only [mul, sub, add, zero]; grind
  ·simp only [mul, sub, add, zero]; grind
 rcases mul_zero_or hp this with h1 | h1
 ·left
  have e1 := congrArg re h1
  have e2 := congrArg im h1
  simp only [sub, zero] at e1 e2
  exact ext' (by grind) (by grind)
 ·right
  have e1 := congrArg re h1
  have e2 := congrArg im h1
  simp only [add, zero] at e1 e2
  exact ext' (by simp only [neg]; grind) (by simp only [neg]; grind)
theorem sgn_neg {a : K2 n} (ha : a ≠ zero) : sgn a + sgn (neg a) = 1 := by
 by_cases h : a.re = 0
 ·have him : a.im ≠ 0 := fun hc => ha (ext' h hc)
  have e1 : sgn a = sg a.im := if_pos h
  have e2 : sgn (neg a) = sg (-a.im) := if_pos (show -a.re = 0 by rw [h]; grind)
  rw [e1, e2]
  exact sg_neg hp him
 ·have e1 : sgn a = sg a.re := if_neg h
  have e2 : sgn (neg a) = sg (-a.re) := if_neg (show ¬ -a.re = 0 from fun hc => h (by grind))
  rw [e1, e2]
  exact sg_neg hp h
omit hp
theorem sgn_zero : sgn (zero : K2 n) = 0 := by simp only [sgn, zero, if_true]; rfl
theorem neg_zero2 : neg (zero : K2 n) = zero := ext' (by simp only [neg, zero]; grind) (by simp only [neg, zero]; grind)
def evn2 (a : K2 n) : K2 n := if sgn a = 1 then neg a else a
theorem sgn_lt (a : K2 n) : sgn a < 2 := by
 simp only [sgn]; split <;> exact Nat.mod_lt _ (by decide)
include hp
theorem sgn_evn2 (a : K2 n) : sgn (evn2 a) = 0 := by
 rw [evn2]
 have := sgn_lt a
 split
 ·rename_i h
  by_cases ha : a = zero
  ·subst ha; exact absurd h (by rw [sgn_zero]; decide)
  ·have := sgn_neg hp ha; omega
 ·omega
omit hp
theorem evn2_sq (a : K2 n) : mul (evn2 a) (evn2 a) = mul a a := by
 rw [evn2]; split
 ·exact neg_mul_neg a a
 ·rfl
include hp
theorem root_unique {x y a : K2 n} (hx : mul x x = a) (hy : mul y y = a) (sx : sgn x = 0) (sy : sgn y = 0) : x = y := by
 rcases sq_eq2 hp (hx.trans hy.symm) with h | h
 ·exact h
 ·by_cases h0 : y = zero
  ·subst h0; rw [h, neg_zero2]
  ·have := sgn_neg hp h0
   rw [← h] at this; omega
end K2
end Go.Proofs.YtbpmbdlgmmabcaaGreat.L.Kf
namespace Go.Proofs.YtbpmbdlgmmabcaaGreat.L.Kf
open Pr
namespace K2
variable {n : Nat} [NeZero n]
def ch : Nat → Nat → Nat
 | _, 0 => 1
 | 0, _ + 1 => 0
 | m + 1, k + 1 => ch m k + ch m (k + 1)
theorem ch_0 (m : Nat) : ch m 0 = 1 := by cases m <;> rfl
theorem ch_lt : ∀ {m k : Nat}, m < k → ch m k = 0
 | 0, 0, h => absurd h (by decide)
 | 0, _ + 1, _ => rfl
 | m + 1, 0, h => absurd h (by omega)
 | m + 1, k + 1, h => by rw [ch, ch_lt (by omega), ch_lt (by omega)]
theorem ch_self : ∀ m, ch m m = 1
 | 0 => rfl
 | m + 1 => by rw [ch, ch_self m, ch_lt (by omega)]
theorem ch_mul : ∀ m k, (k + 1) * ch (m + 1) (k + 1) = (m + 1) * ch m k
 | 0, 0 => rfl
 | 0, k + 1 => by rw [ch_lt (by omega), ch_lt (m := 0) (by omega)]; omega
 | m + 1, 0 => by
  have h0 : ch (m + 1 + 1) (0 + 1) = ch (m + 1) 0 + ch (m + 1) (0 + 1) := rfl
  have := ch_mul m 0
  rw [ch_0] at this
  rw [h0, ch_0]
  omega
 | m + 1, j + 1 => by
  have h1 := ch_mul m j
  have h2 := ch_mul m (j + 1)
  rw [ch]
  have h3 : ch (m + 1) (j + 1) = ch m j + ch m (j + 1) := rfl
  generalize ch (m + 1) (j + 1 + 1) = a at *
  generalize ch m (j + 1) = b at *
  generalize ch m j = c at *
  generalize ch (m + 1) (j + 1) = d at *
  subst h3
  grind
omit [NeZero n] in
theorem ch_dvd (hp : Prime n) {k : Nat} (h0 : 0 < k) (hk : k < n) : n ∣ ch n k := by
 obtain ⟨j, rfl⟩ : ∃ j, k = j + 1 := ⟨k - 1, by omega⟩
 have h := ch_mul (n - 1) j
 rw [Nat.sub_add_cancel (by omega)] at h
 rcases hp.dvd_mul (a := j + 1) (b := ch n (j + 1)) ⟨_, h⟩ with h1 | h1
 ·have := Nat.le_of_dvd (by omega) h1
  omega
 ·exact h1
def nm (c : Nat) (a : K2 n) : K2 n := scale a (κ n c)
def sm (f : Nat → K2 n) : Nat → K2 n
 | 0 => zero
 | k + 1 => add (sm f k) (f k)
theorem sm_zero {f : Nat → K2 n} : ∀ {R}, (∀ k, k < R → f k = zero) → sm f R = zero
 | 0, _ => rfl
 | R + 1, h => by rw [sm, sm_zero fun k hk => h k (by omega), h R (by omega), add_zero']
theorem sm_congr {f g : Nat → K2 n} : ∀ {R}, (∀ k, k < R → f k = g k) → sm f R = sm g R
 | 0, _ => rfl
 | R + 1, h => by rw [sm, sm, sm_congr fun k hk => h k (by omega), h R (by omega)]
theorem sm_shift (f : Nat → K2 n) : ∀ R, sm f (R + 1) = add (f 0) (sm (fun k => f (k + 1)) R)
 | 0 => by rw [sm, sm, sm, add_comm']
 | R + 1 => by rw [sm, sm_shift f R, sm, add_assoc']
theorem sm_add (f g : Nat → K2 n) : ∀ R, sm (fun k => add (f k) (g k)) R = add (sm f R) (sm g R)
 | 0 => (add_zero' _).symm
 | R + 1 => by
  rw [sm, sm_add f g R, sm, sm]
  generalize sm f R = a; generalize sm g R = b
  exact ext' (by simp only [add]; grind) (by simp only [add]; grind)
theorem sm_mul (a : K2 n) (f : Nat → K2 n) : ∀ R, mul a (sm f R) = sm (fun k => mul a (f k)) R
 | 0 => mul_zero2 a
 | R + 1 => by rw [sm, mul_add', sm_mul a f R, sm]
theorem nm_add (b c : Nat) (a : K2 n) : nm (b + c) a = add (nm b a) (nm c a) := by
 simp only [nm, κ_add]
 exact ext' (by simp only [scale, add]; grind) (by simp only [scale, add]; grind)
theorem nm_1 (a : K2 n) : nm 1 a = a := by
 simp only [nm, κ_1]
 exact ext' (by simp only [scale]; grind) (by simp only [scale]; grind)
theorem nm_0 {c : Nat} (h : κ n c = 0) (a : K2 n) : nm c a = zero := by
 simp only [nm, h]
 exact ext' (by simp only [scale, zero]; grind) (by simp only [scale, zero]; grind)
theorem nm_mul (c : Nat) (a b : K2 n) : mul a (nm c b) = nm c (mul b a) :=
 ext' (by simp only [scale, nm, mul]; grind) (by simp only [scale, nm, mul]; grind)
theorem binom (X : K2 n) : ∀ m R, m < R → pw (add X one) m = sm (fun k => nm (ch m k) (pw X k)) R
 | 0, R, h => by
  obtain ⟨r, rfl⟩ : ∃ r, R = r + 1 := ⟨R - 1, by omega⟩
  rw [sm_shift, sm_zero (f := fun k => nm (ch 0 (k + 1)) (pw X (k + 1))) fun k _ => nm_0 rfl _, add_zero']
  show one = nm 1 one
  rw [nm_1]
 | m + 1, R, h => by
  obtain ⟨r, rfl⟩ : ∃ r, R = r + 1 := ⟨R - 1, by omega⟩
  have h1 := binom X m r (by omega)
  have h2 := binom X m (r + 1) (by omega)
  rw [sm_shift] at h2
  rw [pw, mul_add', mul_one', sm_shift]
  have e1 : mul (pw (add X one) m) X = sm (fun k => nm (ch m k) (pw X (k + 1))) r := by
   rw [mul_comm', h1, sm_mul]
   exact sm_congr fun k _ => by rw [nm_mul, pw]
  have e2 : sm (fun k => nm (ch (m + 1) (k + 1)) (pw X (k + 1))) r = add (sm (fun k => nm (ch m k) (pw X (k + 1))) r) (sm (fun k => nm (ch m (k + 1)) (pw X (k + 1))) r) := by
   rw [← sm_add]
   exact sm_congr fun k _ => by rw [ch, nm_add]
  rw [e1, e2, h2, ch_0, ch_0]
  generalize sm (fun k => nm (ch m k) (pw X (k + 1))) r = a
  generalize sm (fun k => nm (ch m (k + 1)) (pw X (k + 1))) r = b
  generalize nm 1 (pw X 0) = c
  exact ext' (by simp only [add]; grind) (by simp only [add]; grind)
theorem zero_pw {k : Nat} (h : 0 < k) : pw (zero : K2 n) k = zero := by
 obtain ⟨j, rfl⟩ : ∃ j, k = j + 1 := ⟨k - 1, by omega⟩
 rw [pw, mul_zero2]
theorem frob1 (hp : Prime n) (X : K2 n) : pw (add X one) n = add (pw X n) one := by
 have h1 := hp.1
 obtain ⟨m, hm⟩ : ∃ m, n = m + 1 := ⟨n - 1, by omega⟩
 have h := binom X n (n + 1) (by omega)
 rw [h, sm, ch_self, nm_1, add_comm']
 congr 1
 have : ∀ N, N = m + 1 → sm (fun k => nm (ch n k) (pw X k)) N = one := by
  rintro N rfl
  rw [sm_shift, sm_zero (f := fun k => nm (ch n (k + 1)) (pw X (k + 1))) fun k hk => nm_0 ((dvd_zero).2 (ch_dvd hp (by omega) (by omega))) _, add_zero', ch_0, nm_1]
  rfl
 exact this n hm
variable (hp : P3 n)
include hp
theorem frob_add (X Y : K2 n) : pw (add X Y) n = add (pw X n) (pw Y n) := by
 by_cases hY : Y = zero
 ·subst hY
  rw [add_zero', zero_pw hp.1.pos, add_zero']
 ·have e1 : add X Y = mul (add (mul X (inv Y)) one) Y := by
   rw [mul_comm', mul_add', mul_one', mul_comm' X, ← mul_assoc', mul_inv2 hp hY, one_mul']
  have e2 : mul (mul X (inv Y)) Y = X := by
   rw [mul_assoc', mul_comm' (inv Y), mul_inv2 hp hY, mul_one']
  rw [e1, mul_pw, frob1 hp.1, mul_comm', mul_add', mul_one', mul_comm' (pw Y n), ← mul_pw, e2]
theorem frob (a : K2 n) : pw a n = conj a := by
 have h3 := hp.2
 have e : a = add ⟨a.re, 0⟩ (mul ⟨a.im, 0⟩ ⟨0, 1⟩) := ext' (by simp only [add, mul]; grind) (by simp only [add, mul]; grind)
 have hu : pw (⟨0, 1⟩ : K2 n) n = ⟨0, -1⟩ := by
  have h4 : pw (⟨0, 1⟩ : K2 n) 4 = one := by
   simp only [pw, one]
   exact ext' (by simp only [mul]; grind) (by simp only [mul]; grind)
  have : ∀ N, N = 4 * (n / 4) + 3 → pw (⟨0, 1⟩ : K2 n) N = ⟨0, -1⟩ := by
   rintro N rfl
   rw [pw_add, pw_mul, h4, pw_one, one_mul']
   simp only [pw, one]
   exact ext' (by simp only [mul]; grind) (by simp only [mul]; grind)
  exact this n (by omega)
 conv => lhs; rw [e]
 rw [frob_add hp, mul_pw, pw_base, pw_base, fermat_p hp.1, fermat_p hp.1, hu]
 exact ext' (by simp only [add, mul, conj]; grind) (by simp only [add, mul, conj]; grind)
omit hp
def hv (n : Nat) [NeZero n] : Fin n := κ n ((n + 1) / 2)
def fsq (a : Fin n) : Fin n × Bool := if rt a * rt a = a then (evn (rt a), true) else (0, false)
def tryP (a : K2 n) (m : Fin n) : K2 n × Bool :=
 if (fsq ((a.re + m) * hv n)).1 = 0 then
  (evn2 ⟨0, (fsq (-a.re)).1⟩, (fsq (-a.re)).2 && decide (mul (evn2 ⟨0, (fsq (-a.re)).1⟩) (evn2 ⟨0, (fsq (-a.re)).1⟩) = a))
 else (evn2 ⟨(fsq ((a.re + m) * hv n)).1, a.im * hv n * Kf.inv (fsq ((a.re + m) * hv n)).1⟩, (fsq ((a.re + m) * hv n)).2 && decide (mul (evn2 ⟨(fsq ((a.re + m) * hv n)).1, a.im * hv n * Kf.inv (fsq ((a.re + m) * hv n)).1⟩) (evn2 ⟨(fsq ((a.re + m) * hv n)).1, a.im * hv n * Kf.inv (fsq ((a.re + m) * hv n)).1⟩) = a))
def sqrtP (a : K2 n) : K2 n × Bool :=
 if (fsq (norm a)).2 then
  if (tryP a (fsq (norm a)).1).2 then ((tryP a (fsq (norm a)).1).1, true)
  else if (tryP a (-(fsq (norm a)).1)).2 then ((tryP a (-(fsq (norm a)).1)).1, true)
  else (zero, false)
 else (zero, false)
def rootR (a : K2 n) : K2 n :=
 if mul (pw a ((n - 3) / 4)) (mul (pw a ((n - 3) / 4)) a) = neg one then mul (mul (pw a ((n - 3) / 4)) a) ⟨0, 1⟩
 else mul (pw (add one (mul (pw a ((n - 3) / 4)) (mul (pw a ((n - 3) / 4)) a))) ((n - 1) / 2)) (mul (pw a ((n - 3) / 4)) a)
def sqrtR (a : K2 n) : K2 n × Bool := if mul (rootR a) (rootR a) = a then (evn2 (rootR a), true) else (zero, false)
def RootOf (a : K2 n) (r : K2 n × Bool) : Prop := (r.2 = true ∧ mul r.1 r.1 = a ∧ sgn r.1 = 0) ∨ (r.2 = false ∧ r.1 = zero ∧ ∀ w, mul w w ≠ a)
include hp
theorem root_eq {a : K2 n} {r s : K2 n × Bool} (hr : RootOf a r) (hs : RootOf a s) : r = s := by
 obtain ⟨r1, r2⟩ := r
 obtain ⟨s1, s2⟩ := s
 rcases hr with ⟨h1, h2, h4⟩ | ⟨h1, h2, h4⟩ <;> rcases hs with ⟨k1, k2, k4⟩ | ⟨k1, k2, k4⟩
 ·simp only at *
  rw [h1, k1, root_unique hp h2 k2 h4 k4]
 ·exact absurd h2 (k4 _)
 ·exact absurd k2 (h4 _)
 ·simp only at *
  rw [h1, k1, h2, k2]
theorem hv_2 : 2 * hv n = 1 := by
 have h3 := hp.2
 have h : κ n (2 * ((n + 1) / 2)) = 1 := by
  rw [show 2 * ((n + 1) / 2) = n + 1 by omega, κ_add, κ_n, κ_1]; grind
 rw [κ_mul] at h
 exact h
theorem fsq_yes {a x : Fin n} (h : x * x = a) : (fsq a).2 = true ∧ (fsq a).1 * (fsq a).1 = a := by
 have h1 := rt_of_sq hp h
 rw [fsq, if_pos h1]
 exact ⟨rfl, by show evn (rt a) * evn (rt a) = a; rw [evn_sq, h1]⟩
omit hp
include hp
theorem tryP_sound {a : K2 n} {m : Fin n} (h : (tryP a m).2 = true) : mul (tryP a m).1 (tryP a m).1 = a ∧ sgn (tryP a m).1 = 0 := by
 rw [tryP] at h ⊢
 split
 ·rename_i hc
  rw [if_pos hc] at h
  simp only [Bool.and_eq_true, decide_eq_true_eq] at h
  exact ⟨h.2, sgn_evn2 hp _⟩
 ·rename_i hc
  rw [if_neg hc] at h
  simp only [Bool.and_eq_true, decide_eq_true_eq] at h
  exact ⟨h.2, sgn_evn2 hp _⟩
theorem tryP_yes {a w : K2 n} (h : mul w w = a) : (tryP a (w.re * w.re + w.im * w.im)).2 = true := by
 have h2 := hv_2 hp
 generalize hv n = v at h2
 obtain ⟨s, t⟩ := w
 have e1 : a.re = s * s - t * t := by rw [← h]; rfl
 have e2 : a.im = s * t + t * s := by rw [← h]; rfl
 have e3 : (a.re + (s * s + t * t)) * hv n = s * s := by
  have h2 := hv_2 hp
  rw [e1]
  generalize hv n = v at h2
  grind
 have hx := fsq_yes hp (x := s) (a := s * s) rfl
 simp only [tryP]
 rw [e3]
 generalize hX : (fsq (s * s)).1 = X at hx
 by_cases h0 : X = 0
 ·rw [if_pos h0]
  have hs : s = 0 := by
   have : s * s = 0 := by rw [← hx.2, h0]; grind
   rcases mul_zero' hp.1 this with h | h <;> exact h
  have hy := fsq_yes hp (x := t) (a := -a.re) (by rw [e1, hs]; grind)
  generalize (fsq (-a.re)).1 = Y at hy
  simp only [Bool.and_eq_true, decide_eq_true_eq]
  refine ⟨hy.1, ?_⟩
  rw [evn2_sq]
  have hy2 := hy.2
  rw [e1] at hy2
  subst hs
  refine ext' ?_ ?_
  ·rw [e1]; simp only [mul]; grind
  ·rw [e2]; simp only [mul]; grind
 ·rw [if_neg h0]
  simp only [Bool.and_eq_true, decide_eq_true_eq]
  refine ⟨hx.1, ?_⟩
  rw [evn2_sq]
  have hi := mul_inv hp.1 h0
  have hv2 := hv_2 hp
  have hx2 := hx.2
  generalize Kf.inv X = I at hi
  generalize hv n = v at hv2
  have hy : a.im * v * I = s * t * I := by rw [e2]; grind
  rw [hy]
  refine ext' ?_ ?_
  ·rw [e1]; simp only [mul]
   have : s * t * I * (s * t * I) = (s * s) * (t * t) * (I * I) := by grind
   rw [this, ← hx2]
   have : X * X * (t * t) * (I * I) = t * t * ((X * I) * (X * I)) := by grind
   rw [this, hi]; grind
  ·rw [e2]; simp only [mul]
   have : X * (s * t * I) = s * t * (X * I) := by grind
   rw [this]
   have : s * t * I * X = s * t * (X * I) := by grind
   rw [this, hi]; grind
theorem sqrtP_root (a : K2 n) : RootOf a (sqrtP a) := by
 have key : ∀ w, mul w w = a → (fsq (norm a)).2 = true ∧ ((tryP a (fsq (norm a)).1).2 = true ∨ (tryP a (-(fsq (norm a)).1)).2 = true) := by
  intro w hw
  have hN : (w.re * w.re + w.im * w.im) * (w.re * w.re + w.im * w.im) = norm a := by rw [← hw, norm_mul]; rfl
  have h1 := fsq_yes hp hN
  refine ⟨h1.1, ?_⟩
  have ht := tryP_yes hp hw
  rcases sq_eq hp.1 (h1.2.trans hN.symm) with h | h
  ·left; rw [h]; exact ht
  ·right; rw [h, show -(-(w.re * w.re + w.im * w.im)) = w.re * w.re + w.im * w.im by grind]; exact ht
 rw [sqrtP]
 split
 ·split
  ·rename_i h
   exact .inl ⟨rfl, tryP_sound hp h⟩
  ·rename_i hn1
   split
   ·rename_i h
    exact .inl ⟨rfl, tryP_sound hp h⟩
   ·rename_i hn2
    refine .inr ⟨rfl, rfl, fun w hw => ?_⟩
    rcases (key w hw).2 with h | h
    ·exact hn1 h
    ·exact hn2 h
 ·rename_i hn
  exact .inr ⟨rfl, rfl, fun w hw => hn (key w hw).1⟩
omit hp in
theorem pw_s (a : K2 n) (k : Nat) : mul (pw a k) a = pw a (k + 1) := rfl
theorem rootR_yes {a w : K2 n} (h : mul w w = a) : mul (rootR a) (rootR a) = a := by
 have h3 := hp.2
 by_cases ha : a = zero
 ·subst ha
  rw [rootR, mul_zero2]
  have hz : ∀ b : K2 n, mul zero b = zero := fun b => by rw [mul_comm', mul_zero2]
  split
  ·rw [hz, hz]
  ·rw [mul_zero2, mul_zero2]
 ·have hw : w ≠ zero := by rintro rfl; exact ha (by rw [← h, mul_zero2])
  generalize hb : pw a ((n - 3) / 4) = b
  have hc : mul b (mul b a) = pw w (n - 1) := by
   rw [← hb, ← mul_assoc', ← pw_add, ← pw, ← h, ← pw_1 w, ← pw_add, pw_1, ← pw_mul]
   congr 1; omega
  have hcw : mul (mul b (mul b a)) w = conj w := by
   rw [hc, pw_s, Nat.sub_add_cancel hp.1.pos]; exact frob hp w
  have hx : mul (mul b a) (mul b a) = mul (mul b (mul b a)) a := by
   rw [mul_comm' b (mul b a), mul_assoc', mul_assoc', mul_assoc']
  rw [rootR, hb]
  generalize mul b (mul b a) = c at hcw hx
  generalize mul b a = x at hx
  split
  ·rename_i hc1
   subst hc1
   have : mul (mul x ⟨0, 1⟩) (mul x ⟨0, 1⟩) = mul (mul x x) (mul ⟨0, 1⟩ ⟨0, 1⟩) := ext' (by simp only [mul]; grind) (by simp only [mul]; grind)
   rw [this, hx]
   exact ext' (by simp only [mul, neg, one]; grind) (by simp only [mul, neg, one]; grind)
  ·rename_i hc1
   have hd : add one c ≠ zero := by
    intro h0
    apply hc1
    have e1 := congrArg re h0
    have e2 := congrArg im h0
    simp only [add, one, zero] at e1 e2
    exact ext' (by simp only [neg, one]; grind) (by simp only [neg, one]; grind)
   have hcc : mul (conj c) c = one := by
    refine cancel2 hp hw ?_
    rw [one_mul', mul_assoc', hcw]
    have e1 := congrArg re hcw
    have e2 := congrArg im hcw
    simp only [mul, conj] at e1 e2
    refine ext' ?_ ?_
    ·simp only [mul, conj]; grind
    ·simp only [mul, conj]; grind
   have he : mul (mul (pw (add one c) ((n - 1) / 2)) (pw (add one c) ((n - 1) / 2))) (add one c) = conj (add one c) := by
    rw [← pw_add, pw_s, show (n - 1) / 2 + (n - 1) / 2 + 1 = n by omega]; exact frob hp _
   generalize pw (add one c) ((n - 1) / 2) = e at he
   have hec : mul (mul e e) c = one := by
    refine cancel2 hp hd ?_
    have h1 : mul (mul (mul e e) c) (add one c) = mul c (mul (mul e e) (add one c)) := by rw [mul_comm' (mul e e) c, mul_assoc']
    rw [h1, he, one_mul']
    have e1 := congrArg re hcc
    have e2 := congrArg im hcc
    simp only [mul, conj, one] at e1 e2
    exact ext' (by simp only [mul, conj, add, one]; grind) (by simp only [mul, conj, add, one]; grind)
   have : mul (mul e x) (mul e x) = mul (mul e e) (mul x x) := ext' (by simp only [mul]; grind) (by simp only [mul]; grind)
   rw [this, hx, ← mul_assoc', hec, one_mul']
theorem sqrtR_root (a : K2 n) : RootOf a (sqrtR a) := by
 rw [sqrtR]
 split
 ·rename_i h
  exact .inl ⟨rfl, by show mul (evn2 _) (evn2 _) = a; rw [evn2_sq, h], sgn_evn2 hp _⟩
 ·rename_i h
  exact .inr ⟨rfl, rfl, fun w hw => h (rootR_yes hp hw)⟩
theorem sqrt_same (a : K2 n) : sqrtP a = sqrtR a := root_eq hp (sqrtP_root hp a) (sqrtR_root hp a)
omit hp
def isq2 (a : K2 n) : Bool := (sqrtP a).2
include hp
theorem isq2_iff {a : K2 n} : isq2 a = true ↔ ∃ w, mul w w = a := by
 rcases sqrtP_root hp a with ⟨h1, h2, _⟩ | ⟨h1, _, h2⟩
 ·exact ⟨fun _ => ⟨_, h2⟩, fun _ => h1⟩
 ·exact ⟨fun h => (by rw [isq2, h1] at h; exact absurd h (by decide)), fun ⟨w, hw⟩ => absurd hw (h2 w)⟩
theorem isq2_norm (a : K2 n) : isq2 a = isq (norm a) := by
 have h1 : isq2 a = true → isq (norm a) = true := by
  intro h
  obtain ⟨w, rfl⟩ := (isq2_iff hp).1 h
  rw [norm_mul]
  exact (isq_iff hp).2 ⟨_, rfl⟩
 have h2 : isq (norm a) = true → isq2 a = true := by
  intro h
  obtain ⟨m, hm⟩ := (isq_iff hp).1 h
  have hv2 := hv_2 hp
  refine (isq2_iff hp).2 ?_
  by_cases hi : a.im = 0
  ·rcases sq_or hp a.re with hr | hr
   ·obtain ⟨x, hx⟩ := (isq_iff hp).1 hr
    exact ⟨⟨x, 0⟩, ext' (by simp only [mul]; grind) (by simp only [mul]; grind)⟩
   ·obtain ⟨x, hx⟩ := (isq_iff hp).1 hr
    exact ⟨⟨0, x⟩, ext' (by simp only [mul]; grind) (by simp only [mul]; grind)⟩
  ·have hN : norm a = a.re * a.re + a.im * a.im := rfl
   rw [hN] at hm
   generalize hv n = v at hv2
   have key : ∀ x m' : Fin n, m' * m' = a.re * a.re + a.im * a.im → x * x = (a.re + m') * v → ∃ w, mul w w = a := by
    intro x m' hm' hx
    have hx0 : x ≠ 0 := by
     rintro rfl
     have h0 : m' = -a.re := by
      have : 2 * ((a.re + m') * v) = 0 := by rw [← hx]; grind
      have : (a.re + m') * (2 * v) = 0 := by grind
      rw [hv2] at this; grind
     have : a.im * a.im = 0 := by rw [h0] at hm'; grind
     rcases mul_zero' hp.1 this with h | h <;> exact hi h
    have hI := mul_inv hp.1 hx0
    generalize Kf.inv x = I at hI
    refine ⟨⟨x, a.im * v * I⟩, ext' ?_ ?_⟩
    ·simp only [mul]
     have h5 : (a.im * v) * (a.im * v) = (x * x) * (x * x) - a.re * (x * x) := by
      rw [hx]
      have : a.im * a.im = m' * m' - a.re * a.re := by grind
      have e : (a.im * v) * (a.im * v) = (a.im * a.im) * (v * v) := by grind
      rw [e, this]
      have : 2 * v * v = v := by rw [hv2]; grind
      grind
     have h6 : a.im * v * I * (a.im * v * I) = (a.im * v) * (a.im * v) * (I * I) := by grind
     rw [h6, h5]
     have h7 : ((x * x) * (x * x) - a.re * (x * x)) * (I * I) = (x * x) * ((x * I) * (x * I)) - a.re * ((x * I) * (x * I)) := by grind
     rw [h7, hI]; grind
    ·simp only [mul]
     have : x * (a.im * v * I) + a.im * v * I * x = a.im * (2 * v) * (x * I) := by grind
     rw [this, hv2, hI]; grind
   rcases sq_or hp ((a.re + m) * v) with hr | hr
   ·obtain ⟨x, hx⟩ := (isq_iff hp).1 hr
    exact key x m hm hx
   ·-- the other one: their product is minus a square
    have hne : (a.re + m) * v ≠ 0 := by
     intro h0
     have h00 : (a.re + m) * (2 * v) = 0 := by grind
     rw [hv2] at h00
     have hme : m = -a.re := by grind
     have : a.im * a.im = 0 := by rw [hme] at hm; grind
     rcases mul_zero' hp.1 this with h | h <;> exact hi h
    have hne2 : (a.re - m) * v ≠ 0 := by
     intro h0
     have h00 : (a.re - m) * (2 * v) = 0 := by grind
     rw [hv2] at h00
     have hme : m = a.re := by grind
     have : a.im * a.im = 0 := by rw [hme] at hm; grind
     rcases mul_zero' hp.1 this with h | h <;> exact hi h
    have hprod : -((a.re + m) * v) * ((a.re - m) * v) = (a.im * v) * (a.im * v) := by
     have : a.im * a.im = m * m - a.re * a.re := by grind
     have e : (a.im * v) * (a.im * v) = (a.im * a.im) * (v * v) := by grind
     rw [e, this]; grind
    have hsq : isq ((a.im * v) * (a.im * v)) = true := (isq_iff hp).2 ⟨_, rfl⟩
    rw [← hprod, isq_mul hp (fun h => hne (by grind)) hne2, hr] at hsq
    have hr2 : isq ((a.re - m) * v) = true := by
     cases h : isq ((a.re - m) * v)
     ·rw [h] at hsq; exact absurd hsq (by decide)
     ·rfl
    obtain ⟨x, hx⟩ := (isq_iff hp).1 hr2
    exact key x (-m) (by grind) (by rw [hx]; grind)
 cases h : isq2 a
 ·cases k : isq (norm a)
  ·rfl
  ·rw [h2 k] at h; exact absurd h (by decide)
 ·rw [h1 h]
end K2
end Go.Proofs.YtbpmbdlgmmabcaaGreat.L.Kf
namespace Go.Proofs.YtbpmbdlgmmabcaaGreat.L.Kf.K2
open Pr
variable {n : Nat} [NeZero n]
theorem tryP_0 {a : K2 n} {m : Fin n} {s : Fin n × Bool} {o : K2 n} (hs : s = fsq ((a.re + m) * hv n)) (h : s.1 = 0) (ho : o = ⟨s.1, (fsq (-a.re)).1⟩) :
  tryP a m = (evn2 o, (fsq (-a.re)).2 && decide (mul (evn2 o) (evn2 o) = a)) := by
 subst hs
 subst ho
 rw [h, tryP, if_pos h]
theorem tryP_1 {a : K2 n} {m : Fin n} {s : Fin n × Bool} {o : K2 n} (hs : s = fsq ((a.re + m) * hv n)) (h : ¬ s.1 = 0) (ho : o = ⟨s.1, a.im * hv n * Kf.inv s.1⟩) :
  tryP a m = (evn2 o, s.2 && decide (mul (evn2 o) (evn2 o) = a)) := by
 subst hs
 subst ho
 rw [tryP, if_neg h]
theorem evn2_1 {a : K2 n} {g : Nat} (hg : g = sgn a) (h : g = 1) : evn2 a = neg a := if_pos (hg.symm.trans h)
theorem evn2_0 {a : K2 n} {g : Nat} (hg : g = sgn a) (h : ¬ g = 1) : evn2 a = a := if_neg fun e => h (hg.trans e)
theorem pw_2k (a : K2 n) (k : Nat) : mul (pw a k) (pw a k) = pw a (2 * k) := by rw [← pw_add, Nat.two_mul]
theorem rootR_0 {a b z c m : K2 n} (hb : b = pw a ((n - 3) / 4)) (hz : z = mul b a) (hc : c = mul b z) (hm : m = neg one) (h : c = m) : rootR a = mul z ⟨0, 1⟩ := by
 subst hm
 rw [hc, hz] at h
 rw [hz]
 subst hb
 rw [rootR, if_pos h]
theorem rootR_1 {a b z c m d e : K2 n} (hb : b = pw a ((n - 3) / 4)) (hz : z = mul b a) (hc : c = mul b z) (hm : m = neg one) (h : ¬ c = m) (hd : d = add one c) (he : e = pw d ((n - 1) / 2)) : rootR a = mul e z := by
 subst hm
 subst he
 subst hd
 rw [hc, hz] at h ⊢
 subst hb
 rw [rootR, if_neg h]
theorem sqrtR_1 {a r : K2 n} (hr : r = rootR a) (h : mul r r = a) : sqrtR a = (evn2 r, true) := by
 subst hr
 rw [sqrtR, if_pos h]
theorem sqrtR_0 {a r : K2 n} (hr : r = rootR a) (h : ¬ mul r r = a) : sqrtR a = (zero, false) := by
 subst hr
 rw [sqrtR, if_neg h]
theorem sqrtP_0 {a : K2 n} {s : Fin n × Bool} (hs : s = fsq (norm a)) (h : s.2 = false) : sqrtP a = (zero, false) := by
 subst hs
 rw [sqrtP, if_neg (by rw [h]; decide)]
theorem sqrtP_1 {a : K2 n} {s : Fin n × Bool} {t : K2 n × Bool} (hs : s = fsq (norm a)) (h : s.2 = true) (ht : t = tryP a s.1) (h1 : t.2 = true) : sqrtP a = (t.1, true) := by
 subst hs
 subst ht
 rw [sqrtP, if_pos h, if_pos h1]
theorem sqrtP_2 {a : K2 n} {s : Fin n × Bool} {t v : K2 n × Bool} (hs : s = fsq (norm a)) (h : s.2 = true) (ht : t = tryP a s.1) (h1 : t.2 = false) (hv : v = tryP a (-s.1)) (h2 : v.2 = true) : sqrtP a = (v.1, true) := by
 subst hs
 subst ht
 subst hv
 rw [sqrtP, if_pos h, if_neg (by rw [h1]; decide), if_pos h2]
theorem sqrtP_3 {a : K2 n} {s : Fin n × Bool} {t v : K2 n × Bool} (hs : s = fsq (norm a)) (h : s.2 = true) (ht : t = tryP a s.1) (h1 : t.2 = false) (hv : v = tryP a (-s.1)) (h2 : v.2 = false) : sqrtP a = (zero, false) := by
 subst hs
 subst ht
 subst hv
 rw [sqrtP, if_pos h, if_neg (by rw [h1]; decide), if_neg (by rw [h2]; decide)]
theorem isq2_def (a : K2 n) : isq2 a = (sqrtP a).2 := rfl
end Go.Proofs.YtbpmbdlgmmabcaaGreat.L.Kf.K2
namespace Go.Proofs.YtbpmbdlgmmabcaaGreat.L.Kf
open Pr
namespace K2
variable {n : Nat} [NeZero n]
instance mulA : Std.Associative (α := K2 n) mul := ⟨mul_assoc'⟩
instance mulC : Std.Commutative (α := K2 n) mul := ⟨mul_comm'⟩
instance addA : Std.Associative (α := K2 n) add := ⟨add_assoc'⟩
instance addC : Std.Commutative (α := K2 n) add := ⟨add_comm'⟩
theorem neg_mul' (a b : K2 n) : mul (neg a) b = neg (mul a b) := ext' (by simp only [mul, neg]; grind) (by simp only [mul, neg]; grind)
theorem mul_neg' (a b : K2 n) : mul a (neg b) = neg (mul a b) := ext' (by simp only [mul, neg]; grind) (by simp only [mul, neg]; grind)
theorem add_neg' (a : K2 n) : add a (neg a) = zero := ext' (by simp only [add, neg, zero]; grind) (by simp only [add, neg, zero]; grind)
theorem neg_add' (a b : K2 n) : neg (add a b) = add (neg a) (neg b) := ext' (by simp only [add, neg]; grind) (by simp only [add, neg]; grind)
theorem sub_self' (a : K2 n) : sub a a = zero := ext' (by simp only [sub, zero]; grind) (by simp only [sub, zero]; grind)
theorem sub_eq (a b : K2 n) : sub a b = add a (neg b) := ext' (by simp only [sub, add, neg]; grind) (by simp only [sub, add, neg]; grind)
theorem sub_zero_eq {a b : K2 n} (h : sub a b = zero) : a = b := by
 have e1 := congrArg re h
 have e2 := congrArg im h
 simp only [sub, zero] at e1 e2
 exact ext' (by grind) (by grind)
theorem add_zero_neg {a b : K2 n} (h : add a b = zero) : a = neg b := by
 have e1 := congrArg re h
 have e2 := congrArg im h
 simp only [add, zero] at e1 e2
 exact ext' (by simp only [neg]; grind) (by simp only [neg]; grind)
theorem zero_add' (a : K2 n) : add zero a = a := by rw [add_comm', add_zero']
theorem zero_mul2 (a : K2 n) : mul zero a = zero := by rw [mul_comm', mul_zero2]
theorem add_mul' (a b c : K2 n) : mul (add a b) c = add (mul a c) (mul b c) := by rw [mul_comm', mul_add', mul_comm' c a, mul_comm' c b]
theorem neg_zero_iff {a : K2 n} : neg a = zero ↔ a = zero := ⟨fun h => by rw [← neg_neg' a, h, neg_zero2], fun h => by rw [h, neg_zero2]⟩
theorem sswu_alg {a b w s x : K2 n} (ht : mul (add (mul w w) w) s = one) (hx : mul a x = neg (mul b (add one s))) :
  add (add (mul (mul (mul w x) (mul w x)) (mul w x)) (mul a (mul w x))) b = mul (mul (mul w w) w) (add (add (mul (mul x x) x) (mul a x)) b) := by
 have e1 : mul (mul (mul w x) (mul w x)) (mul w x) = mul (mul (mul w w) w) (mul (mul x x) x) := by ac_rfl
 have e2 : mul a (mul w x) = mul w (mul a x) := by ac_rfl
 rw [mul_add', mul_add', e1, e2, hx, add_assoc', add_assoc']
 congr 1
 apply sub_zero_eq
 have key : sub (add (mul w (neg (mul b (add one s)))) b) (add (mul (mul (mul w w) w) (neg (mul b (add one s)))) (mul (mul (mul w w) w) b)) = mul (mul b (sub one w)) (sub one (mul (add (mul w w) w) s)) :=
  ext' (by simp only [mul, add, sub, neg, one]; grind) (by simp only [mul, add, sub, neg, one]; grind)
 rw [key, ht, sub_self', mul_zero2]
theorem sswu_x {a b s ia : K2 n} (ha : mul a ia = one) : mul a (mul (neg (mul b ia)) (add one s)) = neg (mul b (add one s)) := by
 have e : mul a (mul (mul b ia) (add one s)) = mul (mul a ia) (mul b (add one s)) := by ac_rfl
 rw [neg_mul', mul_neg', e, ha, one_mul']
variable (hp : P3 n)
include hp
theorem inv_mul2 {a : K2 n} (h : a ≠ zero) : mul (inv a) a = one := by rw [mul_comm']; exact mul_inv2 hp h
theorem mul_ne {a b : K2 n} (ha : a ≠ zero) (hb : b ≠ zero) : mul a b ≠ zero := fun h => (mul_zero_or hp h).elim ha hb
theorem div_eq {a b x : K2 n} (ha : a ≠ zero) (h : mul x a = b) : mul b (inv a) = x := by
 rw [← h, mul_assoc', mul_inv2 hp ha, mul_one']
theorem no_cube {x c : K2 n} (h3 : (n - 1) % 3 = 0) (hc : c ≠ zero) (hn : norm c ^ ((n - 1) / 3) ≠ 1) (h : mul (mul x x) x = c) : False := by
 have hx : x ≠ zero := by
  intro h0
  subst h0
  rw [mul_zero2] at h
  exact hc h.symm
 apply hn
 rw [← h, norm_mul, norm_mul]
 have e : norm x * norm x * norm x = norm x ^ 3 := by
  rw [show (3 : Nat) = 0 + 1 + 1 + 1 from rfl, pow_s, pow_s, pow_s, pow_0]; grind
 rw [e, ← pow_mul', show 3 * ((n - 1) / 3) = n - 1 by omega]
 exact fermat' hp.1 (norm_ne hp hx)
theorem isq2_mul {a b : K2 n} (ha : a ≠ zero) (hb : b ≠ zero) : isq2 (mul a b) = (isq2 a == isq2 b) := by
 rw [isq2_norm hp, isq2_norm hp, isq2_norm hp, norm_mul, isq_mul hp (norm_ne hp ha) (norm_ne hp hb)]
theorem isq2_sq (a : K2 n) : isq2 (mul a a) = true := (isq2_iff hp).2 ⟨a, rfl⟩
omit hp
theorem sgn_flip (hp : P3 n) {a : K2 n} (ha : a ≠ zero) : sgn (neg a) = 1 - sgn a := by
 have := sgn_neg hp ha
 omega
end K2
end Go.Proofs.YtbpmbdlgmmabcaaGreat.L.Kf
namespace Go.Proofs.YtbpmbdlgmmabcaaGreat.L.Kf
open Pr
namespace K2
variable {n : Nat} [NeZero n]
def ofN : Nat → K2 n
 | 0 => zero
 | k + 1 => add (ofN k) one
def ofZ : Int → K2 n
 | .ofNat k => ofN k
 | .negSucc k => neg (ofN (k + 1))
theorem ofN_s (k : Nat) : (ofN (k + 1) : K2 n) = add (ofN k) one := rfl
theorem ofN_add (a b : Nat) : (ofN (a + b) : K2 n) = add (ofN a) (ofN b) := by
 induction b with
 | zero => exact (add_zero' _).symm
 | succ b ih => rw [← Nat.add_assoc, ofN_s, ofN_s, ih, add_assoc']
theorem ofN_mul (a b : Nat) : (ofN (a * b) : K2 n) = mul (ofN a) (ofN b) := by
 induction b with
 | zero => exact (mul_zero2 _).symm
 | succ b ih => rw [Nat.mul_succ, ofN_add, ih, ofN_s, mul_add', mul_one']
theorem ofZ_sub (a b : Nat) : (ofZ (Int.subNatNat a b) : K2 n) = add (ofN a) (neg (ofN b)) := by
 rcases Nat.le_total b a with h | h
 ·obtain ⟨k, rfl⟩ : ∃ k, a = b + k := ⟨a - b, by omega⟩
  have e : Int.subNatNat (b + k) b = Int.ofNat k := by rw [Int.subNatNat_eq_coe]; show (_ : Int) = (k : Int); omega
  rw [e, ofN_add]
  show ofN k = _
  rw [add_comm' (ofN b), add_assoc', add_neg', add_zero']
 ·rcases Nat.eq_or_lt_of_le h with h | h
  ·subst h
   have e : Int.subNatNat a a = Int.ofNat 0 := by rw [Int.subNatNat_eq_coe]; show (_ : Int) = (0 : Int); omega
   rw [e, add_neg']; rfl
  ·obtain ⟨k, rfl⟩ : ∃ k, b = a + (k + 1) := ⟨b - a - 1, by omega⟩
   have e : Int.subNatNat a (a + (k + 1)) = Int.negSucc k := by rw [Int.subNatNat_eq_coe, Int.negSucc_eq]; omega
   rw [e, ofN_add, neg_add', ← add_assoc', add_neg', zero_add']
   rfl
theorem ofZ_add (a b : Int) : (ofZ (a + b) : K2 n) = add (ofZ a) (ofZ b) := by
 cases a with
 | ofNat a => cases b with
  | ofNat b => exact ofN_add a b
  | negSucc b => exact ofZ_sub a (b + 1)
 | negSucc a => cases b with
  | ofNat b => exact (ofZ_sub b (a + 1)).trans (add_comm' _ _)
  | negSucc b =>
   show neg (ofN (a + b + 1 + 1)) = add (neg (ofN (a + 1))) (neg (ofN (b + 1)))
   rw [← neg_add', ← ofN_add, show a + b + 1 + 1 = a + 1 + (b + 1) by omega]
theorem ofZ_neg (a : Int) : (ofZ (-a) : K2 n) = neg (ofZ a) := by
 cases a with
 | ofNat a => cases a with
  | zero => exact neg_zero2.symm
  | succ a => rfl
 | negSucc a => exact (neg_neg' _).symm
theorem ofZ_nn (a : Nat) : (ofZ (Int.negOfNat a) : K2 n) = neg (ofN a) := by
 cases a with
 | zero => exact neg_zero2.symm
 | succ a => rfl
theorem ofZ_mul (a b : Int) : (ofZ (a * b) : K2 n) = mul (ofZ a) (ofZ b) := by
 cases a with
 | ofNat a => cases b with
  | ofNat b => exact ofN_mul a b
  | negSucc b =>
   show ofZ (Int.negOfNat (a * (b + 1))) = mul (ofN a) (neg (ofN (b + 1)))
   rw [ofZ_nn, ofN_mul, mul_neg']
 | negSucc a => cases b with
  | ofNat b =>
   show ofZ (Int.negOfNat ((a + 1) * b)) = mul (neg (ofN (a + 1))) (ofN b)
   rw [ofZ_nn, ofN_mul, neg_mul']
  | negSucc b =>
   show ofN ((a + 1) * (b + 1)) = mul (neg (ofN (a + 1))) (neg (ofN (b + 1)))
   rw [ofN_mul, neg_mul', mul_neg', neg_neg']
inductive Ex where
 | v (i : Nat)
 | c (k : Int)
 | a (x y : Ex)
 | s (x y : Ex)
 | m (x y : Ex)
 | n (x : Ex)
def Ex.ev (vs : List (K2 n)) : Ex → K2 n
 | .v i => vs.getD i zero
 | .c k => ofZ k
 | .a x y => add (x.ev vs) (y.ev vs)
 | .s x y => sub (x.ev vs) (y.ev vs)
 | .m x y => mul (x.ev vs) (y.ev vs)
 | .n x => neg (x.ev vs)
abbrev Mo := List Nat
abbrev Po := List (Mo × Int)
def ppw (a : K2 n) : Nat → K2 n
 | 0 => one
 | k + 1 => mul (ppw a k) a
theorem ppw_add (a : K2 n) (j k : Nat) : ppw a (j + k) = mul (ppw a j) (ppw a k) := by
 induction k with
 | zero => exact (mul_one' _).symm
 | succ k ih =>
  show mul (ppw a (j + k)) a = mul (ppw a j) (mul (ppw a k) a)
  rw [ih, mul_assoc']
def mev (vs : List (K2 n)) (i : Nat) : Mo → K2 n
 | [] => one
 | e :: es => mul (ppw (vs.getD i zero) e) (mev vs (i + 1) es)
def pev (vs : List (K2 n)) : Po → K2 n
 | [] => zero
 | t :: p => add (mul (ofZ t.2) (mev vs 0 t.1)) (pev vs p)
def mmul : Mo → Mo → Mo
 | [], q => q
 | a :: p, [] => a :: p
 | a :: p, b :: q => (a + b) :: mmul p q
theorem mmul_ev (vs : List (K2 n)) : ∀ (p q : Mo) (i : Nat), mev vs i (mmul p q) = mul (mev vs i p) (mev vs i q)
 | [], q, i => (one_mul' _).symm
 | a :: p, [], i => (mul_one' _).symm
 | a :: p, b :: q, i => by
  show mul (ppw _ (a + b)) (mev vs (i + 1) (mmul p q)) = mul (mul _ _) (mul _ _)
  rw [ppw_add, mmul_ev vs p q (i + 1)]
  ac_rfl
def mcmp : Mo → Mo → Nat
 | [], [] => 1
 | [], _ :: _ => 0
 | _ :: _, [] => 2
 | a :: p, b :: q => if Nat.beq a b then mcmp p q else if Nat.ble a b then 0 else 2
theorem mcmp_eq : ∀ {p q : Mo}, mcmp p q = 1 → p = q
 | [], [], _ => rfl
 | [], _ :: _, h => absurd h (by show ¬ (0 : Nat) = 1; decide)
 | _ :: _, [], h => absurd h (by show ¬ (2 : Nat) = 1; decide)
 | a :: p, b :: q, h => by
  unfold mcmp at h
  by_cases hab : Nat.beq a b = true
  ·rw [if_pos hab] at h
   rw [Nat.eq_of_beq_eq_true hab, mcmp_eq h]
  ·rw [if_neg hab] at h
   split at h <;> exact absurd h (by decide)
def cons (t : Mo × Int) (p : Po) : Po := if t.2 = 0 then p else t :: p
theorem cons_ev (vs : List (K2 n)) (t : Mo × Int) (p : Po) : pev vs (cons t p) = add (mul (ofZ t.2) (mev vs 0 t.1)) (pev vs p) := by
 unfold cons
 split
 ·rename_i h
  rw [h, show (ofZ 0 : K2 n) = zero from rfl, zero_mul2, zero_add']
 ·rfl
def addq (t : Mo × Int) (p : Po) (ih : Po → Po) : Po → Po
 | [] => t :: p
 | s :: q => match mcmp t.1 s.1 with
  | 0 => t :: ih (s :: q)
  | 1 => cons (t.1, t.2 + s.2) (ih q)
  | _ => s :: addq t p ih q
def addp : Po → Po → Po
 | [], q => q
 | t :: p, q => addq t p (fun r => addp p r) q
theorem addp_nil (q : Po) : addp [] q = q := rfl
theorem addp_c0 (t : Mo × Int) (p : Po) : addp (t :: p) [] = t :: p := rfl
theorem addp_cc (t s : Mo × Int) (p q : Po) : addp (t :: p) (s :: q) = match mcmp t.1 s.1 with
  | 0 => t :: addp p (s :: q)
  | 1 => cons (t.1, t.2 + s.2) (addp p q)
  | _ => s :: addp (t :: p) q := rfl
theorem addp_ev (vs : List (K2 n)) : ∀ (p q : Po), pev vs (addp p q) = add (pev vs p) (pev vs q) := by
 intro p
 induction p with
 | nil => intro q; rw [addp_nil]; exact (zero_add' _).symm
 | cons t p ih =>
  intro q
  induction q with
  | nil => rw [addp_c0]; exact (add_zero' _).symm
  | cons s q ihq =>
   rw [addp_cc]
   split
   ·show add _ (pev vs (addp p (s :: q))) = add (add _ _) (pev vs (s :: q))
    rw [ih]; ac_rfl
   ·rename_i h
    rw [cons_ev, ih, ofZ_add, add_mul']
    show _ = add (add _ _) (add (mul (ofZ s.2) (mev vs 0 s.1)) _)
    rw [← mcmp_eq h]
    ac_rfl
   ·show add _ (pev vs (addp (t :: p) q)) = add (pev vs (t :: p)) (add _ _)
    rw [ihq]; ac_rfl
def mult (t : Mo × Int) : Po → Po
 | [] => []
 | s :: q => (mmul t.1 s.1, t.2 * s.2) :: mult t q
theorem mult_ev (vs : List (K2 n)) (t : Mo × Int) : ∀ q : Po, pev vs (mult t q) = mul (mul (ofZ t.2) (mev vs 0 t.1)) (pev vs q)
 | [] => (mul_zero2 _).symm
 | s :: q => by
  show add (mul (ofZ (t.2 * s.2)) (mev vs 0 (mmul t.1 s.1))) (pev vs (mult t q)) = mul _ (add (mul (ofZ s.2) (mev vs 0 s.1)) (pev vs q))
  rw [mult_ev vs t q, mmul_ev, ofZ_mul, mul_add']
  congr 1
  ac_rfl
def mulp : Po → Po → Po
 | [], _ => []
 | t :: p, q => addp (mult t q) (mulp p q)
theorem mulp_ev (vs : List (K2 n)) : ∀ p q : Po, pev vs (mulp p q) = mul (pev vs p) (pev vs q)
 | [], q => (zero_mul2 _).symm
 | t :: p, q => by
  show pev vs (addp (mult t q) (mulp p q)) = mul (add _ _) _
  rw [addp_ev, mult_ev, mulp_ev vs p q, add_mul']
def negp : Po → Po
 | [] => []
 | t :: p => (t.1, -t.2) :: negp p
theorem negp_ev (vs : List (K2 n)) : ∀ p : Po, pev vs (negp p) = neg (pev vs p)
 | [] => neg_zero2.symm
 | t :: p => by
  show add (mul (ofZ (-t.2)) (mev vs 0 t.1)) (pev vs (negp p)) = neg (add _ _)
  rw [negp_ev vs p, ofZ_neg, neg_mul', neg_add']
def unit : Nat → Mo
 | 0 => [1]
 | i + 1 => 0 :: unit i
theorem unit_ev (vs : List (K2 n)) : ∀ i j : Nat, mev vs j (unit i) = vs.getD (j + i) zero
 | 0, j => by
  show mul (mul one (vs.getD j zero)) one = _
  rw [mul_one', one_mul']; rfl
 | i + 1, j => by
  show mul one (mev vs (j + 1) (unit i)) = _
  rw [one_mul', unit_ev vs i (j + 1), show j + 1 + i = j + (i + 1) by omega]
def nf : Ex → Po
 | .v i => [(unit i, 1)]
 | .c k => cons ([], k) []
 | .a x y => addp (nf x) (nf y)
 | .s x y => addp (nf x) (negp (nf y))
 | .m x y => mulp (nf x) (nf y)
 | .n x => negp (nf x)
theorem nf_ev (vs : List (K2 n)) : ∀ x : Ex, pev vs (nf x) = x.ev vs
 | .v i => by
  show add (mul (ofZ 1) (mev vs 0 (unit i))) zero = vs.getD i zero
  rw [unit_ev, Nat.zero_add, show (ofZ 1 : K2 n) = add zero one from rfl, zero_add', one_mul', add_zero']
 | .c k => by
  show pev vs (cons ([], k) []) = ofZ k
  rw [cons_ev]
  show add (mul (ofZ k) one) zero = ofZ k
  rw [mul_one', add_zero']
 | .a x y => by
  show pev vs (addp (nf x) (nf y)) = add _ _
  rw [addp_ev, nf_ev vs x, nf_ev vs y]
 | .s x y => by
  show pev vs (addp (nf x) (negp (nf y))) = sub _ _
  rw [addp_ev, negp_ev, nf_ev vs x, nf_ev vs y, sub_eq]
 | .m x y => by
  show pev vs (mulp (nf x) (nf y)) = mul _ _
  rw [mulp_ev, nf_ev vs x, nf_ev vs y]
 | .n x => by
  show pev vs (negp (nf x)) = neg _
  rw [negp_ev, nf_ev vs x]
def chk (x y : Ex) : Bool := (addp (nf x) (negp (nf y))).isEmpty
theorem ring {x y : Ex} (h : chk x y = true) (vs : List (K2 n)) : x.ev vs = y.ev vs := by
 have e : addp (nf x) (negp (nf y)) = [] := List.isEmpty_iff.1 h
 have e2 := addp_ev vs (nf x) (negp (nf y))
 rw [e, negp_ev, nf_ev, nf_ev, ← sub_eq] at e2
 exact sub_zero_eq e2.symm
theorem lin1 {x y c u v : K2 n} (e : sub x y = mul c (sub u v)) (h : u = v) : x = y := by
 subst h
 rw [sub_self', mul_zero2] at e
 exact sub_zero_eq e
theorem lin2 {x y c u v d r s : K2 n} (e : sub x y = add (mul c (sub u v)) (mul d (sub r s))) (h : u = v) (h2 : r = s) : x = y := by
 subst h
 subst h2
 rw [sub_self', sub_self', mul_zero2, mul_zero2, add_zero'] at e
 exact sub_zero_eq e
theorem lin3 {x y c u v d r s g k l : K2 n} (e : sub x y = add (add (mul c (sub u v)) (mul d (sub r s))) (mul g (sub k l))) (h : u = v) (h2 : r = s) (h3 : k = l) : x = y := by
 subst h
 subst h2
 subst h3
 rw [sub_self', sub_self', sub_self', mul_zero2, mul_zero2, mul_zero2, add_zero', add_zero'] at e
 exact sub_zero_eq e
theorem lin4 {x y c u v d r s g k l t w z : K2 n} (e : sub x y = add (add (add (mul c (sub u v)) (mul d (sub r s))) (mul g (sub k l))) (mul t (sub w z))) (h : u = v) (h2 : r = s) (h3 : k = l) (h4 : w = z) : x = y := by
 subst h
 subst h2
 subst h3
 subst h4
 rw [sub_self', sub_self', sub_self', sub_self', mul_zero2, mul_zero2, mul_zero2, mul_zero2, add_zero', add_zero', add_zero'] at e
 exact sub_zero_eq e
theorem ofZ_0 : (ofZ 0 : K2 n) = zero := rfl
theorem ofZ_1 : (ofZ 1 : K2 n) = one := by show add zero one = one; rw [zero_add']
end K2
end Go.Proofs.YtbpmbdlgmmabcaaGreat.L.Kf
namespace Go.Proofs.YtbpmbdlgmmabcaaGreat.L.Kf
open Pr
namespace K2
variable {n : Nat} [NeZero n]
theorem dbl_ne (hp : P3 n) {y : K2 n} (h : y ≠ zero) : add y y ≠ zero := by
 intro e
 apply h
 have e1 := congrArg re e
 have e2 := congrArg im e
 have two : ∀ a : Fin n, a + a = 0 → a = 0 := fun a ha => (mul_zero' hp.1 (show (2 : Fin n) * a = 0 by grind)).resolve_left (two_ne hp)
 exact ext' (two _ e1) (two _ e2)
theorem one_ne2 (hp : P3 n) : (one : K2 n) ≠ zero := fun e => one_ne hp.1 (congrArg re e)
attribute [local irreducible] add mul sub neg zero one inv
abbrev Pt (n : Nat) := Option (K2 n × K2 n)
def cx (l a b : K2 n) : K2 n := sub (sub (mul l l) a) b
def cy (l a y b : K2 n) : K2 n := sub (mul l (sub a (cx l a b))) y
def q3 (a b : K2 n) : K2 n := add (add (mul a a) (mul a b)) (mul b b)
def tang (x y : K2 n) : K2 n := mul (q3 x x) (inv (add y y))
def chor (x1 y1 x2 y2 : K2 n) : K2 n := mul (sub y2 y1) (inv (sub x2 x1))
def pa : Pt n → Pt n → Pt n
 | none, q => q
 | some p, none => some p
 | some p, some q =>
  if p.1 = q.1 then if p.2 = q.2 ∧ p.2 ≠ zero then some (cx (tang p.1 p.2) p.1 q.1, cy (tang p.1 p.2) p.1 p.2 q.1) else none
  else some (cx (chor p.1 p.2 q.1 q.2) p.1 q.1, cy (chor p.1 p.2 q.1 q.2) p.1 p.2 q.1)
def pn : Pt n → Pt n
 | none => none
 | some p => some (p.1, neg p.2)
def Onc (b : K2 n) : Pt n → Prop
 | none => True
 | some p => mul p.2 p.2 = add (mul (mul p.1 p.1) p.1) b
structure Sl (l x1 y1 x2 y2 : K2 n) : Prop where
 a : y1 = add y2 (mul l (sub x1 x2))
 b : mul l (add y1 y2) = q3 x1 x2
theorem onc_some {k : Nat} {b x y : K2 k} (h : Onc b (some (x, y))) : mul y y = add (mul (mul x x) x) b := h
theorem some_pair {k : Nat} {a b c d : K2 k} (h : a = c) (h2 : b = d) : (some (a, b) : Pt k) = some (c, d) := by rw [h, h2]
theorem pa_none_right (p : Pt n) : pa p none = p := by cases p <;> rfl
theorem pn_pn (p : Pt n) : pn (pn p) = p := by
 cases p with
 | none => rfl
 | some p => show some (p.1, neg (neg p.2)) = some p; rw [neg_neg']
theorem mul_can (hp : P3 n) {a x y : K2 n} (ha : a ≠ zero) (h : mul a (sub x y) = zero) : x = y := sub_zero_eq ((mul_zero_or hp h).resolve_left ha)
theorem Onc_pn {b : K2 n} {p : Pt n} (h : Onc b p) : Onc b (pn p) := by
 cases p with
 | none => trivial
 | some p => show mul (neg p.2) (neg p.2) = _; rw [neg_mul', mul_neg', neg_neg']; exact h
theorem pa_sl (hp : P3 n) {l x1 y1 x2 y2 : K2 n} (h : Sl l x1 y1 x2 y2) (hne : x1 ≠ x2 ∨ add y1 y2 ≠ zero) : pa (some (x1, y1)) (some (x2, y2)) = some (cx l x1 x2, cy l x1 y1 x2) := by
 by_cases hx : x1 = x2
 ·subst hx
  have hy : y1 = y2 := by
   have := h.a
   rwa [sub_self', mul_zero2, add_zero'] at this
  subst hy
  have h2 : add y1 y1 ≠ zero := hne.resolve_left fun h => h rfl
  have hy0 : y1 ≠ zero := fun e => h2 (by rw [e, add_zero'])
  have ht : tang x1 y1 = l := div_eq hp h2 h.b
  show (if x1 = x1 then if y1 = y1 ∧ y1 ≠ zero then _ else _ else _) = _
  rw [if_pos rfl, if_pos ⟨rfl, hy0⟩, ht]
 ·have hd : sub x2 x1 ≠ zero := fun e => hx (sub_zero_eq e).symm
  have hc : chor x1 y1 x2 y2 = l := div_eq hp hd (lin1 (ring (x := (.s (.m (.v 4) (.s (.v 2) (.v 0))) (.s (.v 3) (.v 1)))) (y := (.m (.c 1) (.s (.v 1) (.a (.v 3) (.m (.v 4) (.s (.v 0) (.v 2))))))) (by decide +kernel) [x1, y1, x2, y2, l]) (h.a))
  show (if x1 = x2 then _ else _) = _
  rw [if_neg hx, hc]
theorem pa_deg (hp : P3 n) {x1 y1 x2 y2 : K2 n} (hx : x1 = x2) (hy : add y1 y2 = zero) : pa (some (x1, y1)) (some (x2, y2)) = none := by
 subst hx
 show (if x1 = x1 then if y1 = y2 ∧ y1 ≠ zero then _ else _ else _) = _
 rw [if_pos rfl, if_neg]
 rintro ⟨rfl, h⟩
 exact dbl_ne hp h hy
theorem sl_ex (hp : P3 n) {b x1 y1 x2 y2 : K2 n} (hP : mul y1 y1 = add (mul (mul x1 x1) x1) b) (hQ : mul y2 y2 = add (mul (mul x2 x2) x2) b) :
  (x1 = x2 ∧ add y1 y2 = zero) ∨ ∃ l, Sl l x1 y1 x2 y2 ∧ (x1 ≠ x2 ∨ add y1 y2 ≠ zero) := by
 by_cases hx : x1 = x2
 ·subst hx
  have e : mul (sub y1 y2) (add y1 y2) = ofZ 0 := lin2 (ring (x := (.s (.m (.s (.v 1) (.v 2)) (.a (.v 1) (.v 2))) (.c 0))) (y := (.a (.m (.c 1) (.s (.m (.v 1) (.v 1)) (.a (.m (.m (.v 0) (.v 0)) (.v 0)) (.v 3)))) (.m (.c (-1)) (.s (.m (.v 2) (.v 2)) (.a (.m (.m (.v 0) (.v 0)) (.v 0)) (.v 3)))))) (by decide +kernel) [x1, y1, y2, b]) (hP) (hQ)
  by_cases hs : add y1 y2 = zero
  ·exact .inl ⟨rfl, hs⟩
  ·have hy : y1 = y2 := sub_zero_eq ((mul_zero_or hp e).resolve_right hs)
   subst hy
   refine .inr ⟨mul (q3 x1 x1) (inv (add y1 y1)), ⟨?_, ?_⟩, .inr hs⟩
   ·rw [sub_self', mul_zero2, add_zero']
   ·rw [mul_assoc', inv_mul2 hp hs, mul_one']
 ·have hd : sub x1 x2 ≠ zero := fun e => hx (sub_zero_eq e)
  have hi := inv_mul2 hp hd
  rw [← ofZ_1] at hi
  generalize inv (sub x1 x2) = i at hi
  refine .inr ⟨mul (sub y1 y2) i, ⟨?_, ?_⟩, .inl hx⟩
  ·exact lin1 (ring (x := (.s (.v 1) (.a (.v 3) (.m (.m (.s (.v 1) (.v 3)) (.v 4)) (.s (.v 0) (.v 2)))))) (y := (.m (.n (.s (.v 1) (.v 3))) (.s (.m (.v 4) (.s (.v 0) (.v 2))) (.c 1)))) (by decide +kernel) [x1, y1, x2, y2, i, b]) (hi)
  ·refine mul_can hp hd ?_
   rw [← ofZ_0]
   exact lin3 (ring (x := (.s (.m (.s (.v 0) (.v 2)) (.s (.m (.m (.s (.v 1) (.v 3)) (.v 4)) (.a (.v 1) (.v 3))) (.a (.a (.m (.v 0) (.v 0)) (.m (.v 0) (.v 2))) (.m (.v 2) (.v 2))))) (.c 0))) (y := (.a (.a (.m (.m (.s (.v 1) (.v 3)) (.a (.v 1) (.v 3))) (.s (.m (.v 4) (.s (.v 0) (.v 2))) (.c 1))) (.m (.c 1) (.s (.m (.v 1) (.v 1)) (.a (.m (.m (.v 0) (.v 0)) (.v 0)) (.v 5))))) (.m (.c (-1)) (.s (.m (.v 3) (.v 3)) (.a (.m (.m (.v 2) (.v 2)) (.v 2)) (.v 5)))))) (by decide +kernel) [x1, y1, x2, y2, i, b]) (hi) (hP) (hQ)
theorem on_sl {b l x1 y1 x2 y2 : K2 n} (h : Sl l x1 y1 x2 y2) (hP : mul y1 y1 = add (mul (mul x1 x1) x1) b) : mul (cy l x1 y1 x2) (cy l x1 y1 x2) = add (mul (mul (cx l x1 x2) (cx l x1 x2)) (cx l x1 x2)) b := by
 obtain ⟨rfl, hb⟩ := h
 exact lin2 (ring (x := (.s (.m (.s (.m (.v 3) (.s (.v 0) (.s (.s (.m (.v 3) (.v 3)) (.v 0)) (.v 1)))) (.a (.v 2) (.m (.v 3) (.s (.v 0) (.v 1))))) (.s (.m (.v 3) (.s (.v 0) (.s (.s (.m (.v 3) (.v 3)) (.v 0)) (.v 1)))) (.a (.v 2) (.m (.v 3) (.s (.v 0) (.v 1)))))) (.a (.m (.m (.s (.s (.m (.v 3) (.v 3)) (.v 0)) (.v 1)) (.s (.s (.m (.v 3) (.v 3)) (.v 0)) (.v 1))) (.s (.s (.m (.v 3) (.v 3)) (.v 0)) (.v 1))) (.v 4)))) (y := (.a (.m (.a (.m (.m (.c 1) (.v 3)) (.v 3)) (.a (.m (.c (-1)) (.v 1)) (.m (.c (-2)) (.v 0)))) (.s (.m (.v 3) (.a (.a (.v 2) (.m (.v 3) (.s (.v 0) (.v 1)))) (.v 2))) (.a (.a (.m (.v 0) (.v 0)) (.m (.v 0) (.v 1))) (.m (.v 1) (.v 1))))) (.m (.c 1) (.s (.m (.a (.v 2) (.m (.v 3) (.s (.v 0) (.v 1)))) (.a (.v 2) (.m (.v 3) (.s (.v 0) (.v 1))))) (.a (.m (.m (.v 0) (.v 0)) (.v 0)) (.v 4)))))) (by decide +kernel) [x1, x2, y2, l, b]) (hb) (hP)
theorem Sl.symm {l x1 y1 x2 y2 : K2 n} (h : Sl l x1 y1 x2 y2) : Sl l x2 y2 x1 y1 := by
 refine ⟨?_, ?_⟩
 ·exact lin1 (ring (x := (.s (.v 3) (.a (.v 1) (.m (.v 4) (.s (.v 2) (.v 0)))))) (y := (.m (.c (-1)) (.s (.v 1) (.a (.v 3) (.m (.v 4) (.s (.v 0) (.v 2))))))) (by decide +kernel) [x1, y1, x2, y2, l]) (h.a)
 ·rw [add_comm' y2 y1, h.b]
  exact ring (x := (.a (.a (.m (.v 0) (.v 0)) (.m (.v 0) (.v 1))) (.m (.v 1) (.v 1)))) (y := (.a (.a (.m (.v 1) (.v 1)) (.m (.v 1) (.v 0))) (.m (.v 0) (.v 0)))) (by decide +kernel) [x1, x2]
theorem cx_comm (l x1 x2 : K2 n) : cx l x1 x2 = cx l x2 x1 := ring (x := (.s (.s (.m (.v 0) (.v 0)) (.v 1)) (.v 2))) (y := (.s (.s (.m (.v 0) (.v 0)) (.v 2)) (.v 1))) (by decide +kernel) [l, x1, x2]
theorem cy_comm {l x1 y1 x2 y2 : K2 n} (h : Sl l x1 y1 x2 y2) : cy l x1 y1 x2 = cy l x2 y2 x1 := lin1 (ring (x := (.s (.s (.m (.v 4) (.s (.v 0) (.s (.s (.m (.v 4) (.v 4)) (.v 0)) (.v 2)))) (.v 1)) (.s (.m (.v 4) (.s (.v 2) (.s (.s (.m (.v 4) (.v 4)) (.v 2)) (.v 0)))) (.v 3)))) (y := (.m (.c (-1)) (.s (.v 1) (.a (.v 3) (.m (.v 4) (.s (.v 0) (.v 2))))))) (by decide +kernel) [x1, y1, x2, y2, l]) (h.a)
theorem Onc_pa (hp : P3 n) {b : K2 n} {p q : Pt n} (hP : Onc b p) (hQ : Onc b q) : Onc b (pa p q) := by
 cases p with
 | none => exact hQ
 | some p => cases q with
  | none => exact hP
  | some q =>
   obtain ⟨x1, y1⟩ := p
   obtain ⟨x2, y2⟩ := q
   rcases sl_ex hp hP hQ with ⟨h1, h2⟩ | ⟨l, h, hn⟩
   ·rw [pa_deg hp h1 h2]; trivial
   ·rw [pa_sl hp h hn]; exact on_sl h hP
theorem pa_comm (hp : P3 n) {b : K2 n} {p q : Pt n} (hP : Onc b p) (hQ : Onc b q) : pa p q = pa q p := by
 cases p with
 | none => exact (pa_none_right q).symm
 | some p => cases q with
  | none => rfl
  | some q =>
   obtain ⟨x1, y1⟩ := p
   obtain ⟨x2, y2⟩ := q
   rcases sl_ex hp hP hQ with ⟨h1, h2⟩ | ⟨l, h, hn⟩
   ·rw [pa_deg hp h1 h2, pa_deg hp h1.symm (by rw [add_comm']; exact h2)]
   ·rw [pa_sl hp h hn, pa_sl hp h.symm (hn.imp (fun e => Ne.symm e) (fun e => by rw [add_comm']; exact e)), cx_comm, cy_comm h]
theorem pa_inv (hp : P3 n) (p : Pt n) : pa p (pn p) = none := by
 cases p with
 | none => rfl
 | some p => exact pa_deg hp rfl (add_neg' p.2)
theorem pa_inv' (hp : P3 n) (p : Pt n) : pa (pn p) p = none := by
 cases p with
 | none => rfl
 | some p => exact pa_deg hp rfl (by rw [add_comm', add_neg'])
theorem Sl.opp {l x1 y1 x2 y2 : K2 n} (h : Sl l x1 y1 x2 y2) : Sl (neg l) x1 (neg y1) x2 (neg y2) := ⟨lin1 (ring (x := (.s (.n (.v 1)) (.a (.n (.v 3)) (.m (.n (.v 4)) (.s (.v 0) (.v 2)))))) (y := (.m (.c (-1)) (.s (.v 1) (.a (.v 3) (.m (.v 4) (.s (.v 0) (.v 2))))))) (by decide +kernel) [x1, y1, x2, y2, l]) (h.a), lin1 (ring (x := (.s (.m (.n (.v 4)) (.a (.n (.v 1)) (.n (.v 3)))) (.a (.a (.m (.v 0) (.v 0)) (.m (.v 0) (.v 2))) (.m (.v 2) (.v 2))))) (y := (.m (.c 1) (.s (.m (.v 4) (.a (.v 1) (.v 3))) (.a (.a (.m (.v 0) (.v 0)) (.m (.v 0) (.v 2))) (.m (.v 2) (.v 2)))))) (by decide +kernel) [x1, y1, x2, y2, l]) (h.b)⟩
theorem cx_opp (l x1 x2 : K2 n) : cx (neg l) x1 x2 = cx l x1 x2 := ring (x := (.s (.s (.m (.n (.v 0)) (.n (.v 0))) (.v 1)) (.v 2))) (y := (.s (.s (.m (.v 0) (.v 0)) (.v 1)) (.v 2))) (by decide +kernel) [l, x1, x2]
theorem cy_opp (l x1 y1 x2 : K2 n) : cy (neg l) x1 (neg y1) x2 = neg (cy l x1 y1 x2) := ring (x := (.s (.m (.n (.v 0)) (.s (.v 1) (.s (.s (.m (.n (.v 0)) (.n (.v 0))) (.v 1)) (.v 3)))) (.n (.v 2)))) (y := (.n (.s (.m (.v 0) (.s (.v 1) (.s (.s (.m (.v 0) (.v 0)) (.v 1)) (.v 3)))) (.v 2)))) (by decide +kernel) [l, x1, y1, x2]
theorem pa_pn (hp : P3 n) {b : K2 n} {p q : Pt n} (hP : Onc b p) (hQ : Onc b q) : pa (pn p) (pn q) = pn (pa p q) := by
 cases p with
 | none => rfl
 | some p => cases q with
  | none => rfl
  | some q =>
   obtain ⟨x1, y1⟩ := p
   obtain ⟨x2, y2⟩ := q
   show pa (some (x1, neg y1)) (some (x2, neg y2)) = _
   rcases sl_ex hp hP hQ with ⟨h1, h2⟩ | ⟨l, h, hn⟩
   ·rw [pa_deg hp h1 h2, pa_deg hp h1 (by rw [← neg_add', h2, neg_zero2])]; rfl
   ·rw [pa_sl hp h hn, pa_sl hp h.opp (hn.imp id fun e h => e (neg_zero_iff.1 (by rw [neg_add']; exact h))), cx_opp, cy_opp]; rfl
theorem Sl.back {l x1 y1 x2 y2 : K2 n} (h : Sl l x1 y1 x2 y2) : Sl (neg l) (cx l x1 x2) (cy l x1 y1 x2) x2 (neg y2) := by
 obtain ⟨rfl, hb⟩ := h
 exact ⟨ring (x := (.s (.m (.v 3) (.s (.v 0) (.s (.s (.m (.v 3) (.v 3)) (.v 0)) (.v 1)))) (.a (.v 2) (.m (.v 3) (.s (.v 0) (.v 1)))))) (y := (.a (.n (.v 2)) (.m (.n (.v 3)) (.s (.s (.s (.m (.v 3) (.v 3)) (.v 0)) (.v 1)) (.v 1))))) (by decide +kernel) [x1, x2, y2, l], lin1 (ring (x := (.s (.m (.n (.v 3)) (.a (.s (.m (.v 3) (.s (.v 0) (.s (.s (.m (.v 3) (.v 3)) (.v 0)) (.v 1)))) (.a (.v 2) (.m (.v 3) (.s (.v 0) (.v 1))))) (.n (.v 2)))) (.a (.a (.m (.s (.s (.m (.v 3) (.v 3)) (.v 0)) (.v 1)) (.s (.s (.m (.v 3) (.v 3)) (.v 0)) (.v 1))) (.m (.s (.s (.m (.v 3) (.v 3)) (.v 0)) (.v 1)) (.v 1))) (.m (.v 1) (.v 1))))) (y := (.m (.c 1) (.s (.m (.v 3) (.a (.a (.v 2) (.m (.v 3) (.s (.v 0) (.v 1)))) (.v 2))) (.a (.a (.m (.v 0) (.v 0)) (.m (.v 0) (.v 1))) (.m (.v 1) (.v 1)))))) (by decide +kernel) [x1, x2, y2, l]) (hb)⟩
theorem cx_back (l x1 x2 : K2 n) : cx (neg l) (cx l x1 x2) x2 = x1 := ring (x := (.s (.s (.m (.n (.v 0)) (.n (.v 0))) (.s (.s (.m (.v 0) (.v 0)) (.v 1)) (.v 2))) (.v 2))) (y := (.v 1)) (by decide +kernel) [l, x1, x2]
theorem cy_back {l x1 y1 x2 y2 : K2 n} (_ : Sl l x1 y1 x2 y2) : cy (neg l) (cx l x1 x2) (cy l x1 y1 x2) x2 = y1 := ring (x := (.s (.m (.n (.v 0)) (.s (.s (.s (.m (.v 0) (.v 0)) (.v 1)) (.v 3)) (.s (.s (.m (.n (.v 0)) (.n (.v 0))) (.s (.s (.m (.v 0) (.v 0)) (.v 1)) (.v 3))) (.v 3)))) (.s (.m (.v 0) (.s (.v 1) (.s (.s (.m (.v 0) (.v 0)) (.v 1)) (.v 3)))) (.v 2)))) (y := (.v 2)) (by decide +kernel) [l, x1, y1, x2]
abbrev No2 (b : K2 n) : Prop := ∀ x : K2 n, add (mul (mul x x) x) b ≠ zero
theorem y_ne {b x y : K2 n} (h2 : No2 b) (h : mul y y = add (mul (mul x x) x) b) : y ≠ zero := by
 rintro rfl
 rw [mul_zero2] at h
 exact h2 x h.symm
theorem pa_back (hp : P3 n) {b : K2 n} (h2 : No2 b) {p q : Pt n} (hP : Onc b p) (hQ : Onc b q) : pa (pa p q) (pn q) = p := by
 cases p with
 | none => exact pa_inv hp q
 | some p => cases q with
  | none => rfl
  | some q =>
   obtain ⟨x1, y1⟩ := p
   obtain ⟨x2, y2⟩ := q
   rcases sl_ex hp hP hQ with ⟨e1, e2⟩ | ⟨l, h, hn⟩
   ·rw [pa_deg hp e1 e2]
    show some (x2, neg y2) = some (x1, y1)
    rw [show x1 = x2 from e1, show y1 = neg y2 from add_zero_neg e2]
   ·rw [pa_sl hp h hn]
    show pa (some (cx l x1 x2, cy l x1 y1 x2)) (some (x2, neg y2)) = some (x1, y1)
    rw [pa_sl hp h.back, cx_back, cy_back h]
    by_cases hx : cx l x1 x2 = x2
    ·right
     intro e
     have ey : cy l x1 y1 x2 = y2 := sub_zero_eq (by rw [sub_eq]; exact e)
     have ea := h.back.a
     rw [hx, sub_self', mul_zero2, add_zero', ey] at ea
     refine dbl_ne hp (y_ne h2 hQ) ?_
     have : add y2 y2 = add y2 (neg y2) := by rw [← ea]
     rw [this, add_neg']
    ·exact .inl hx
theorem gen_x (hp : P3 n) {A B C D l m s t u v : K2 n} (hl : mul l A = B) (hm : mul m C = D) (hA : A ≠ zero) (hC : C ≠ zero)
  (e : (sub (mul (mul B B) (mul C C)) (mul (mul (mul A A) (mul C C)) (add s t))) = (sub (mul (mul D D) (mul A A)) (mul (mul (mul A A) (mul C C)) (add u v)))) : cx l s t = cx m u v := by
 subst hl
 subst hm
 refine mul_can hp (mul_ne hp (mul_ne hp hA hA) (mul_ne hp hC hC)) ?_
 rw [← ofZ_0]
 exact lin1 (ring (x := (.s (.m (.m (.m (.v 0) (.v 0)) (.m (.v 2) (.v 2))) (.s (.s (.s (.m (.v 4) (.v 4)) (.v 6)) (.v 7)) (.s (.s (.m (.v 5) (.v 5)) (.v 8)) (.v 9)))) (.c 0))) (y := (.m (.c 1) (.s (.s (.m (.m (.m (.v 4) (.v 0)) (.m (.v 4) (.v 0))) (.m (.v 2) (.v 2))) (.m (.m (.m (.v 0) (.v 0)) (.m (.v 2) (.v 2))) (.a (.v 6) (.v 7)))) (.s (.m (.m (.m (.v 5) (.v 2)) (.m (.v 5) (.v 2))) (.m (.v 0) (.v 0))) (.m (.m (.m (.v 0) (.v 0)) (.m (.v 2) (.v 2))) (.a (.v 8) (.v 9))))))) (by decide +kernel) [A, A, C, C, l, m, s, t, u, v]) (e)
theorem gen_y (hp : P3 n) {A B C D l m s t u v y w : K2 n} (hl : mul l A = B) (hm : mul m C = D) (hA : A ≠ zero) (hC : C ≠ zero) (hx : cx l s t = cx m u v)
  (e : (mul (sub (mul B C) (mul D A)) (sub (mul B B) (mul (mul A A) (add s t)))) = (sub (mul (mul A A) (sub (mul (mul B C) s) (mul (mul D A) u))) (mul (mul (mul (mul A A) A) C) (sub y w)))) : cy l s y t = cy m u w v := by
 subst hl
 subst hm
 refine mul_can hp (mul_ne hp (mul_ne hp (mul_ne hp hA hA) hA) hC) ?_
 rw [cy, cy, ← hx, ← ofZ_0]
 exact lin1 (ring (x := (.s (.m (.m (.m (.m (.v 0) (.v 0)) (.v 0)) (.v 2)) (.s (.s (.m (.v 4) (.s (.v 6) (.s (.s (.m (.v 4) (.v 4)) (.v 6)) (.v 7)))) (.v 9)) (.s (.m (.v 5) (.s (.v 8) (.s (.s (.m (.v 4) (.v 4)) (.v 6)) (.v 7)))) (.v 10)))) (.c 0))) (y := (.m (.c (-1)) (.s (.m (.s (.m (.m (.v 4) (.v 0)) (.v 2)) (.m (.m (.v 5) (.v 2)) (.v 0))) (.s (.m (.m (.v 4) (.v 0)) (.m (.v 4) (.v 0))) (.m (.m (.v 0) (.v 0)) (.a (.v 6) (.v 7))))) (.s (.m (.m (.v 0) (.v 0)) (.s (.m (.m (.m (.v 4) (.v 0)) (.v 2)) (.v 6)) (.m (.m (.m (.v 5) (.v 2)) (.v 0)) (.v 8)))) (.m (.m (.m (.m (.v 0) (.v 0)) (.v 0)) (.v 2)) (.s (.v 9) (.v 10))))))) (by decide +kernel) [A, A, C, C, l, m, s, t, u, y, w]) (e)
theorem id_x {x1 x2 x3 y2 l m : K2 n} (ha : (mul l (add (add y2 (mul l (sub x1 x2))) y2)) = (add (add (mul x1 x1) (mul x1 x2)) (mul x2 x2))) (hb : (mul m (add (add y2 (mul m (sub x3 x2))) y2)) = (add (add (mul x3 x3) (mul x3 x2)) (mul x2 x2))) : (sub (mul (mul (sub (sub (mul l (sub x1 (sub (sub (mul l l) x1) x2))) (add y2 (mul l (sub x1 x2)))) (add y2 (mul m (sub x3 x2)))) (sub (sub (mul l (sub x1 (sub (sub (mul l l) x1) x2))) (add y2 (mul l (sub x1 x2)))) (add y2 (mul m (sub x3 x2))))) (mul (sub (sub (sub (mul m m) x3) x2) x1) (sub (sub (sub (mul m m) x3) x2) x1))) (mul (mul (mul (sub (sub (sub (mul l l) x1) x2) x3) (sub (sub (sub (mul l l) x1) x2) x3)) (mul (sub (sub (sub (mul m m) x3) x2) x1) (sub (sub (sub (mul m m) x3) x2) x1))) (add (sub (sub (mul l l) x1) x2) x3))) = (sub (mul (mul (sub (sub (mul m (sub x3 (sub (sub (mul m m) x3) x2))) (add y2 (mul m (sub x3 x2)))) (add y2 (mul l (sub x1 x2)))) (sub (sub (mul m (sub x3 (sub (sub (mul m m) x3) x2))) (add y2 (mul m (sub x3 x2)))) (add y2 (mul l (sub x1 x2))))) (mul (sub (sub (sub (mul l l) x1) x2) x3) (sub (sub (sub (mul l l) x1) x2) x3))) (mul (mul (mul (sub (sub (sub (mul l l) x1) x2) x3) (sub (sub (sub (mul l l) x1) x2) x3)) (mul (sub (sub (sub (mul m m) x3) x2) x1) (sub (sub (sub (mul m m) x3) x2) x1))) (add x1 (sub (sub (mul m m) x3) x2)))) := lin2 (ring (x := (.s (.s (.m (.m (.s (.s (.m (.v 4) (.s (.v 0) (.s (.s (.m (.v 4) (.v 4)) (.v 0)) (.v 1)))) (.a (.v 3) (.m (.v 4) (.s (.v 0) (.v 1))))) (.a (.v 3) (.m (.v 5) (.s (.v 2) (.v 1))))) (.s (.s (.m (.v 4) (.s (.v 0) (.s (.s (.m (.v 4) (.v 4)) (.v 0)) (.v 1)))) (.a (.v 3) (.m (.v 4) (.s (.v 0) (.v 1))))) (.a (.v 3) (.m (.v 5) (.s (.v 2) (.v 1)))))) (.m (.s (.s (.s (.m (.v 5) (.v 5)) (.v 2)) (.v 1)) (.v 0)) (.s (.s (.s (.m (.v 5) (.v 5)) (.v 2)) (.v 1)) (.v 0)))) (.m (.m (.m (.s (.s (.s (.m (.v 4) (.v 4)) (.v 0)) (.v 1)) (.v 2)) (.s (.s (.s (.m (.v 4) (.v 4)) (.v 0)) (.v 1)) (.v 2))) (.m (.s (.s (.s (.m (.v 5) (.v 5)) (.v 2)) (.v 1)) (.v 0)) (.s (.s (.s (.m (.v 5) (.v 5)) (.v 2)) (.v 1)) (.v 0)))) (.a (.s (.s (.m (.v 4) (.v 4)) (.v 0)) (.v 1)) (.v 2)))) (.s (.m (.m (.s (.s (.m (.v 5) (.s (.v 2) (.s (.s (.m (.v 5) (.v 5)) (.v 2)) (.v 1)))) (.a (.v 3) (.m (.v 5) (.s (.v 2) (.v 1))))) (.a (.v 3) (.m (.v 4) (.s (.v 0) (.v 1))))) (.s (.s (.m (.v 5) (.s (.v 2) (.s (.s (.m (.v 5) (.v 5)) (.v 2)) (.v 1)))) (.a (.v 3) (.m (.v 5) (.s (.v 2) (.v 1))))) (.a (.v 3) (.m (.v 4) (.s (.v 0) (.v 1)))))) (.m (.s (.s (.s (.m (.v 4) (.v 4)) (.v 0)) (.v 1)) (.v 2)) (.s (.s (.s (.m (.v 4) (.v 4)) (.v 0)) (.v 1)) (.v 2)))) (.m (.m (.m (.s (.s (.s (.m (.v 4) (.v 4)) (.v 0)) (.v 1)) (.v 2)) (.s (.s (.s (.m (.v 4) (.v 4)) (.v 0)) (.v 1)) (.v 2))) (.m (.s (.s (.s (.m (.v 5) (.v 5)) (.v 2)) (.v 1)) (.v 0)) (.s (.s (.s (.m (.v 5) (.v 5)) (.v 2)) (.v 1)) (.v 0)))) (.a (.v 0) (.s (.s (.m (.v 5) (.v 5)) (.v 2)) (.v 1))))))) (y := (.a (.m (.a (.m (.a (.m (.a (.m (.a (.m (.a (.m (.c (-1)) (.v 2)) (.m (.c 1) (.v 1))) (.v 5)) (.a (.m (.a (.m (.m (.c (-2)) (.v 4)) (.v 4)) (.a (.m (.c 4) (.v 1)) (.m (.c 2) (.v 0)))) (.v 4)) (.m (.c (-2)) (.v 3)))) (.v 5)) (.a (.m (.a (.m (.a (.m (.c (-3)) (.v 2)) (.m (.c (-3)) (.v 0))) (.v 4)) (.m (.c (-2)) (.v 3))) (.v 4)) (.a (.m (.a (.m (.c 3) (.v 2)) (.a (.m (.c 3) (.v 1)) (.m (.c 6) (.v 0)))) (.v 2)) (.a (.m (.m (.c 3) (.v 0)) (.v 1)) (.m (.m (.c 3) (.v 0)) (.v 0)))))) (.v 5)) (.a (.m (.a (.m (.a (.m (.a (.m (.c 2) (.v 2)) (.m (.c 4) (.v 1))) (.v 4)) (.m (.c (-2)) (.v 3))) (.v 4)) (.a (.m (.m (.c (-6)) (.v 1)) (.v 2)) (.m (.a (.m (.c (-6)) (.v 1)) (.m (.c (-6)) (.v 0))) (.v 1)))) (.v 4)) (.m (.a (.m (.c 4) (.v 2)) (.a (.m (.c 4) (.v 1)) (.m (.c 4) (.v 0)))) (.v 3)))) (.v 5)) (.a (.m (.a (.m (.a (.m (.a (.m (.a (.m (.c 1) (.v 1)) (.m (.c (-1)) (.v 0))) (.v 4)) (.m (.c (-2)) (.v 3))) (.v 4)) (.a (.m (.a (.m (.c 3) (.v 2)) (.a (.m (.c 3) (.v 1)) (.m (.c 6) (.v 0)))) (.v 2)) (.a (.m (.m (.c 3) (.v 0)) (.v 1)) (.m (.m (.c 3) (.v 0)) (.v 0))))) (.v 4)) (.m (.a (.m (.c 4) (.v 2)) (.a (.m (.c 4) (.v 1)) (.m (.c 4) (.v 0)))) (.v 3))) (.v 4)) (.a (.m (.a (.m (.a (.m (.c (-2)) (.v 2)) (.a (.m (.c (-6)) (.v 1)) (.m (.c (-6)) (.v 0)))) (.v 2)) (.a (.m (.a (.m (.c (-6)) (.v 1)) (.m (.c (-12)) (.v 0))) (.v 1)) (.m (.m (.c (-6)) (.v 0)) (.v 0)))) (.v 2)) (.a (.m (.a (.m (.a (.m (.c (-2)) (.v 1)) (.m (.c (-6)) (.v 0))) (.v 1)) (.m (.m (.c (-6)) (.v 0)) (.v 0))) (.v 1)) (.m (.m (.m (.c (-2)) (.v 0)) (.v 0)) (.v 0)))))) (.s (.m (.v 4) (.a (.a (.v 3) (.m (.v 4) (.s (.v 0) (.v 1)))) (.v 3))) (.a (.a (.m (.v 0) (.v 0)) (.m (.v 0) (.v 1))) (.m (.v 1) (.v 1))))) (.m (.n (.a (.m (.a (.m (.a (.m (.a (.m (.a (.m (.c (-1)) (.v 2)) (.m (.c 1) (.v 1))) (.v 5)) (.a (.m (.a (.m (.m (.c (-2)) (.v 4)) (.v 4)) (.a (.m (.c 4) (.v 1)) (.m (.c 2) (.v 0)))) (.v 4)) (.m (.c (-2)) (.v 3)))) (.v 5)) (.a (.m (.a (.m (.a (.m (.c (-3)) (.v 2)) (.m (.c (-3)) (.v 0))) (.v 4)) (.m (.c (-2)) (.v 3))) (.v 4)) (.a (.m (.a (.m (.c 3) (.v 2)) (.a (.m (.c 3) (.v 1)) (.m (.c 6) (.v 0)))) (.v 2)) (.a (.m (.m (.c 3) (.v 0)) (.v 1)) (.m (.m (.c 3) (.v 0)) (.v 0)))))) (.v 5)) (.a (.m (.a (.m (.a (.m (.a (.m (.c 2) (.v 2)) (.m (.c 4) (.v 1))) (.v 4)) (.m (.c (-2)) (.v 3))) (.v 4)) (.a (.m (.m (.c (-6)) (.v 1)) (.v 2)) (.m (.a (.m (.c (-6)) (.v 1)) (.m (.c (-6)) (.v 0))) (.v 1)))) (.v 4)) (.m (.a (.m (.c 4) (.v 2)) (.a (.m (.c 4) (.v 1)) (.m (.c 4) (.v 0)))) (.v 3)))) (.v 5)) (.a (.m (.a (.m (.a (.m (.a (.m (.a (.m (.c 1) (.v 1)) (.m (.c (-1)) (.v 0))) (.v 4)) (.m (.c (-2)) (.v 3))) (.v 4)) (.a (.m (.a (.m (.c 3) (.v 2)) (.a (.m (.c 3) (.v 1)) (.m (.c 6) (.v 0)))) (.v 2)) (.a (.m (.m (.c 3) (.v 0)) (.v 1)) (.m (.m (.c 3) (.v 0)) (.v 0))))) (.v 4)) (.m (.a (.m (.c 4) (.v 2)) (.a (.m (.c 4) (.v 1)) (.m (.c 4) (.v 0)))) (.v 3))) (.v 4)) (.a (.m (.a (.m (.a (.m (.c (-2)) (.v 2)) (.a (.m (.c (-6)) (.v 1)) (.m (.c (-6)) (.v 0)))) (.v 2)) (.a (.m (.a (.m (.c (-6)) (.v 1)) (.m (.c (-12)) (.v 0))) (.v 1)) (.m (.m (.c (-6)) (.v 0)) (.v 0)))) (.v 2)) (.a (.m (.a (.m (.a (.m (.c (-2)) (.v 1)) (.m (.c (-6)) (.v 0))) (.v 1)) (.m (.m (.c (-6)) (.v 0)) (.v 0))) (.v 1)) (.m (.m (.m (.c (-2)) (.v 0)) (.v 0)) (.v 0))))))) (.s (.m (.v 5) (.a (.a (.v 3) (.m (.v 5) (.s (.v 2) (.v 1)))) (.v 3))) (.a (.a (.m (.v 2) (.v 2)) (.m (.v 2) (.v 1))) (.m (.v 1) (.v 1))))))) (by decide +kernel) [x1, x2, x3, y2, l, m]) (ha) (hb)
theorem id_y {x1 x2 x3 y2 l m : K2 n} (ha : (mul l (add (add y2 (mul l (sub x1 x2))) y2)) = (add (add (mul x1 x1) (mul x1 x2)) (mul x2 x2))) (hb : (mul m (add (add y2 (mul m (sub x3 x2))) y2)) = (add (add (mul x3 x3) (mul x3 x2)) (mul x2 x2))) : (mul (sub (mul (sub (sub (mul l (sub x1 (sub (sub (mul l l) x1) x2))) (add y2 (mul l (sub x1 x2)))) (add y2 (mul m (sub x3 x2)))) (sub (sub (sub (mul m m) x3) x2) x1)) (mul (sub (sub (mul m (sub x3 (sub (sub (mul m m) x3) x2))) (add y2 (mul m (sub x3 x2)))) (add y2 (mul l (sub x1 x2)))) (sub (sub (sub (mul l l) x1) x2) x3))) (sub (mul (sub (sub (mul l (sub x1 (sub (sub (mul l l) x1) x2))) (add y2 (mul l (sub x1 x2)))) (add y2 (mul m (sub x3 x2)))) (sub (sub (mul l (sub x1 (sub (sub (mul l l) x1) x2))) (add y2 (mul l (sub x1 x2)))) (add y2 (mul m (sub x3 x2))))) (mul (mul (sub (sub (sub (mul l l) x1) x2) x3) (sub (sub (sub (mul l l) x1) x2) x3)) (add (sub (sub (mul l l) x1) x2) x3)))) = (sub (mul (mul (sub (sub (sub (mul l l) x1) x2) x3) (sub (sub (sub (mul l l) x1) x2) x3)) (sub (mul (mul (sub (sub (mul l (sub x1 (sub (sub (mul l l) x1) x2))) (add y2 (mul l (sub x1 x2)))) (add y2 (mul m (sub x3 x2)))) (sub (sub (sub (mul m m) x3) x2) x1)) (sub (sub (mul l l) x1) x2)) (mul (mul (sub (sub (mul m (sub x3 (sub (sub (mul m m) x3) x2))) (add y2 (mul m (sub x3 x2)))) (add y2 (mul l (sub x1 x2)))) (sub (sub (sub (mul l l) x1) x2) x3)) x1))) (mul (mul (mul (mul (sub (sub (sub (mul l l) x1) x2) x3) (sub (sub (sub (mul l l) x1) x2) x3)) (sub (sub (sub (mul l l) x1) x2) x3)) (sub (sub (sub (mul m m) x3) x2) x1)) (sub (sub (mul l (sub x1 (sub (sub (mul l l) x1) x2))) (add y2 (mul l (sub x1 x2)))) (add y2 (mul l (sub x1 x2)))))) := lin2 (ring (x := (.s (.m (.s (.m (.s (.s (.m (.v 4) (.s (.v 0) (.s (.s (.m (.v 4) (.v 4)) (.v 0)) (.v 1)))) (.a (.v 3) (.m (.v 4) (.s (.v 0) (.v 1))))) (.a (.v 3) (.m (.v 5) (.s (.v 2) (.v 1))))) (.s (.s (.s (.m (.v 5) (.v 5)) (.v 2)) (.v 1)) (.v 0))) (.m (.s (.s (.m (.v 5) (.s (.v 2) (.s (.s (.m (.v 5) (.v 5)) (.v 2)) (.v 1)))) (.a (.v 3) (.m (.v 5) (.s (.v 2) (.v 1))))) (.a (.v 3) (.m (.v 4) (.s (.v 0) (.v 1))))) (.s (.s (.s (.m (.v 4) (.v 4)) (.v 0)) (.v 1)) (.v 2)))) (.s (.m (.s (.s (.m (.v 4) (.s (.v 0) (.s (.s (.m (.v 4) (.v 4)) (.v 0)) (.v 1)))) (.a (.v 3) (.m (.v 4) (.s (.v 0) (.v 1))))) (.a (.v 3) (.m (.v 5) (.s (.v 2) (.v 1))))) (.s (.s (.m (.v 4) (.s (.v 0) (.s (.s (.m (.v 4) (.v 4)) (.v 0)) (.v 1)))) (.a (.v 3) (.m (.v 4) (.s (.v 0) (.v 1))))) (.a (.v 3) (.m (.v 5) (.s (.v 2) (.v 1)))))) (.m (.m (.s (.s (.s (.m (.v 4) (.v 4)) (.v 0)) (.v 1)) (.v 2)) (.s (.s (.s (.m (.v 4) (.v 4)) (.v 0)) (.v 1)) (.v 2))) (.a (.s (.s (.m (.v 4) (.v 4)) (.v 0)) (.v 1)) (.v 2))))) (.s (.m (.m (.s (.s (.s (.m (.v 4) (.v 4)) (.v 0)) (.v 1)) (.v 2)) (.s (.s (.s (.m (.v 4) (.v 4)) (.v 0)) (.v 1)) (.v 2))) (.s (.m (.m (.s (.s (.m (.v 4) (.s (.v 0) (.s (.s (.m (.v 4) (.v 4)) (.v 0)) (.v 1)))) (.a (.v 3) (.m (.v 4) (.s (.v 0) (.v 1))))) (.a (.v 3) (.m (.v 5) (.s (.v 2) (.v 1))))) (.s (.s (.s (.m (.v 5) (.v 5)) (.v 2)) (.v 1)) (.v 0))) (.s (.s (.m (.v 4) (.v 4)) (.v 0)) (.v 1))) (.m (.m (.s (.s (.m (.v 5) (.s (.v 2) (.s (.s (.m (.v 5) (.v 5)) (.v 2)) (.v 1)))) (.a (.v 3) (.m (.v 5) (.s (.v 2) (.v 1))))) (.a (.v 3) (.m (.v 4) (.s (.v 0) (.v 1))))) (.s (.s (.s (.m (.v 4) (.v 4)) (.v 0)) (.v 1)) (.v 2))) (.v 0)))) (.m (.m (.m (.m (.s (.s (.s (.m (.v 4) (.v 4)) (.v 0)) (.v 1)) (.v 2)) (.s (.s (.s (.m (.v 4) (.v 4)) (.v 0)) (.v 1)) (.v 2))) (.s (.s (.s (.m (.v 4) (.v 4)) (.v 0)) (.v 1)) (.v 2))) (.s (.s (.s (.m (.v 5) (.v 5)) (.v 2)) (.v 1)) (.v 0))) (.s (.s (.m (.v 4) (.s (.v 0) (.s (.s (.m (.v 4) (.v 4)) (.v 0)) (.v 1)))) (.a (.v 3) (.m (.v 4) (.s (.v 0) (.v 1))))) (.a (.v 3) (.m (.v 4) (.s (.v 0) (.v 1))))))))) (y := (.a (.m (.a (.m (.a (.m (.a (.m (.a (.m (.m (.a (.m (.c (-1)) (.v 2)) (.m (.c 1) (.v 1))) (.v 4)) (.v 4)) (.a (.m (.a (.m (.c 2) (.v 2)) (.a (.m (.c (-2)) (.v 1)) (.m (.c 1) (.v 0)))) (.v 2)) (.m (.m (.c (-1)) (.v 0)) (.v 1)))) (.v 5)) (.a (.m (.a (.m (.a (.m (.a (.m (.m (.c (-2)) (.v 4)) (.v 4)) (.a (.m (.c 5) (.v 2)) (.a (.m (.c 3) (.v 1)) (.m (.c 4) (.v 0))))) (.v 4)) (.m (.c (-2)) (.v 3))) (.v 4)) (.a (.m (.a (.m (.c (-10)) (.v 1)) (.m (.c (-5)) (.v 0))) (.v 2)) (.a (.m (.a (.m (.c 2) (.v 1)) (.m (.c (-3)) (.v 0))) (.v 1)) (.m (.m (.c (-2)) (.v 0)) (.v 0))))) (.v 4)) (.m (.a (.m (.c 6) (.v 2)) (.a (.m (.c (-2)) (.v 1)) (.m (.c 2) (.v 0)))) (.v 3)))) (.v 5)) (.a (.m (.a (.m (.a (.m (.a (.m (.a (.m (.c 3) (.v 2)) (.m (.c (-3)) (.v 1))) (.v 4)) (.m (.c 4) (.v 3))) (.v 4)) (.a (.m (.a (.m (.c 2) (.v 2)) (.a (.m (.c (-6)) (.v 1)) (.m (.c (-1)) (.v 0)))) (.v 2)) (.m (.a (.m (.c 4) (.v 1)) (.m (.c 1) (.v 0))) (.v 1)))) (.v 4)) (.m (.a (.m (.c 4) (.v 2)) (.a (.m (.c (-12)) (.v 1)) (.m (.c (-4)) (.v 0)))) (.v 3))) (.v 4)) (.a (.m (.m (.c 4) (.v 3)) (.v 3)) (.a (.m (.a (.m (.a (.m (.c (-2)) (.v 2)) (.a (.m (.c (-2)) (.v 1)) (.m (.c (-4)) (.v 0)))) (.v 2)) (.a (.m (.m (.c 2) (.v 1)) (.v 1)) (.m (.m (.c (-2)) (.v 0)) (.v 0)))) (.v 2)) (.m (.a (.m (.a (.m (.c 2) (.v 1)) (.m (.c 4) (.v 0))) (.v 1)) (.m (.m (.c 2) (.v 0)) (.v 0))) (.v 1)))))) (.v 5)) (.a (.m (.a (.m (.a (.m (.a (.m (.a (.m (.a (.m (.c 3) (.v 2)) (.a (.m (.c 1) (.v 1)) (.m (.c 2) (.v 0)))) (.v 4)) (.m (.c 4) (.v 3))) (.v 4)) (.a (.m (.a (.m (.c (-2)) (.v 2)) (.a (.m (.c (-10)) (.v 1)) (.m (.c (-7)) (.v 0)))) (.v 2)) (.a (.m (.a (.m (.c (-4)) (.v 1)) (.m (.c (-9)) (.v 0))) (.v 1)) (.m (.m (.c (-4)) (.v 0)) (.v 0))))) (.v 4)) (.m (.a (.m (.c 2) (.v 2)) (.a (.m (.c (-6)) (.v 1)) (.m (.c (-2)) (.v 0)))) (.v 3))) (.v 4)) (.a (.m (.m (.c 4) (.v 3)) (.v 3)) (.a (.m (.a (.m (.a (.m (.c 4) (.v 1)) (.m (.c 2) (.v 0))) (.v 2)) (.a (.m (.a (.m (.c 8) (.v 1)) (.m (.c 12) (.v 0))) (.v 1)) (.m (.m (.c 4) (.v 0)) (.v 0)))) (.v 2)) (.a (.m (.a (.m (.a (.m (.c 4) (.v 1)) (.m (.c 10) (.v 0))) (.v 1)) (.m (.m (.c 8) (.v 0)) (.v 0))) (.v 1)) (.m (.m (.m (.c 2) (.v 0)) (.v 0)) (.v 0)))))) (.v 4)) (.m (.a (.m (.a (.m (.c (-2)) (.v 2)) (.a (.m (.c (-4)) (.v 1)) (.m (.c (-4)) (.v 0)))) (.v 2)) (.a (.m (.a (.m (.c (-2)) (.v 1)) (.m (.c (-4)) (.v 0))) (.v 1)) (.m (.m (.c (-2)) (.v 0)) (.v 0)))) (.v 3)))) (.s (.m (.v 4) (.a (.a (.v 3) (.m (.v 4) (.s (.v 0) (.v 1)))) (.v 3))) (.a (.a (.m (.v 0) (.v 0)) (.m (.v 0) (.v 1))) (.m (.v 1) (.v 1))))) (.m (.n (.a (.m (.a (.m (.a (.m (.a (.m (.m (.a (.m (.c (-1)) (.v 2)) (.m (.c 1) (.v 1))) (.v 4)) (.v 4)) (.a (.m (.a (.m (.c 2) (.v 2)) (.a (.m (.c (-2)) (.v 1)) (.m (.c 1) (.v 0)))) (.v 2)) (.m (.m (.c (-1)) (.v 0)) (.v 1)))) (.v 5)) (.a (.m (.a (.m (.a (.m (.a (.m (.m (.c (-2)) (.v 4)) (.v 4)) (.a (.m (.c 5) (.v 2)) (.a (.m (.c 3) (.v 1)) (.m (.c 4) (.v 0))))) (.v 4)) (.m (.c (-2)) (.v 3))) (.v 4)) (.a (.m (.a (.m (.c (-10)) (.v 1)) (.m (.c (-5)) (.v 0))) (.v 2)) (.a (.m (.a (.m (.c 2) (.v 1)) (.m (.c (-3)) (.v 0))) (.v 1)) (.m (.m (.c (-2)) (.v 0)) (.v 0))))) (.v 4)) (.m (.a (.m (.c 6) (.v 2)) (.a (.m (.c (-2)) (.v 1)) (.m (.c 2) (.v 0)))) (.v 3)))) (.v 5)) (.a (.m (.a (.m (.a (.m (.a (.m (.a (.m (.c 3) (.v 2)) (.m (.c (-3)) (.v 1))) (.v 4)) (.m (.c 4) (.v 3))) (.v 4)) (.a (.m (.a (.m (.c 2) (.v 2)) (.a (.m (.c (-6)) (.v 1)) (.m (.c (-1)) (.v 0)))) (.v 2)) (.m (.a (.m (.c 4) (.v 1)) (.m (.c 1) (.v 0))) (.v 1)))) (.v 4)) (.m (.a (.m (.c 4) (.v 2)) (.a (.m (.c (-12)) (.v 1)) (.m (.c (-4)) (.v 0)))) (.v 3))) (.v 4)) (.a (.m (.m (.c 4) (.v 3)) (.v 3)) (.a (.m (.a (.m (.a (.m (.c (-2)) (.v 2)) (.a (.m (.c (-2)) (.v 1)) (.m (.c (-4)) (.v 0)))) (.v 2)) (.a (.m (.m (.c 2) (.v 1)) (.v 1)) (.m (.m (.c (-2)) (.v 0)) (.v 0)))) (.v 2)) (.m (.a (.m (.a (.m (.c 2) (.v 1)) (.m (.c 4) (.v 0))) (.v 1)) (.m (.m (.c 2) (.v 0)) (.v 0))) (.v 1)))))) (.v 5)) (.a (.m (.a (.m (.a (.m (.a (.m (.a (.m (.a (.m (.c 3) (.v 2)) (.a (.m (.c 1) (.v 1)) (.m (.c 2) (.v 0)))) (.v 4)) (.m (.c 4) (.v 3))) (.v 4)) (.a (.m (.a (.m (.c (-2)) (.v 2)) (.a (.m (.c (-10)) (.v 1)) (.m (.c (-7)) (.v 0)))) (.v 2)) (.a (.m (.a (.m (.c (-4)) (.v 1)) (.m (.c (-9)) (.v 0))) (.v 1)) (.m (.m (.c (-4)) (.v 0)) (.v 0))))) (.v 4)) (.m (.a (.m (.c 2) (.v 2)) (.a (.m (.c (-6)) (.v 1)) (.m (.c (-2)) (.v 0)))) (.v 3))) (.v 4)) (.a (.m (.m (.c 4) (.v 3)) (.v 3)) (.a (.m (.a (.m (.a (.m (.c 4) (.v 1)) (.m (.c 2) (.v 0))) (.v 2)) (.a (.m (.a (.m (.c 8) (.v 1)) (.m (.c 12) (.v 0))) (.v 1)) (.m (.m (.c 4) (.v 0)) (.v 0)))) (.v 2)) (.a (.m (.a (.m (.a (.m (.c 4) (.v 1)) (.m (.c 10) (.v 0))) (.v 1)) (.m (.m (.c 8) (.v 0)) (.v 0))) (.v 1)) (.m (.m (.m (.c 2) (.v 0)) (.v 0)) (.v 0)))))) (.v 4)) (.m (.a (.m (.a (.m (.c (-2)) (.v 2)) (.a (.m (.c (-4)) (.v 1)) (.m (.c (-4)) (.v 0)))) (.v 2)) (.a (.m (.a (.m (.c (-2)) (.v 1)) (.m (.c (-4)) (.v 0))) (.v 1)) (.m (.m (.c (-2)) (.v 0)) (.v 0)))) (.v 3))))) (.s (.m (.v 5) (.a (.a (.v 3) (.m (.v 5) (.s (.v 2) (.v 1)))) (.v 3))) (.a (.a (.m (.v 2) (.v 2)) (.m (.v 2) (.v 1))) (.m (.v 1) (.v 1))))))) (by decide +kernel) [x1, x2, x3, y2, l, m]) (ha) (hb)
theorem tn_x {x1 x2 e l : K2 n} (ha : (mul l (add (add (mul e (sub (sub (sub (mul l l) x1) x2) x2)) (mul l (sub x1 x2))) (mul e (sub (sub (sub (mul l l) x1) x2) x2)))) = (add (add (mul x1 x1) (mul x1 x2)) (mul x2 x2))) : (sub (mul (mul (add (add (mul (sub (sub (mul l l) x1) x2) (sub (sub (mul l l) x1) x2)) (mul (sub (sub (mul l l) x1) x2) (sub (sub (mul l l) x1) x2))) (mul (sub (sub (mul l l) x1) x2) (sub (sub (mul l l) x1) x2))) (add (add (mul (sub (sub (mul l l) x1) x2) (sub (sub (mul l l) x1) x2)) (mul (sub (sub (mul l l) x1) x2) (sub (sub (mul l l) x1) x2))) (mul (sub (sub (mul l l) x1) x2) (sub (sub (mul l l) x1) x2)))) (mul (sub (sub (sub (mul (neg (add (add e e) l)) (neg (add (add e e) l))) x2) (sub (sub (mul l l) x1) x2)) x1) (sub (sub (sub (mul (neg (add (add e e) l)) (neg (add (add e e) l))) x2) (sub (sub (mul l l) x1) x2)) x1))) (mul (mul (mul (add (sub (mul l (sub x1 (sub (sub (mul l l) x1) x2))) (add (mul e (sub (sub (sub (mul l l) x1) x2) x2)) (mul l (sub x1 x2)))) (sub (mul l (sub x1 (sub (sub (mul l l) x1) x2))) (add (mul e (sub (sub (sub (mul l l) x1) x2) x2)) (mul l (sub x1 x2))))) (add (sub (mul l (sub x1 (sub (sub (mul l l) x1) x2))) (add (mul e (sub (sub (sub (mul l l) x1) x2) x2)) (mul l (sub x1 x2)))) (sub (mul l (sub x1 (sub (sub (mul l l) x1) x2))) (add (mul e (sub (sub (sub (mul l l) x1) x2) x2)) (mul l (sub x1 x2)))))) (mul (sub (sub (sub (mul (neg (add (add e e) l)) (neg (add (add e e) l))) x2) (sub (sub (mul l l) x1) x2)) x1) (sub (sub (sub (mul (neg (add (add e e) l)) (neg (add (add e e) l))) x2) (sub (sub (mul l l) x1) x2)) x1))) (add (sub (sub (mul l l) x1) x2) (sub (sub (mul l l) x1) x2)))) = (sub (mul (mul (sub (sub (mul (neg (add (add e e) l)) (sub x2 (sub (sub (mul (neg (add (add e e) l)) (neg (add (add e e) l))) x2) (sub (sub (mul l l) x1) x2)))) (mul e (sub (sub (sub (mul l l) x1) x2) x2))) (add (mul e (sub (sub (sub (mul l l) x1) x2) x2)) (mul l (sub x1 x2)))) (sub (sub (mul (neg (add (add e e) l)) (sub x2 (sub (sub (mul (neg (add (add e e) l)) (neg (add (add e e) l))) x2) (sub (sub (mul l l) x1) x2)))) (mul e (sub (sub (sub (mul l l) x1) x2) x2))) (add (mul e (sub (sub (sub (mul l l) x1) x2) x2)) (mul l (sub x1 x2))))) (mul (add (sub (mul l (sub x1 (sub (sub (mul l l) x1) x2))) (add (mul e (sub (sub (sub (mul l l) x1) x2) x2)) (mul l (sub x1 x2)))) (sub (mul l (sub x1 (sub (sub (mul l l) x1) x2))) (add (mul e (sub (sub (sub (mul l l) x1) x2) x2)) (mul l (sub x1 x2))))) (add (sub (mul l (sub x1 (sub (sub (mul l l) x1) x2))) (add (mul e (sub (sub (sub (mul l l) x1) x2) x2)) (mul l (sub x1 x2)))) (sub (mul l (sub x1 (sub (sub (mul l l) x1) x2))) (add (mul e (sub (sub (sub (mul l l) x1) x2) x2)) (mul l (sub x1 x2))))))) (mul (mul (mul (add (sub (mul l (sub x1 (sub (sub (mul l l) x1) x2))) (add (mul e (sub (sub (sub (mul l l) x1) x2) x2)) (mul l (sub x1 x2)))) (sub (mul l (sub x1 (sub (sub (mul l l) x1) x2))) (add (mul e (sub (sub (sub (mul l l) x1) x2) x2)) (mul l (sub x1 x2))))) (add (sub (mul l (sub x1 (sub (sub (mul l l) x1) x2))) (add (mul e (sub (sub (sub (mul l l) x1) x2) x2)) (mul l (sub x1 x2)))) (sub (mul l (sub x1 (sub (sub (mul l l) x1) x2))) (add (mul e (sub (sub (sub (mul l l) x1) x2) x2)) (mul l (sub x1 x2)))))) (mul (sub (sub (sub (mul (neg (add (add e e) l)) (neg (add (add e e) l))) x2) (sub (sub (mul l l) x1) x2)) x1) (sub (sub (sub (mul (neg (add (add e e) l)) (neg (add (add e e) l))) x2) (sub (sub (mul l l) x1) x2)) x1))) (add x1 (sub (sub (mul (neg (add (add e e) l)) (neg (add (add e e) l))) x2) (sub (sub (mul l l) x1) x2))))) := lin1 (ring (x := (.s (.s (.m (.m (.a (.a (.m (.s (.s (.m (.v 3) (.v 3)) (.v 0)) (.v 1)) (.s (.s (.m (.v 3) (.v 3)) (.v 0)) (.v 1))) (.m (.s (.s (.m (.v 3) (.v 3)) (.v 0)) (.v 1)) (.s (.s (.m (.v 3) (.v 3)) (.v 0)) (.v 1)))) (.m (.s (.s (.m (.v 3) (.v 3)) (.v 0)) (.v 1)) (.s (.s (.m (.v 3) (.v 3)) (.v 0)) (.v 1)))) (.a (.a (.m (.s (.s (.m (.v 3) (.v 3)) (.v 0)) (.v 1)) (.s (.s (.m (.v 3) (.v 3)) (.v 0)) (.v 1))) (.m (.s (.s (.m (.v 3) (.v 3)) (.v 0)) (.v 1)) (.s (.s (.m (.v 3) (.v 3)) (.v 0)) (.v 1)))) (.m (.s (.s (.m (.v 3) (.v 3)) (.v 0)) (.v 1)) (.s (.s (.m (.v 3) (.v 3)) (.v 0)) (.v 1))))) (.m (.s (.s (.s (.m (.n (.a (.a (.v 2) (.v 2)) (.v 3))) (.n (.a (.a (.v 2) (.v 2)) (.v 3)))) (.v 1)) (.s (.s (.m (.v 3) (.v 3)) (.v 0)) (.v 1))) (.v 0)) (.s (.s (.s (.m (.n (.a (.a (.v 2) (.v 2)) (.v 3))) (.n (.a (.a (.v 2) (.v 2)) (.v 3)))) (.v 1)) (.s (.s (.m (.v 3) (.v 3)) (.v 0)) (.v 1))) (.v 0)))) (.m (.m (.m (.a (.s (.m (.v 3) (.s (.v 0) (.s (.s (.m (.v 3) (.v 3)) (.v 0)) (.v 1)))) (.a (.m (.v 2) (.s (.s (.s (.m (.v 3) (.v 3)) (.v 0)) (.v 1)) (.v 1))) (.m (.v 3) (.s (.v 0) (.v 1))))) (.s (.m (.v 3) (.s (.v 0) (.s (.s (.m (.v 3) (.v 3)) (.v 0)) (.v 1)))) (.a (.m (.v 2) (.s (.s (.s (.m (.v 3) (.v 3)) (.v 0)) (.v 1)) (.v 1))) (.m (.v 3) (.s (.v 0) (.v 1)))))) (.a (.s (.m (.v 3) (.s (.v 0) (.s (.s (.m (.v 3) (.v 3)) (.v 0)) (.v 1)))) (.a (.m (.v 2) (.s (.s (.s (.m (.v 3) (.v 3)) (.v 0)) (.v 1)) (.v 1))) (.m (.v 3) (.s (.v 0) (.v 1))))) (.s (.m (.v 3) (.s (.v 0) (.s (.s (.m (.v 3) (.v 3)) (.v 0)) (.v 1)))) (.a (.m (.v 2) (.s (.s (.s (.m (.v 3) (.v 3)) (.v 0)) (.v 1)) (.v 1))) (.m (.v 3) (.s (.v 0) (.v 1))))))) (.m (.s (.s (.s (.m (.n (.a (.a (.v 2) (.v 2)) (.v 3))) (.n (.a (.a (.v 2) (.v 2)) (.v 3)))) (.v 1)) (.s (.s (.m (.v 3) (.v 3)) (.v 0)) (.v 1))) (.v 0)) (.s (.s (.s (.m (.n (.a (.a (.v 2) (.v 2)) (.v 3))) (.n (.a (.a (.v 2) (.v 2)) (.v 3)))) (.v 1)) (.s (.s (.m (.v 3) (.v 3)) (.v 0)) (.v 1))) (.v 0)))) (.a (.s (.s (.m (.v 3) (.v 3)) (.v 0)) (.v 1)) (.s (.s (.m (.v 3) (.v 3)) (.v 0)) (.v 1))))) (.s (.m (.m (.s (.s (.m (.n (.a (.a (.v 2) (.v 2)) (.v 3))) (.s (.v 1) (.s (.s (.m (.n (.a (.a (.v 2) (.v 2)) (.v 3))) (.n (.a (.a (.v 2) (.v 2)) (.v 3)))) (.v 1)) (.s (.s (.m (.v 3) (.v 3)) (.v 0)) (.v 1))))) (.m (.v 2) (.s (.s (.s (.m (.v 3) (.v 3)) (.v 0)) (.v 1)) (.v 1)))) (.a (.m (.v 2) (.s (.s (.s (.m (.v 3) (.v 3)) (.v 0)) (.v 1)) (.v 1))) (.m (.v 3) (.s (.v 0) (.v 1))))) (.s (.s (.m (.n (.a (.a (.v 2) (.v 2)) (.v 3))) (.s (.v 1) (.s (.s (.m (.n (.a (.a (.v 2) (.v 2)) (.v 3))) (.n (.a (.a (.v 2) (.v 2)) (.v 3)))) (.v 1)) (.s (.s (.m (.v 3) (.v 3)) (.v 0)) (.v 1))))) (.m (.v 2) (.s (.s (.s (.m (.v 3) (.v 3)) (.v 0)) (.v 1)) (.v 1)))) (.a (.m (.v 2) (.s (.s (.s (.m (.v 3) (.v 3)) (.v 0)) (.v 1)) (.v 1))) (.m (.v 3) (.s (.v 0) (.v 1)))))) (.m (.a (.s (.m (.v 3) (.s (.v 0) (.s (.s (.m (.v 3) (.v 3)) (.v 0)) (.v 1)))) (.a (.m (.v 2) (.s (.s (.s (.m (.v 3) (.v 3)) (.v 0)) (.v 1)) (.v 1))) (.m (.v 3) (.s (.v 0) (.v 1))))) (.s (.m (.v 3) (.s (.v 0) (.s (.s (.m (.v 3) (.v 3)) (.v 0)) (.v 1)))) (.a (.m (.v 2) (.s (.s (.s (.m (.v 3) (.v 3)) (.v 0)) (.v 1)) (.v 1))) (.m (.v 3) (.s (.v 0) (.v 1)))))) (.a (.s (.m (.v 3) (.s (.v 0) (.s (.s (.m (.v 3) (.v 3)) (.v 0)) (.v 1)))) (.a (.m (.v 2) (.s (.s (.s (.m (.v 3) (.v 3)) (.v 0)) (.v 1)) (.v 1))) (.m (.v 3) (.s (.v 0) (.v 1))))) (.s (.m (.v 3) (.s (.v 0) (.s (.s (.m (.v 3) (.v 3)) (.v 0)) (.v 1)))) (.a (.m (.v 2) (.s (.s (.s (.m (.v 3) (.v 3)) (.v 0)) (.v 1)) (.v 1))) (.m (.v 3) (.s (.v 0) (.v 1)))))))) (.m (.m (.m (.a (.s (.m (.v 3) (.s (.v 0) (.s (.s (.m (.v 3) (.v 3)) (.v 0)) (.v 1)))) (.a (.m (.v 2) (.s (.s (.s (.m (.v 3) (.v 3)) (.v 0)) (.v 1)) (.v 1))) (.m (.v 3) (.s (.v 0) (.v 1))))) (.s (.m (.v 3) (.s (.v 0) (.s (.s (.m (.v 3) (.v 3)) (.v 0)) (.v 1)))) (.a (.m (.v 2) (.s (.s (.s (.m (.v 3) (.v 3)) (.v 0)) (.v 1)) (.v 1))) (.m (.v 3) (.s (.v 0) (.v 1)))))) (.a (.s (.m (.v 3) (.s (.v 0) (.s (.s (.m (.v 3) (.v 3)) (.v 0)) (.v 1)))) (.a (.m (.v 2) (.s (.s (.s (.m (.v 3) (.v 3)) (.v 0)) (.v 1)) (.v 1))) (.m (.v 3) (.s (.v 0) (.v 1))))) (.s (.m (.v 3) (.s (.v 0) (.s (.s (.m (.v 3) (.v 3)) (.v 0)) (.v 1)))) (.a (.m (.v 2) (.s (.s (.s (.m (.v 3) (.v 3)) (.v 0)) (.v 1)) (.v 1))) (.m (.v 3) (.s (.v 0) (.v 1))))))) (.m (.s (.s (.s (.m (.n (.a (.a (.v 2) (.v 2)) (.v 3))) (.n (.a (.a (.v 2) (.v 2)) (.v 3)))) (.v 1)) (.s (.s (.m (.v 3) (.v 3)) (.v 0)) (.v 1))) (.v 0)) (.s (.s (.s (.m (.n (.a (.a (.v 2) (.v 2)) (.v 3))) (.n (.a (.a (.v 2) (.v 2)) (.v 3)))) (.v 1)) (.s (.s (.m (.v 3) (.v 3)) (.v 0)) (.v 1))) (.v 0)))) (.a (.v 0) (.s (.s (.m (.n (.a (.a (.v 2) (.v 2)) (.v 3))) (.n (.a (.a (.v 2) (.v 2)) (.v 3)))) (.v 1)) (.s (.s (.m (.v 3) (.v 3)) (.v 0)) (.v 1)))))))) (y := (.m (.a (.m (.a (.m (.a (.m (.a (.m (.a (.m (.a (.m (.m (.m (.c (-96)) (.v 2)) (.v 2)) (.v 3)) (.m (.m (.m (.c (-224)) (.v 2)) (.v 2)) (.v 2))) (.v 3)) (.m (.m (.a (.m (.m (.c (-160)) (.v 2)) (.v 2)) (.a (.m (.c 208) (.v 1)) (.m (.c 176) (.v 0)))) (.v 2)) (.v 2))) (.v 3)) (.m (.m (.m (.a (.m (.m (.c (-32)) (.v 2)) (.v 2)) (.a (.m (.c 480) (.v 1)) (.m (.c 384) (.v 0)))) (.v 2)) (.v 2)) (.v 2))) (.v 3)) (.m (.m (.a (.m (.m (.a (.m (.c 336) (.v 1)) (.m (.c 240) (.v 0))) (.v 2)) (.v 2)) (.a (.m (.a (.m (.c (-80)) (.v 1)) (.m (.c (-176)) (.v 0))) (.v 1)) (.m (.m (.c (-80)) (.v 0)) (.v 0)))) (.v 2)) (.v 2))) (.v 3)) (.m (.m (.m (.a (.m (.m (.a (.m (.c 64) (.v 1)) (.m (.c 32) (.v 0))) (.v 2)) (.v 2)) (.a (.m (.a (.m (.c (-160)) (.v 1)) (.m (.c (-352)) (.v 0))) (.v 1)) (.m (.m (.c (-160)) (.v 0)) (.v 0)))) (.v 2)) (.v 2)) (.v 2))) (.v 3)) (.m (.m (.m (.m (.a (.m (.a (.m (.c (-80)) (.v 1)) (.m (.c (-176)) (.v 0))) (.v 1)) (.m (.m (.c (-80)) (.v 0)) (.v 0))) (.v 2)) (.v 2)) (.v 2)) (.v 2))) (.s (.m (.v 3) (.a (.a (.m (.v 2) (.s (.s (.s (.m (.v 3) (.v 3)) (.v 0)) (.v 1)) (.v 1))) (.m (.v 3) (.s (.v 0) (.v 1)))) (.m (.v 2) (.s (.s (.s (.m (.v 3) (.v 3)) (.v 0)) (.v 1)) (.v 1))))) (.a (.a (.m (.v 0) (.v 0)) (.m (.v 0) (.v 1))) (.m (.v 1) (.v 1)))))) (by decide +kernel) [x1, x2, e, l]) (ha)
theorem tn_y {x1 x2 e l : K2 n} (ha : (mul l (add (add (mul e (sub (sub (sub (mul l l) x1) x2) x2)) (mul l (sub x1 x2))) (mul e (sub (sub (sub (mul l l) x1) x2) x2)))) = (add (add (mul x1 x1) (mul x1 x2)) (mul x2 x2))) : (mul (sub (mul (add (add (mul (sub (sub (mul l l) x1) x2) (sub (sub (mul l l) x1) x2)) (mul (sub (sub (mul l l) x1) x2) (sub (sub (mul l l) x1) x2))) (mul (sub (sub (mul l l) x1) x2) (sub (sub (mul l l) x1) x2))) (sub (sub (sub (mul (neg (add (add e e) l)) (neg (add (add e e) l))) x2) (sub (sub (mul l l) x1) x2)) x1)) (mul (sub (sub (mul (neg (add (add e e) l)) (sub x2 (sub (sub (mul (neg (add (add e e) l)) (neg (add (add e e) l))) x2) (sub (sub (mul l l) x1) x2)))) (mul e (sub (sub (sub (mul l l) x1) x2) x2))) (add (mul e (sub (sub (sub (mul l l) x1) x2) x2)) (mul l (sub x1 x2)))) (add (sub (mul l (sub x1 (sub (sub (mul l l) x1) x2))) (add (mul e (sub (sub (sub (mul l l) x1) x2) x2)) (mul l (sub x1 x2)))) (sub (mul l (sub x1 (sub (sub (mul l l) x1) x2))) (add (mul e (sub (sub (sub (mul l l) x1) x2) x2)) (mul l (sub x1 x2))))))) (sub (mul (add (add (mul (sub (sub (mul l l) x1) x2) (sub (sub (mul l l) x1) x2)) (mul (sub (sub (mul l l) x1) x2) (sub (sub (mul l l) x1) x2))) (mul (sub (sub (mul l l) x1) x2) (sub (sub (mul l l) x1) x2))) (add (add (mul (sub (sub (mul l l) x1) x2) (sub (sub (mul l l) x1) x2)) (mul (sub (sub (mul l l) x1) x2) (sub (sub (mul l l) x1) x2))) (mul (sub (sub (mul l l) x1) x2) (sub (sub (mul l l) x1) x2)))) (mul (mul (add (sub (mul l (sub x1 (sub (sub (mul l l) x1) x2))) (add (mul e (sub (sub (sub (mul l l) x1) x2) x2)) (mul l (sub x1 x2)))) (sub (mul l (sub x1 (sub (sub (mul l l) x1) x2))) (add (mul e (sub (sub (sub (mul l l) x1) x2) x2)) (mul l (sub x1 x2))))) (add (sub (mul l (sub x1 (sub (sub (mul l l) x1) x2))) (add (mul e (sub (sub (sub (mul l l) x1) x2) x2)) (mul l (sub x1 x2)))) (sub (mul l (sub x1 (sub (sub (mul l l) x1) x2))) (add (mul e (sub (sub (sub (mul l l) x1) x2) x2)) (mul l (sub x1 x2)))))) (add (sub (sub (mul l l) x1) x2) (sub (sub (mul l l) x1) x2))))) = (sub (mul (mul (add (sub (mul l (sub x1 (sub (sub (mul l l) x1) x2))) (add (mul e (sub (sub (sub (mul l l) x1) x2) x2)) (mul l (sub x1 x2)))) (sub (mul l (sub x1 (sub (sub (mul l l) x1) x2))) (add (mul e (sub (sub (sub (mul l l) x1) x2) x2)) (mul l (sub x1 x2))))) (add (sub (mul l (sub x1 (sub (sub (mul l l) x1) x2))) (add (mul e (sub (sub (sub (mul l l) x1) x2) x2)) (mul l (sub x1 x2)))) (sub (mul l (sub x1 (sub (sub (mul l l) x1) x2))) (add (mul e (sub (sub (sub (mul l l) x1) x2) x2)) (mul l (sub x1 x2)))))) (sub (mul (mul (add (add (mul (sub (sub (mul l l) x1) x2) (sub (sub (mul l l) x1) x2)) (mul (sub (sub (mul l l) x1) x2) (sub (sub (mul l l) x1) x2))) (mul (sub (sub (mul l l) x1) x2) (sub (sub (mul l l) x1) x2))) (sub (sub (sub (mul (neg (add (add e e) l)) (neg (add (add e e) l))) x2) (sub (sub (mul l l) x1) x2)) x1)) (sub (sub (mul l l) x1) x2)) (mul (mul (sub (sub (mul (neg (add (add e e) l)) (sub x2 (sub (sub (mul (neg (add (add e e) l)) (neg (add (add e e) l))) x2) (sub (sub (mul l l) x1) x2)))) (mul e (sub (sub (sub (mul l l) x1) x2) x2))) (add (mul e (sub (sub (sub (mul l l) x1) x2) x2)) (mul l (sub x1 x2)))) (add (sub (mul l (sub x1 (sub (sub (mul l l) x1) x2))) (add (mul e (sub (sub (sub (mul l l) x1) x2) x2)) (mul l (sub x1 x2)))) (sub (mul l (sub x1 (sub (sub (mul l l) x1) x2))) (add (mul e (sub (sub (sub (mul l l) x1) x2) x2)) (mul l (sub x1 x2)))))) x1))) (mul (mul (mul (mul (add (sub (mul l (sub x1 (sub (sub (mul l l) x1) x2))) (add (mul e (sub (sub (sub (mul l l) x1) x2) x2)) (mul l (sub x1 x2)))) (sub (mul l (sub x1 (sub (sub (mul l l) x1) x2))) (add (mul e (sub (sub (sub (mul l l) x1) x2) x2)) (mul l (sub x1 x2))))) (add (sub (mul l (sub x1 (sub (sub (mul l l) x1) x2))) (add (mul e (sub (sub (sub (mul l l) x1) x2) x2)) (mul l (sub x1 x2)))) (sub (mul l (sub x1 (sub (sub (mul l l) x1) x2))) (add (mul e (sub (sub (sub (mul l l) x1) x2) x2)) (mul l (sub x1 x2)))))) (add (sub (mul l (sub x1 (sub (sub (mul l l) x1) x2))) (add (mul e (sub (sub (sub (mul l l) x1) x2) x2)) (mul l (sub x1 x2)))) (sub (mul l (sub x1 (sub (sub (mul l l) x1) x2))) (add (mul e (sub (sub (sub (mul l l) x1) x2) x2)) (mul l (sub x1 x2)))))) (sub (sub (sub (mul (neg (add (add e e) l)) (neg (add (add e e) l))) x2) (sub (sub (mul l l) x1) x2)) x1)) (sub (sub (mul l (sub x1 (sub (sub (mul l l) x1) x2))) (add (mul e (sub (sub (sub (mul l l) x1) x2) x2)) (mul l (sub x1 x2)))) (add (mul e (sub (sub (sub (mul l l) x1) x2) x2)) (mul l (sub x1 x2)))))) := lin1 (ring (x := (.s (.m (.s (.m (.a (.a (.m (.s (.s (.m (.v 3) (.v 3)) (.v 0)) (.v 1)) (.s (.s (.m (.v 3) (.v 3)) (.v 0)) (.v 1))) (.m (.s (.s (.m (.v 3) (.v 3)) (.v 0)) (.v 1)) (.s (.s (.m (.v 3) (.v 3)) (.v 0)) (.v 1)))) (.m (.s (.s (.m (.v 3) (.v 3)) (.v 0)) (.v 1)) (.s (.s (.m (.v 3) (.v 3)) (.v 0)) (.v 1)))) (.s (.s (.s (.m (.n (.a (.a (.v 2) (.v 2)) (.v 3))) (.n (.a (.a (.v 2) (.v 2)) (.v 3)))) (.v 1)) (.s (.s (.m (.v 3) (.v 3)) (.v 0)) (.v 1))) (.v 0))) (.m (.s (.s (.m (.n (.a (.a (.v 2) (.v 2)) (.v 3))) (.s (.v 1) (.s (.s (.m (.n (.a (.a (.v 2) (.v 2)) (.v 3))) (.n (.a (.a (.v 2) (.v 2)) (.v 3)))) (.v 1)) (.s (.s (.m (.v 3) (.v 3)) (.v 0)) (.v 1))))) (.m (.v 2) (.s (.s (.s (.m (.v 3) (.v 3)) (.v 0)) (.v 1)) (.v 1)))) (.a (.m (.v 2) (.s (.s (.s (.m (.v 3) (.v 3)) (.v 0)) (.v 1)) (.v 1))) (.m (.v 3) (.s (.v 0) (.v 1))))) (.a (.s (.m (.v 3) (.s (.v 0) (.s (.s (.m (.v 3) (.v 3)) (.v 0)) (.v 1)))) (.a (.m (.v 2) (.s (.s (.s (.m (.v 3) (.v 3)) (.v 0)) (.v 1)) (.v 1))) (.m (.v 3) (.s (.v 0) (.v 1))))) (.s (.m (.v 3) (.s (.v 0) (.s (.s (.m (.v 3) (.v 3)) (.v 0)) (.v 1)))) (.a (.m (.v 2) (.s (.s (.s (.m (.v 3) (.v 3)) (.v 0)) (.v 1)) (.v 1))) (.m (.v 3) (.s (.v 0) (.v 1)))))))) (.s (.m (.a (.a (.m (.s (.s (.m (.v 3) (.v 3)) (.v 0)) (.v 1)) (.s (.s (.m (.v 3) (.v 3)) (.v 0)) (.v 1))) (.m (.s (.s (.m (.v 3) (.v 3)) (.v 0)) (.v 1)) (.s (.s (.m (.v 3) (.v 3)) (.v 0)) (.v 1)))) (.m (.s (.s (.m (.v 3) (.v 3)) (.v 0)) (.v 1)) (.s (.s (.m (.v 3) (.v 3)) (.v 0)) (.v 1)))) (.a (.a (.m (.s (.s (.m (.v 3) (.v 3)) (.v 0)) (.v 1)) (.s (.s (.m (.v 3) (.v 3)) (.v 0)) (.v 1))) (.m (.s (.s (.m (.v 3) (.v 3)) (.v 0)) (.v 1)) (.s (.s (.m (.v 3) (.v 3)) (.v 0)) (.v 1)))) (.m (.s (.s (.m (.v 3) (.v 3)) (.v 0)) (.v 1)) (.s (.s (.m (.v 3) (.v 3)) (.v 0)) (.v 1))))) (.m (.m (.a (.s (.m (.v 3) (.s (.v 0) (.s (.s (.m (.v 3) (.v 3)) (.v 0)) (.v 1)))) (.a (.m (.v 2) (.s (.s (.s (.m (.v 3) (.v 3)) (.v 0)) (.v 1)) (.v 1))) (.m (.v 3) (.s (.v 0) (.v 1))))) (.s (.m (.v 3) (.s (.v 0) (.s (.s (.m (.v 3) (.v 3)) (.v 0)) (.v 1)))) (.a (.m (.v 2) (.s (.s (.s (.m (.v 3) (.v 3)) (.v 0)) (.v 1)) (.v 1))) (.m (.v 3) (.s (.v 0) (.v 1)))))) (.a (.s (.m (.v 3) (.s (.v 0) (.s (.s (.m (.v 3) (.v 3)) (.v 0)) (.v 1)))) (.a (.m (.v 2) (.s (.s (.s (.m (.v 3) (.v 3)) (.v 0)) (.v 1)) (.v 1))) (.m (.v 3) (.s (.v 0) (.v 1))))) (.s (.m (.v 3) (.s (.v 0) (.s (.s (.m (.v 3) (.v 3)) (.v 0)) (.v 1)))) (.a (.m (.v 2) (.s (.s (.s (.m (.v 3) (.v 3)) (.v 0)) (.v 1)) (.v 1))) (.m (.v 3) (.s (.v 0) (.v 1))))))) (.a (.s (.s (.m (.v 3) (.v 3)) (.v 0)) (.v 1)) (.s (.s (.m (.v 3) (.v 3)) (.v 0)) (.v 1)))))) (.s (.m (.m (.a (.s (.m (.v 3) (.s (.v 0) (.s (.s (.m (.v 3) (.v 3)) (.v 0)) (.v 1)))) (.a (.m (.v 2) (.s (.s (.s (.m (.v 3) (.v 3)) (.v 0)) (.v 1)) (.v 1))) (.m (.v 3) (.s (.v 0) (.v 1))))) (.s (.m (.v 3) (.s (.v 0) (.s (.s (.m (.v 3) (.v 3)) (.v 0)) (.v 1)))) (.a (.m (.v 2) (.s (.s (.s (.m (.v 3) (.v 3)) (.v 0)) (.v 1)) (.v 1))) (.m (.v 3) (.s (.v 0) (.v 1)))))) (.a (.s (.m (.v 3) (.s (.v 0) (.s (.s (.m (.v 3) (.v 3)) (.v 0)) (.v 1)))) (.a (.m (.v 2) (.s (.s (.s (.m (.v 3) (.v 3)) (.v 0)) (.v 1)) (.v 1))) (.m (.v 3) (.s (.v 0) (.v 1))))) (.s (.m (.v 3) (.s (.v 0) (.s (.s (.m (.v 3) (.v 3)) (.v 0)) (.v 1)))) (.a (.m (.v 2) (.s (.s (.s (.m (.v 3) (.v 3)) (.v 0)) (.v 1)) (.v 1))) (.m (.v 3) (.s (.v 0) (.v 1))))))) (.s (.m (.m (.a (.a (.m (.s (.s (.m (.v 3) (.v 3)) (.v 0)) (.v 1)) (.s (.s (.m (.v 3) (.v 3)) (.v 0)) (.v 1))) (.m (.s (.s (.m (.v 3) (.v 3)) (.v 0)) (.v 1)) (.s (.s (.m (.v 3) (.v 3)) (.v 0)) (.v 1)))) (.m (.s (.s (.m (.v 3) (.v 3)) (.v 0)) (.v 1)) (.s (.s (.m (.v 3) (.v 3)) (.v 0)) (.v 1)))) (.s (.s (.s (.m (.n (.a (.a (.v 2) (.v 2)) (.v 3))) (.n (.a (.a (.v 2) (.v 2)) (.v 3)))) (.v 1)) (.s (.s (.m (.v 3) (.v 3)) (.v 0)) (.v 1))) (.v 0))) (.s (.s (.m (.v 3) (.v 3)) (.v 0)) (.v 1))) (.m (.m (.s (.s (.m (.n (.a (.a (.v 2) (.v 2)) (.v 3))) (.s (.v 1) (.s (.s (.m (.n (.a (.a (.v 2) (.v 2)) (.v 3))) (.n (.a (.a (.v 2) (.v 2)) (.v 3)))) (.v 1)) (.s (.s (.m (.v 3) (.v 3)) (.v 0)) (.v 1))))) (.m (.v 2) (.s (.s (.s (.m (.v 3) (.v 3)) (.v 0)) (.v 1)) (.v 1)))) (.a (.m (.v 2) (.s (.s (.s (.m (.v 3) (.v 3)) (.v 0)) (.v 1)) (.v 1))) (.m (.v 3) (.s (.v 0) (.v 1))))) (.a (.s (.m (.v 3) (.s (.v 0) (.s (.s (.m (.v 3) (.v 3)) (.v 0)) (.v 1)))) (.a (.m (.v 2) (.s (.s (.s (.m (.v 3) (.v 3)) (.v 0)) (.v 1)) (.v 1))) (.m (.v 3) (.s (.v 0) (.v 1))))) (.s (.m (.v 3) (.s (.v 0) (.s (.s (.m (.v 3) (.v 3)) (.v 0)) (.v 1)))) (.a (.m (.v 2) (.s (.s (.s (.m (.v 3) (.v 3)) (.v 0)) (.v 1)) (.v 1))) (.m (.v 3) (.s (.v 0) (.v 1))))))) (.v 0)))) (.m (.m (.m (.m (.a (.s (.m (.v 3) (.s (.v 0) (.s (.s (.m (.v 3) (.v 3)) (.v 0)) (.v 1)))) (.a (.m (.v 2) (.s (.s (.s (.m (.v 3) (.v 3)) (.v 0)) (.v 1)) (.v 1))) (.m (.v 3) (.s (.v 0) (.v 1))))) (.s (.m (.v 3) (.s (.v 0) (.s (.s (.m (.v 3) (.v 3)) (.v 0)) (.v 1)))) (.a (.m (.v 2) (.s (.s (.s (.m (.v 3) (.v 3)) (.v 0)) (.v 1)) (.v 1))) (.m (.v 3) (.s (.v 0) (.v 1)))))) (.a (.s (.m (.v 3) (.s (.v 0) (.s (.s (.m (.v 3) (.v 3)) (.v 0)) (.v 1)))) (.a (.m (.v 2) (.s (.s (.s (.m (.v 3) (.v 3)) (.v 0)) (.v 1)) (.v 1))) (.m (.v 3) (.s (.v 0) (.v 1))))) (.s (.m (.v 3) (.s (.v 0) (.s (.s (.m (.v 3) (.v 3)) (.v 0)) (.v 1)))) (.a (.m (.v 2) (.s (.s (.s (.m (.v 3) (.v 3)) (.v 0)) (.v 1)) (.v 1))) (.m (.v 3) (.s (.v 0) (.v 1))))))) (.a (.s (.m (.v 3) (.s (.v 0) (.s (.s (.m (.v 3) (.v 3)) (.v 0)) (.v 1)))) (.a (.m (.v 2) (.s (.s (.s (.m (.v 3) (.v 3)) (.v 0)) (.v 1)) (.v 1))) (.m (.v 3) (.s (.v 0) (.v 1))))) (.s (.m (.v 3) (.s (.v 0) (.s (.s (.m (.v 3) (.v 3)) (.v 0)) (.v 1)))) (.a (.m (.v 2) (.s (.s (.s (.m (.v 3) (.v 3)) (.v 0)) (.v 1)) (.v 1))) (.m (.v 3) (.s (.v 0) (.v 1))))))) (.s (.s (.s (.m (.n (.a (.a (.v 2) (.v 2)) (.v 3))) (.n (.a (.a (.v 2) (.v 2)) (.v 3)))) (.v 1)) (.s (.s (.m (.v 3) (.v 3)) (.v 0)) (.v 1))) (.v 0))) (.s (.s (.m (.v 3) (.s (.v 0) (.s (.s (.m (.v 3) (.v 3)) (.v 0)) (.v 1)))) (.a (.m (.v 2) (.s (.s (.s (.m (.v 3) (.v 3)) (.v 0)) (.v 1)) (.v 1))) (.m (.v 3) (.s (.v 0) (.v 1))))) (.a (.m (.v 2) (.s (.s (.s (.m (.v 3) (.v 3)) (.v 0)) (.v 1)) (.v 1))) (.m (.v 3) (.s (.v 0) (.v 1))))))))) (y := (.m (.a (.m (.a (.m (.a (.m (.a (.m (.a (.m (.a (.m (.a (.m (.a (.m (.a (.m (.m (.c (-84)) (.v 2)) (.v 3)) (.m (.m (.c (-212)) (.v 2)) (.v 2))) (.v 3)) (.m (.a (.m (.m (.c (-240)) (.v 2)) (.v 2)) (.a (.m (.c 304) (.v 1)) (.m (.c 272) (.v 0)))) (.v 2))) (.v 3)) (.m (.m (.a (.m (.m (.c (-144)) (.v 2)) (.v 2)) (.a (.m (.c 752) (.v 1)) (.m (.c 592) (.v 0)))) (.v 2)) (.v 2))) (.v 3)) (.m (.a (.m (.m (.a (.m (.m (.c (-32)) (.v 2)) (.v 2)) (.a (.m (.c 864) (.v 1)) (.m (.c 576) (.v 0)))) (.v 2)) (.v 2)) (.a (.m (.a (.m (.c (-328)) (.v 1)) (.m (.c (-688)) (.v 0))) (.v 1)) (.m (.m (.c (-328)) (.v 0)) (.v 0)))) (.v 2))) (.v 3)) (.m (.m (.a (.m (.m (.a (.m (.c 544) (.v 1)) (.m (.c 320) (.v 0))) (.v 2)) (.v 2)) (.a (.m (.a (.m (.c (-680)) (.v 1)) (.m (.c (-1328)) (.v 0))) (.v 1)) (.m (.m (.c (-584)) (.v 0)) (.v 0)))) (.v 2)) (.v 2))) (.v 3)) (.m (.a (.m (.m (.a (.m (.m (.a (.m (.c 128) (.v 1)) (.m (.c 64) (.v 0))) (.v 2)) (.v 2)) (.a (.m (.a (.m (.c (-720)) (.v 1)) (.m (.c (-1152)) (.v 0))) (.v 1)) (.m (.m (.c (-432)) (.v 0)) (.v 0)))) (.v 2)) (.v 2)) (.a (.m (.a (.m (.a (.m (.c 112) (.v 1)) (.m (.c 480) (.v 0))) (.v 1)) (.m (.m (.c 528) (.v 0)) (.v 0))) (.v 1)) (.m (.m (.m (.c 176) (.v 0)) (.v 0)) (.v 0)))) (.v 2))) (.v 3)) (.m (.m (.a (.m (.m (.a (.m (.a (.m (.c (-496)) (.v 1)) (.m (.c (-640)) (.v 0))) (.v 1)) (.m (.m (.c (-208)) (.v 0)) (.v 0))) (.v 2)) (.v 2)) (.a (.m (.a (.m (.a (.m (.c 48) (.v 1)) (.m (.c 576) (.v 0))) (.v 1)) (.m (.m (.c 720) (.v 0)) (.v 0))) (.v 1)) (.m (.m (.m (.c 240) (.v 0)) (.v 0)) (.v 0)))) (.v 2)) (.v 2))) (.v 3)) (.m (.a (.m (.m (.a (.m (.m (.a (.m (.a (.m (.c (-128)) (.v 1)) (.m (.c (-128)) (.v 0))) (.v 1)) (.m (.m (.c (-32)) (.v 0)) (.v 0))) (.v 2)) (.v 2)) (.a (.m (.a (.m (.a (.m (.c (-96)) (.v 1)) (.m (.c 144) (.v 0))) (.v 1)) (.m (.m (.c 288) (.v 0)) (.v 0))) (.v 1)) (.m (.m (.m (.c 96) (.v 0)) (.v 0)) (.v 0)))) (.v 2)) (.v 2)) (.a (.m (.a (.m (.a (.m (.a (.m (.c (-36)) (.v 1)) (.m (.c (-144)) (.v 0))) (.v 1)) (.m (.m (.c (-216)) (.v 0)) (.v 0))) (.v 1)) (.m (.m (.m (.c (-144)) (.v 0)) (.v 0)) (.v 0))) (.v 1)) (.m (.m (.m (.m (.c (-36)) (.v 0)) (.v 0)) (.v 0)) (.v 0)))) (.v 2))) (.v 3)) (.m (.m (.a (.m (.m (.a (.m (.a (.m (.a (.m (.c (-32)) (.v 1)) (.m (.c 48) (.v 0))) (.v 1)) (.m (.m (.c 96) (.v 0)) (.v 0))) (.v 1)) (.m (.m (.m (.c 32) (.v 0)) (.v 0)) (.v 0))) (.v 2)) (.v 2)) (.a (.m (.a (.m (.a (.m (.a (.m (.c (-36)) (.v 1)) (.m (.c (-144)) (.v 0))) (.v 1)) (.m (.m (.c (-216)) (.v 0)) (.v 0))) (.v 1)) (.m (.m (.m (.c (-144)) (.v 0)) (.v 0)) (.v 0))) (.v 1)) (.m (.m (.m (.m (.c (-36)) (.v 0)) (.v 0)) (.v 0)) (.v 0)))) (.v 2)) (.v 2))) (.s (.m (.v 3) (.a (.a (.m (.v 2) (.s (.s (.s (.m (.v 3) (.v 3)) (.v 0)) (.v 1)) (.v 1))) (.m (.v 3) (.s (.v 0) (.v 1)))) (.m (.v 2) (.s (.s (.s (.m (.v 3) (.v 3)) (.v 0)) (.v 1)) (.v 1))))) (.a (.a (.m (.v 0) (.v 0)) (.m (.v 0) (.v 1))) (.m (.v 1) (.v 1)))))) (by decide +kernel) [x1, x2, e, l]) (ha)
theorem half_m {h l m : K2 n} (hh : add h h = ofZ 1) : m = neg (add (add (neg (mul h (add l m))) (neg (mul h (add l m)))) l) := lin1 (ring (x := (.s (.v 2) (.n (.a (.a (.n (.m (.v 0) (.a (.v 1) (.v 2)))) (.n (.m (.v 0) (.a (.v 1) (.v 2))))) (.v 1))))) (y := (.m (.n (.a (.v 1) (.v 2))) (.s (.a (.v 0) (.v 0)) (.c 1)))) (by decide +kernel) [h, l, m]) (hh)
theorem half_y {h l m x1 x2 y2 : K2 n} (hh : add h h = ofZ 1) (h3 : y2 = add (cy l x1 (add y2 (mul l (sub x1 x2))) x2) (mul m (sub x2 (cx l x1 x2)))) : y2 = mul (neg (mul h (add l m))) (sub (cx l x1 x2) x2) := lin2 (ring (x := (.s (.v 5) (.m (.n (.m (.v 0) (.a (.v 1) (.v 2)))) (.s (.s (.s (.m (.v 1) (.v 1)) (.v 3)) (.v 4)) (.v 4))))) (y := (.a (.m (.n (.v 5)) (.s (.a (.v 0) (.v 0)) (.c 1))) (.m (.v 0) (.s (.v 5) (.a (.s (.m (.v 1) (.s (.v 3) (.s (.s (.m (.v 1) (.v 1)) (.v 3)) (.v 4)))) (.a (.v 5) (.m (.v 1) (.s (.v 3) (.v 4))))) (.m (.v 2) (.s (.v 4) (.s (.s (.m (.v 1) (.v 1)) (.v 3)) (.v 4))))))))) (by decide +kernel) [h, l, m, x1, x2, y2]) (hh) (h3)
theorem Sl.diff {l x1 y1 x2 y2 : K2 n} (h : Sl l x1 y1 x2 y2) : mul l (sub x1 x2) = sub y1 y2 := lin1 (ring (x := (.s (.m (.v 4) (.s (.v 0) (.v 2))) (.s (.v 1) (.v 3)))) (y := (.m (.c (-1)) (.s (.v 1) (.a (.v 3) (.m (.v 4) (.s (.v 0) (.v 2))))))) (by decide +kernel) [x1, y1, x2, y2, l]) (h.a)
theorem Sl.diff' {l x1 y1 x2 y2 : K2 n} (h : Sl l x1 y1 x2 y2) : mul l (sub x2 x1) = sub y2 y1 := h.symm.diff
theorem half_ex (hp : P3 n) : ∃ h : K2 n, add h h = ofZ 1 := by
 have h2 := dbl_ne hp (one_ne2 hp)
 refine ⟨inv (add one one), ?_⟩
 have := inv_mul2 hp h2
 rw [mul_add', mul_one'] at this
 rw [ofZ_1]; exact this
theorem pa_tang (hp : P3 n) {b : K2 n} (h2 : No2 b) {x1 y1 x2 y2 l m : K2 n} (hP : mul y1 y1 = add (mul (mul x1 x1) x1) b) (hl : Sl l x1 y1 x2 y2)
  (hm : Sl m x2 y2 (cx l x1 x2) (cy l x1 y1 x2)) (hx : x1 ≠ cx m x2 (cx l x1 x2)) :
  pa (some (cx l x1 x2, cy l x1 y1 x2)) (some (cx l x1 x2, cy l x1 y1 x2)) = pa (some (x1, y1)) (some (cx m x2 (cx l x1 x2), cy m x2 y2 (cx l x1 x2))) := by
 have hS := on_sl hl hP
 have hT := on_sl hm.symm hS
 rw [cy_comm hm.symm, cx_comm m (cx l x1 x2) x2] at hT
 have hs0 := dbl_ne hp (y_ne h2 hS)
 obtain ⟨k, hk, hkn⟩ := (sl_ex hp hS hS).resolve_left fun h => hs0 h.2
 obtain ⟨j, hj, hjn⟩ := (sl_ex hp hP hT).resolve_left fun h => hx h.1
 rw [pa_sl hp hk hkn, pa_sl hp hj hjn]
 have hC : sub (cx m x2 (cx l x1 x2)) x1 ≠ zero := fun e => hx (sub_zero_eq e).symm
 have hkb := hk.b
 have hjd := hj.diff'
 clear hk hkn hj hjn hT hS h2 hP
 obtain ⟨h, hh⟩ := half_ex hp
 obtain ⟨rfl, hla⟩ := hl
 have e1 := half_y hh hm.a
 have e2 := half_m (l := l) (m := m) hh
 clear hm
 generalize neg (mul h (add l m)) = e at e1 e2
 subst e2
 generalize h1 : mul e (sub (cx l x1 x2) x2) = y at e1
 subst e1
 subst h1
 have ex := gen_x hp hkb hjd hs0 hC (tn_x hla)
 have ey := gen_y hp hkb hjd hs0 hC ex (tn_y hla)
 exact some_pair ex ey
theorem pa_gen (hp : P3 n) {b : K2 n} {x1 y1 x2 y2 x3 y3 l m : K2 n} (hP : mul y1 y1 = add (mul (mul x1 x1) x1) b) (hR : mul y3 y3 = add (mul (mul x3 x3) x3) b) (hl : Sl l x1 y1 x2 y2) (hm : Sl m x3 y3 x2 y2)
  (hA : cx l x1 x2 ≠ x3) (hx : x1 ≠ cx m x3 x2) :
  pa (some (cx l x1 x2, cy l x1 y1 x2)) (some (x3, y3)) = pa (some (x1, y1)) (some (cx m x3 x2, cy m x3 y3 x2)) := by
 have hS := on_sl hl hP
 have hT := on_sl hm hR
 obtain ⟨k, hk, hkn⟩ := (sl_ex hp hS hR).resolve_left fun h => hA h.1
 obtain ⟨j, hj, hjn⟩ := (sl_ex hp hP hT).resolve_left fun h => hx h.1
 rw [pa_sl hp hk hkn, pa_sl hp hj hjn]
 have hA' : sub (cx l x1 x2) x3 ≠ zero := fun e => hA (sub_zero_eq e)
 have hC : sub (cx m x3 x2) x1 ≠ zero := fun e => hx (sub_zero_eq e).symm
 have hkd := hk.diff
 have hjd := hj.diff'
 clear hk hkn hj hjn hT hS hP hR
 obtain ⟨rfl, hla⟩ := hl
 obtain ⟨rfl, hma⟩ := hm
 have ex := gen_x hp hkd hjd hA' hC (id_x hla hma)
 have ey := gen_y hp hkd hjd hA' hC ex (id_y hla hma)
 exact some_pair ex ey
theorem pa_back' (hp : P3 n) {b : K2 n} (h2 : No2 b) {p q : Pt n} (hP : Onc b p) (hQ : Onc b q) : pa (pn q) (pa q p) = p := by
 rw [pa_comm hp hQ hP, pa_comm hp (Onc_pn hQ) (Onc_pa hp hP hQ), pa_back hp h2 hP hQ]
theorem pa_assoc (hp : P3 n) {b : K2 n} (h2 : No2 b) {p q r : Pt n} (hP : Onc b p) (hQ : Onc b q) (hR : Onc b r) : pa (pa p q) r = pa p (pa q r) := by
 cases p with
 | none => rfl
 | some p => cases q with
  | none => rfl
  | some q => cases r with
   | none => rw [pa_none_right, pa_none_right]
   | some r =>
    have hPQ := Onc_pa hp hP hQ
    have hQR := Onc_pa hp hQ hR
    by_cases c1 : some p = pn (some q)
    ·rw [c1, pa_inv' hp, pa_back' hp h2 hR hQ]; rfl
    by_cases c2 : some r = pn (some q)
    ·rw [c2, pa_inv hp, pa_back hp h2 hP hQ, pa_none_right]
    by_cases c3 : some r = pn (pa (some p) (some q))
    ·have e1 := pa_pn hp hP hQ
     have e2 := pa_back' hp h2 (Onc_pn hP) (Onc_pn hQ)
     rw [pn_pn, pa_comm hp (Onc_pn hQ) (Onc_pn hP), e1] at e2
     rw [c3, pa_inv hp, e2, pa_inv hp]
    by_cases c4 : some p = pn (pa (some q) (some r))
    ·have e1 := pa_pn hp hQ hR
     have e2 := pa_back hp h2 (Onc_pn hR) (Onc_pn hQ)
     rw [pn_pn, pa_comm hp (Onc_pn hR) (Onc_pn hQ), e1] at e2
     rw [c4, pa_inv' hp, e2, pa_inv' hp]
    obtain ⟨x1, y1⟩ := p
    obtain ⟨x2, y2⟩ := q
    obtain ⟨x3, y3⟩ := r
    have deg : ∀ {a c d e : K2 n}, a = d → add c e = zero → (some (a, c) : Pt n) = pn (some (d, e)) := fun h1 h3 => by
     rw [h1, add_zero_neg h3]; rfl
    obtain ⟨l, hl, hln⟩ := (sl_ex hp (onc_some hP) (onc_some hQ)).resolve_left fun h => c1 (deg h.1 h.2)
    obtain ⟨m, hm, hmn⟩ := (sl_ex hp (onc_some hR) (onc_some hQ)).resolve_left fun h => c2 (deg h.1 h.2)
    have eS := pa_sl hp hl hln
    have eT := pa_sl hp hm hmn
    rw [pa_comm hp hR hQ] at eT
    rw [eS] at c3 hPQ ⊢
    rw [eT] at c4 hQR ⊢
    have hS := (sl_ex hp (onc_some hPQ) (onc_some hR)).resolve_left fun h => c3 (deg h.1.symm (by rw [add_comm']; exact h.2))
    have hT := (sl_ex hp (onc_some hP) (onc_some hQR)).resolve_left fun h => c4 (deg h.1 h.2)
    by_cases hA : cx l x1 x2 = x3
    ·obtain ⟨k, hk, _⟩ := hS
     have ey : y3 = cy l x1 y1 x2 := by
      have := hk.a
      rw [hA, sub_self', mul_zero2, add_zero'] at this
      exact this.symm
     by_cases hx : x1 = cx m x3 x2
     ·exfalso
      obtain ⟨j, hj, _⟩ := hT
      have ez : y1 = cy m x3 y3 x2 := by
       have := hj.a
       rwa [← hx, sub_self', mul_zero2, add_zero'] at this
      have f1 : pa (some (x1, y1)) (some (x2, y2)) = some (x3, y3) := by rw [eS, hA, ey]
      have f2 : pa (some (x2, y2)) (some (x3, y3)) = some (x1, y1) := by rw [eT, ← hx, ← ez]
      have g1 := pa_back hp h2 hP hQ
      rw [f1] at g1
      have g2 := pa_back hp h2 hQ hR
      rw [f2, ← g1, pa_comm hp hR (Onc_pn hQ), pa_back hp h2 (Onc_pn hQ) hR] at g2
      have g3 := congrArg (fun o : Pt n => (o.getD (zero, zero)).2) g2
      have g4 : neg y2 = y2 := g3
      refine dbl_ne hp (y_ne h2 hQ) ?_
      have : add y2 y2 = add (neg y2) y2 := by rw [g4]
      rw [this, add_comm', add_neg']
     ·have hm' := hm.symm
      rw [cx_comm m x3 x2, cy_comm hm] at eT ⊢
      rw [cx_comm m x3 x2] at hx
      subst ey
      subst hA
      exact pa_tang hp h2 hP hl hm' hx
    ·by_cases hx : x1 = cx m x3 x2
     ·obtain ⟨j, hj, _⟩ := hT
      have ez : y1 = cy m x3 y3 x2 := by
       have := hj.a
       rwa [← hx, sub_self', mul_zero2, add_zero'] at this
      rw [pa_comm hp hPQ hR]
      rw [cx_comm l x1 x2, cy_comm hl]
      rw [cx_comm l x1 x2] at hA
      subst ez
      subst hx
      exact (pa_tang hp h2 hR hm hl.symm (fun e => hA e.symm)).symm
     ·exact pa_gen hp hP hR hl hm hA hx
end K2
end Go.Proofs.YtbpmbdlgmmabcaaGreat.L.Kf
