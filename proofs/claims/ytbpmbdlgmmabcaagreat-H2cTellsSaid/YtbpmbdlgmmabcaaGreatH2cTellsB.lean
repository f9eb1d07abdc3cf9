/- What the proof of the statement about H2cTells stands on, part B. Conditions: as each statement says. -/
import Derived.Test.YtbpmbdlgmmabcaaGreatH2cTellsA
import Derived.KernelRfl
import Derived.Laws.Externs
import Derived.Laws.Strings
import Derived.Scope
import Derived.Test.YtbpmbdlgmmabcaaGreatProg
namespace Go.Proofs.YtbpmbdlgmmabcaaGreat.L
open Go
abbrev En := List (Nat × Kd)
def bitA (anc : List Nat) (j i : Nat) : Bool := Nat.testBit (anc.getD j 0) i
def ordOK (os : List Oper) (anc : List Nat) (x y : Nat × Kd) : Bool :=
  (match os[x.1]?, os[y.1]? with
   | some o, some p => !clash os.toArray o p || bitA anc y.1 x.1
   | _, _ => false) && (!memClash x.2 y.2 || bitA anc y.1 x.1) && !Nat.beq x.1 y.1
def allPairs {α : Type} (R : α → α → Bool) : List α → Bool
 | [] => true
 | x :: r => r.all (R x) && allPairs R r
theorem allPairs_spec {α : Type} {R : α → α → Bool} : ∀ {l : List α}, allPairs R l = true → ∀ {i j : Nat} {x y : α}, i < j → l[i]? = some x → l[j]? = some y → R x y = true
 | [], _, i, j, x, y, _, hx, _ => by simp at hx
 | z :: r, h, i, j, x, y, hij, hx, hy => by
  simp only [allPairs, Bool.and_eq_true] at h
  cases j with
  | zero => omega
  | succ j =>
   have hy' : r[j]? = some y := by simpa using hy
   cases i with
   | zero =>
    simp at hx; subst hx
    exact List.all_eq_true.1 h.1 y (List.mem_of_getElem? hy')
   | succ i => exact allPairs_spec h.2 (i := i) (j := j) (by omega) (by simpa using hx) hy'
def chkP (os : List Oper) (E : En) : Bool := ancOK os 0 (mkAnc os []) && allPairs (ordOK os (mkAnc os [])) E
def descP (os : List Oper) (i : Nat) (rest : List Nat) (E : En) : Bool :=
 rest.all (fun j => bitA (mkAnc os []) j i) && (List.range os.length).all (fun j => Nat.beq j i || rest.any (Nat.beq j) || E.any (fun e => Nat.beq e.1 j))
def fullP (os : List Oper) (E : En) : Bool := (List.range os.length).all (fun j => E.any (fun e => Nat.beq e.1 j))
def newP (i : Nat) (E : En) : Bool := !E.any (fun e => Nat.beq e.1 i)
section
variable (P : Program) (c : Cx) (n : Nat)
def OpN (W : List Res) (Φ : Option (Nat × Value) → List Res → Prop) (lr : Sl) (o : Oper) : Prop :=
 ∀ w0 m, SatW c W w0 → Go ⟨w0, fps W⟩ n (lr ++ m) W (wpList P #[] (fun e a w => e = .normal ∧ ∃ u W', Φ u W' ∧ SatA n (u.toList ++ (lr ++ m)) a ∧ SatW ⟨w0, fps W⟩ W' w) [o])
end
inductive QF (P : Program) (c : Cx) (n : Nat) (os : List Oper) (K : Act → World → Prop) : En → List Res → Sl → List Nat → Prop
 | fin {E : En} {W : List Res} {l : Sl} (hc : chkP os E = true) (hf : fullP os E = true) (hk : Go c n l W K) : QF P c n os K E W l []
 | val {E : En} {W : List Res} {l : Sl} {i d : Nat} {o : Oper} {v : Value} {rest : List Nat} (kd : Kd) (hk : kd.isEff = false) (hi : newP i E = true) (ho : os[i]? = some o) (hd : o.dst = some d) (hn : Nat.blt d n = true)
   (hg : gSays os.toArray l o = some true) (h : OpV P c n (pinW kd W) (pinW kd W) (restr os.toArray o l) (noG o) (some (d, v)))
   (hr : QF P c n os K (E ++ [(i, kd)]) W ((d, v) :: l) rest) : QF P c n os K E W l (i :: rest)
 | no {E : En} {W : List Res} {l : Sl} {i d : Nat} {o : Oper} {rest : List Nat} (hi : newP i E = true) (ho : os[i]? = some o) (hd : o.dst = some d) (hn : Nat.blt d n = true)
   (hg : gSays os.toArray l o = some false) (hr : QF P c n os K (E ++ [(i, .free)]) W ((d, undef) :: l) rest) : QF P c n os K E W l (i :: rest)
 | nd {E : En} {W : List Res} {l : Sl} {i : Nat} {o : Oper} {rest : List Nat} {Φ : Option (Nat × Value) → List Res → Prop} (hi : newP i E = true) (ho : os[i]? = some o)
   (hc : chkP os (E ++ [(i, .eff)]) = true) (hdesc : descP os i rest E = true) (hΦ : ∀ u W', Φ u W' → o.dst = u.map (·.1) ∧ ∀ d, o.dst = some d → Nat.blt d n = true)
   (hg : gSays os.toArray l o = some true) (h : OpN P c n W Φ (restr os.toArray o l) (noG o))
   (hr : ∀ u W', Φ u W' → QF P c n os K (E ++ [(i, .eff)]) W' (u.toList ++ l) rest) : QF P c n os K E W l (i :: rest)
theorem cur_append : ∀ (us vs : Pu) (D : Nat → Bool) (i : Nat) (l : Sl), cur (us ++ vs) D i l = cur vs D (i + us.length) (cur us D i l)
 | [], vs, D, i, l => by simp [cur]
 | u :: r, vs, D, i, l => by
  simp only [List.cons_append, cur, List.length_cons]
  rw [cur_append r vs D (i + 1)]
  congr 1; omega
theorem cur_congr : ∀ (us : Pu) (D D' : Nat → Bool) (i : Nat) (l : Sl), (∀ j, j < us.length → D (i + j) = D' (i + j)) → cur us D i l = cur us D' i l
 | [], D, D', i, l, _ => rfl
 | u :: r, D, D', i, l, h => by
  simp only [cur]
  have h0 := h 0 (by simp)
  simp only [Nat.add_zero] at h0
  rw [h0, cur_congr r D D' (i + 1) _ (fun j hj => by have := h (j + 1) (by simpa using hj); rw [show i + 1 + j = i + (j + 1) by omega]; exact this)]
def dn (L : Array Bool) (E : En) (k : Nat) : Bool := match E[k]? with
 | some e => L.getD e.1 false
 | none => false
section
variable {P : Program} {c : Cx} {n : Nat} {os : List Oper} {Q : Exit → Act → World → Prop}
structure InvP (P : Program) (c : Cx) (n : Nat) (os : List Oper) (l0 : Sl) (E : En) (us : Pu) (W : List Res) (l : Sl) (L : Array Bool) (a : Act) (w : World) : Prop where
 size : L.size = os.length
 clo : ∀ i j, L.getD i false = true → Nat.testBit ((mkAnc os []).getD i 0) j = true → L.getD j false = true
 sub : ∀ i, L.getD i false = true → ∃ (k : Nat) (e : Nat × Kd), E[k]? = some e ∧ e.1 = i
 len : us.length = E.length
 fr : SatA n (cur us (dn L E) 0 l0) a
 wd : SatW c W w
 txt : l = cur us (fun _ => true) 0 l0
 ents : ∀ (k : Nat) (e : Nat × Kd) (u : Option (Nat × Value)), E[k]? = some e → us[k]? = some u → ∃ o, os[e.1]? = some o ∧ o.dst = u.map (·.1) ∧ (∀ d, o.dst = some d → Nat.blt d n = true) ∧
  (L.getD e.1 false = true ∨ (gSays os.toArray (cur (us.take k) (fun _ => true) 0 l0) o = some true ∧ e.2.isEff = false ∧ OpV P c n (pinW e.2 W) (pinW e.2 W) (restr os.toArray o (cur (us.take k) (fun _ => true) 0 l0)) (noG o) u) ∨
   (gSays os.toArray (cur (us.take k) (fun _ => true) 0 l0) o = some false ∧ ∃ d, u = some (d, undef)))
theorem ready_spec {L : Array Bool} {i : Nat} (hL : L.size = os.length) (hi : i ∈ Region.ready .any os.toArray L) : ∃ o, os[i]? = some o ∧ L.getD i false = false ∧ i < os.length ∧ ∀ d ∈ depsOf o, L.getD d false = true := by
 simp only [Region.ready, List.size_toArray, List.mem_filter, List.mem_range, Bool.and_eq_true, Bool.not_eq_true'] at hi
 obtain ⟨hlt, hnl, hdeps⟩ := hi
 obtain ⟨o, ho⟩ : ∃ o, os[i]? = some o := ⟨os[i], by simp [hlt]⟩
 refine ⟨o, ho, ?_, hlt, fun d hd => ?_⟩
 ·rw [Array.getD_eq_getD_getElem?] at hnl ⊢
  rw [Array.getElem?_eq_getElem (by omega)] at hnl ⊢
  simpa using hnl
 ·have ho' : os.toArray[i]? = some o := by simpa using ho
  rw [ho'] at hdeps
  simp only [Option.map_some, Option.getD_some] at hdeps
  obtain ⟨e, he, rfl⟩ := List.mem_map.1 hd
  rw [List.mem_filter] at he
  have hx := Array.all_eq_true'.1 hdeps e (by simpa using he.1)
  simpa [he.2] using hx
theorem ready_nil {L : Array Bool} (hanc : ancOK os 0 (mkAnc os []) = true) (hL : L.size = os.length) (hr : Region.ready .any os.toArray L = []) : ∀ i, i < os.length → L.getD i false = true := by
 intro i
 induction i using Nat.strongRecOn with
 | _ i ih =>
  intro hi
  by_cases hd : L.getD i false = true
  ·exact hd
  ·exfalso
   have hd' : L.getD i true = false := by
    rw [Array.getD_eq_getD_getElem?, Array.getElem?_eq_getElem (by omega)] at hd ⊢
    simpa using hd
   have hm : i ∈ Region.ready .any os.toArray L := by
    simp only [Region.ready, List.size_toArray, List.mem_filter, List.mem_range, Bool.and_eq_true, Bool.not_eq_true']
    refine ⟨hi, hd', ?_⟩
    have ho : os[i]? = some os[i] := by simp [hi]
    have ho' : os.toArray[i]? = some os[i] := by simp [hi]
    rw [ho']
    simp only [Option.map_some, Option.getD_some]
    rw [Array.all_eq_true']
    intro e he
    by_cases hb : Region.binds .any e = true
    ·have hdep : e.on ∈ depsOf os[i] := List.mem_map.2 ⟨e, List.mem_filter.2 ⟨by simpa using he, hb⟩, rfl⟩
     have hlt := (ancOK_spec hanc ho).1 _ hdep
     simp only [Nat.zero_add] at hlt
     simp [ih e.on hlt (by omega)]
    ·simp [hb]
   rw [hr] at hm; cases hm
theorem ready_full {L : Array Bool} (hL : L.size = os.length) (hf : os.length - (L.toList.filter id).length = 0) : Region.ready .any os.toArray L = [] := by
 have hcount : (L.toList.filter id).length = L.toList.length := by
  have := List.length_filter_le id L.toList
  simp only [Array.length_toList] at this ⊢
  omega
 rw [List.eq_nil_iff_forall_not_mem]
 intro i hi
 obtain ⟨o, ho, hnl, hlt, _⟩ := ready_spec hL hi
 have hallt := List.length_filter_eq_length_iff.1 hcount
 have : L[i]'(by omega) = true := by
  have := hallt (L[i]'(by omega)) (by simp)
  simpa using this
 rw [Array.getD_eq_getD_getElem?, Array.getElem?_eq_getElem (by omega)] at hnl
 simp [this] at hnl
theorem set_get {L : Array Bool} {i : Nat} (hL : L.size = os.length) (hlt : i < os.length) (j : Nat) : (L.setIfInBounds i true).getD j false = if j = i then true else L.getD j false := by
 simp only [Array.getD_eq_getD_getElem?]
 by_cases hj : j = i
 ·subst hj; simp [hL, hlt]
 ·rw [Array.getElem?_setIfInBounds_ne (fun e => hj e.symm), if_neg hj]
theorem set_count {L : Array Bool} {i fuel : Nat} (hL : L.size = os.length) (hlt : i < os.length) (hnl : L.getD i false = false) (hf : os.length - (L.toList.filter id).length = fuel + 1) :
  os.length - ((L.setIfInBounds i true).toList.filter id).length = fuel := by
 have e : ((L.setIfInBounds i true).toList.filter id).length = (L.toList.filter id).length + 1 := by
  rw [Array.toList_setIfInBounds]
  have hli : i < L.toList.length := by simpa [hL] using hlt
  have hv : L.toList[i] = false := by
   rw [Array.getD_eq_getD_getElem?, Array.getElem?_eq_getElem (by omega)] at hnl
   simpa using hnl
  rw [List.set_eq_take_append_cons_drop, if_pos hli]
  conv => rhs; rw [← List.take_append_drop i L.toList, List.drop_eq_getElem_cons hli, hv]
  simp only [List.filter_append, List.length_append, List.filter_cons, id, if_true, List.length_cons]
  simp
  omega
 rw [e]; omega
theorem look_at {l0 : Sl} {E : En} {us : Pu} {W : List Res} {l : Sl} {L : Array Bool} {a : Act} {w : World} (hI : InvP P c n os l0 E us W l L a w) {i k : Nat} {o : Oper} (_ : os[i]? = some o) (hnl : L.getD i false = false)
  (hanci : ∀ j, Nat.testBit ((mkAnc os []).getD i 0) j = true → L.getD j false = true) (_ : k ≤ E.length)
  (hbef : ∀ (j : Nat) (e : Nat × Kd), E[j]? = some e → j < k → ∀ y : Oper, os[e.1]? = some y → clash os.toArray y o = true → Nat.testBit ((mkAnc os []).getD i 0) e.1 = true)
  (hbeh : ∀ (j : Nat) (e : Nat × Kd), E[j]? = some e → k ≤ j → ∀ y : Oper, os[e.1]? = some y → clash os.toArray o y = true → e.1 = i ∨ Nat.testBit ((mkAnc os []).getD e.1 0) i = true) :
  (∀ t ∈ namesOf os.toArray o, lk (cur us (dn L E) 0 l0) t = lk (cur (us.take k) (fun _ => true) 0 l0) t) ∧
  (∀ t, o.dst = some t → ∀ (j : Nat) (x : Option (Nat × Value)), us[j]? = some x → writes x t → k ≤ j → dn L E j = false) := by
 have hwr : ∀ (j : Nat) (x : Option (Nat × Value)) (t : Nat), us[j]? = some x → writes x t → ∃ (e : Nat × Kd) (y : Oper), E[j]? = some e ∧ os[e.1]? = some y ∧ y.dst = some t := by
  intro j x t hx ⟨v, hv⟩
  have hjl : j < E.length := by
   rcases Nat.lt_or_ge j us.length with h | h
   ·have := hI.len; omega
   ·rw [List.getElem?_eq_none h] at hx; cases hx
  obtain ⟨o', ho', hd', _⟩ := hI.ents j E[j] x (by simp [hjl]) hx
  exact ⟨E[j], o', by simp [hjl], ho', by rw [hd', hv]; rfl⟩
 have hback : ∀ j e y, E[j]? = some e → k ≤ j → os[e.1]? = some y → clash os.toArray o y = true → dn L E j = false := by
  intro j e y he hkj hy hc
  simp only [dn, he]
  rcases hbeh j e he hkj y hy hc with h | h
  ·rw [h]; exact hnl
  ·cases hj : L.getD e.1 false
   ·rfl
   ·have := hI.clo e.1 i hj h; rw [hnl] at this; cases this
 refine ⟨fun t ht => ?_, fun t hdt j x hx hw hkj => ?_⟩
 ·refine lk_cur_text us _ 0 l0 t k (fun j x hx hw hji => ?_) (fun j x hx hw hij => ?_)
  ·obtain ⟨e, y, he, hy, hyd⟩ := hwr j x t hx hw
   simp only [Nat.zero_add, dn, he]
   refine hanci _ (hbef j e he hji y hy ?_)
   simp only [clash, hyd, Bool.or_eq_true]
   exact .inl (.inr (List.any_eq_true.2 ⟨t, ht, Nat.beq_refl t⟩))
  ·obtain ⟨e, y, he, hy, hyd⟩ := hwr j x t hx hw
   simp only [Nat.zero_add]
   refine hback j e y he hij hy ?_
   simp only [clash, hyd, Bool.or_eq_true]
   exact .inr (List.any_eq_true.2 ⟨t, ht, Nat.beq_refl t⟩)
 ·obtain ⟨e, y, he, hy, hyd⟩ := hwr j x t hx hw
  refine hback j e y he hkj hy ?_
  simp only [clash, hdt, Bool.or_eq_true]
  refine .inl (.inl ?_)
  simp [inDst, hyd, Nat.beq_refl]
theorem wanted_of {ops : Array Oper} {ltxt : Sl} {a : Act} {o : Oper} {b : Bool} (hg : gSays ops ltxt o = some b)
  (hyield : ∀ j want, o.guard = some (j, want) → ∀ t, (ops[j]?).bind (·.dst) = some t → ∀ v, lk ltxt t = some v → a.tmps[t]? = some v) : Region.wanted o (yielded ops a.tmps) = b := by
 unfold gSays at hg
 unfold Region.wanted
 cases hgd : o.guard with
 | none => simp [hgd] at hg; rw [hg]
 | some jw =>
  obtain ⟨j, want⟩ := jw
  simp only [hgd] at hg ⊢
  cases hj : (ops[j]?).bind (·.dst) with
  | none => rw [hj] at hg; cases hg
  | some t =>
   simp only [hj] at hg
   cases hv : lk ltxt t with
   | none => rw [hv] at hg; cases hg
   | some v =>
    have hav := hyield j want hgd t hj v hv
    rw [hv] at hg
    unfold yielded
    rw [hj]
    cases v <;> simp at hg
    ·simp [hav, hg]
    ·subst hg; simp [hav]
theorem ord_clash {anc : List Nat} {x y : Nat × Kd} (h : ordOK os anc x y = true) {o p : Oper} (ho : os[x.1]? = some o) (hp : os[y.1]? = some p) (hc : clash os.toArray o p = true) : Nat.testBit (anc.getD y.1 0) x.1 = true := by
 simp only [ordOK, ho, hp, hc, Bool.not_true, Bool.false_or, Bool.and_eq_true] at h
 exact h.1.1
theorem ord_mem {anc : List Nat} {x y : Nat × Kd} (h : ordOK os anc x y = true) (hm : memClash x.2 y.2 = true) : Nat.testBit (anc.getD y.1 0) x.1 = true := by
 simp only [ordOK, hm, Bool.not_true, Bool.false_or, Bool.and_eq_true] at h
 exact h.1.2
theorem ord_ne {anc : List Nat} {x y : Nat × Kd} (h : ordOK os anc x y = true) : x.1 ≠ y.1 := by
 simp only [ordOK, Bool.and_eq_true, Bool.not_eq_true'] at h
 exact ne_beq h.2
theorem noG_wp {o : Oper} {a : Act} {w : World} {K : Act → World → Prop} {Q : Exit → Act → World → Prop} (h : (noG o).wp P a w K Q) : o.wp P a w K Q := h
theorem single_mono {ops : Array Oper} {Q Q' : Exit → Act → World → Prop} {o : Oper} {a : Act} {w : World} (h : wpList P ops Q [o] a w) (hg : o.guard = none) (hQ : ∀ e a w, Q e a w → e = .normal)
  (hm : ∀ a w, Q .normal a w → Q' .normal a w) : wpList P ops Q' [o] a w := by
 rcases wpList_single h hg with h1 | ⟨_, a0, w0, hq⟩
 ·simp only [wpList]
  rw [if_pos (by simp [Region.wanted, hg])]
  left
  exact oper_wp_change h1 hm hQ
 ·exact absurd (hQ _ _ _ hq) (by simp)
theorem after_op {lr : Sl} {u : Option (Nat × Value)} {base : Sl} {a a' : Act} (hA : SatA n base a) (hlr : ∀ t v, lk lr t = some v → a.tmps[t]? = some v) (hsa : SatA n (u.toList ++ (lr ++ allSl a n)) a') :
  ∀ t v, lk (u.toList ++ base) t = some v → a'.tmps[t]? = some v := by
 intro t v ht
 refine hsa.at_ t v ?_
 rw [lk_append] at ht ⊢
 cases hut : lk u.toList t with
 | some v' => rw [hut] at ht; exact ht
 | none =>
  rw [hut] at ht
  simp only at ht ⊢
  have hat' := hA.at_ t v ht
  rw [lk_append]
  cases hr : lk lr t with
  | some v' =>
   have := hlr t v' hr
   rw [this] at hat'; exact hat'
  | none =>
   have htn : t < n := by
    rcases Nat.lt_or_ge t n with h | h
    ·exact h
    ·rw [Array.getElem?_eq_none (by rw [hA.sz]; exact h)] at hat'; cases hat'
   exact allSl_get a n t v htn hat'
theorem clo_set {L : Array Bool} {i : Nat} (hL : L.size = os.length) (hlt : i < os.length) (hclo : ∀ i j, L.getD i false = true → Nat.testBit ((mkAnc os []).getD i 0) j = true → L.getD j false = true)
  (hanci : ∀ j, Nat.testBit ((mkAnc os []).getD i 0) j = true → L.getD j false = true) :
  ∀ p q, (L.setIfInBounds i true).getD p false = true → Nat.testBit ((mkAnc os []).getD p 0) q = true → (L.setIfInBounds i true).getD q false = true := by
 intro p q hp hq
 rw [set_get hL hlt] at hp ⊢
 by_cases hqi : q = i
 ·simp [hqi]
 ·rw [if_neg hqi]
  by_cases hpi : p = i
  ·subst hpi; exact hanci q hq
  ·rw [if_neg hpi] at hp; exact hclo p q hp hq
theorem anc_done {L : Array Bool} {i : Nat} {o : Oper} (hanc : ancOK os 0 (mkAnc os []) = true) (ho : os[i]? = some o) (hclo : ∀ i j, L.getD i false = true → Nat.testBit ((mkAnc os []).getD i 0) j = true → L.getD j false = true)
  (hdeps : ∀ d ∈ depsOf o, L.getD d false = true) : ∀ j, Nat.testBit ((mkAnc os []).getD i 0) j = true → L.getD j false = true := by
 intro j hj
 have hspec := ancOK_spec hanc ho
 simp only [Nat.zero_add] at hspec
 obtain ⟨d, hd, he⟩ := hspec.2 j hj
 rcases he with rfl | he
 ·exact hdeps d hd
 ·exact hclo d j (hdeps d hd) he
theorem perform {l0 : Sl} {E : En} {us : Pu} {W : List Res} {l : Sl} {L : Array Bool} {a : Act} {w : World} (hI : InvP P c n os l0 E us W l L a w) (hanc : ancOK os 0 (mkAnc os []) = true) (hpairs : allPairs (ordOK os (mkAnc os [])) E = true)
  {k : Nat} {e : Nat × Kd} (he : E[k]? = some e) {o : Oper} (ho : os[e.1]? = some o) (hnl : L.getD e.1 false = false) (hdeps : ∀ d ∈ depsOf o, L.getD d false = true) {K' : Act → World → Prop}
  (hcont : ∀ a' w', InvP P c n os l0 E us W l (L.setIfInBounds e.1 true) a' w' → K' a' w') : wpOp P os.toArray Q e.1 K' a w := by
 have hlt : e.1 < os.length := by
  rcases Nat.lt_or_ge e.1 os.length with h | h
  ·exact h
  ·rw [List.getElem?_eq_none h] at ho; cases ho
 have hkl : k < E.length := by
  rcases Nat.lt_or_ge k E.length with h | h
  ·exact h
  ·rw [List.getElem?_eq_none h] at he; cases he
 have hanci := anc_done hanc ho hI.clo hdeps
 obtain ⟨u, hu⟩ : ∃ u, us[k]? = some u := ⟨us[k]'(by have := hI.len; omega), by have := hI.len; simp [show k < us.length by omega]⟩
 obtain ⟨o', ho', hdst, hinn, hsay⟩ := hI.ents k e u he hu
 rw [ho] at ho'; cases ho'
 have hlook := look_at hI ho hnl hanci (Nat.le_of_lt hkl)
  (fun j e' he' hjk y hy hc => ord_clash (allPairs_spec hpairs hjk he' he) hy ho hc)
  (fun j e' he' hkj y hy hc => by
   rcases Nat.eq_or_lt_of_le hkj with rfl | hlt'
   ·rw [he] at he'; cases he'; exact .inl rfl
   ·exact .inr (ord_clash (allPairs_spec hpairs hlt' he he') ho hy hc))
 have hfr : ∀ a', (∀ t v, lk (u.toList ++ cur us (dn L E) 0 l0) t = some v → a'.tmps[t]? = some v) → a'.defers = [] → a'.tmps.size = n → SatA n (cur us (dn (L.setIfInBounds e.1 true) E) 0 l0) a' := by
  intro a' h1 h2 h3
  refine ⟨h2, h3, fun t v ht => h1 t v ?_⟩
  have hs := lk_cur_set us (dn L E) (dn (L.setIfInBounds e.1 true) E) 0 l0 t k u hu (by simp [dn, he, set_get hI.size hlt]) (by simp [dn, he, hnl])
   (fun j hj => by
    simp only [Nat.zero_add, dn]
    cases hj' : E[j]? with
    | none => rfl
    | some e' =>
     have hne : e'.1 ≠ e.1 := by
      rcases Nat.lt_or_gt_of_ne hj with h | h
      ·exact ord_ne (allPairs_spec hpairs h hj' he)
      ·exact fun q => ord_ne (allPairs_spec hpairs h he hj') q.symm
     simp only [set_get hI.size hlt, if_neg hne])
  by_cases hw : writes u t
  ·obtain ⟨v', hv'⟩ := hw
   have hod : o.dst = some t := by rw [hdst, hv']; rfl
   have := hs.2 v' hv' (fun j x hx hw hij => by
    simp only [Nat.zero_add]
    exact hlook.2 t hod j x hx hw (Nat.le_of_lt hij))
   rw [this] at ht; cases ht
   rw [hv']; simp [lk]
  ·rw [hs.1 hw] at ht
   rw [lk_put hw]; exact ht
 have hinv : ∀ a' w', SatA n (cur us (dn (L.setIfInBounds e.1 true) E) 0 l0) a' → SatW c W w' → InvP P c n os l0 E us W l (L.setIfInBounds e.1 true) a' w' := by
  intro a' w' h1 h2
  refine ⟨by simp [hI.size], clo_set hI.size hlt hI.clo hanci, fun j hj => ?_, hI.len, h1, h2, hI.txt, fun k' e' u' he' hu' => ?_⟩
  ·rw [set_get hI.size hlt] at hj
   by_cases hji : j = e.1
   ·exact ⟨k, e, he, hji.symm⟩
   ·rw [if_neg hji] at hj; exact hI.sub j hj
  ·obtain ⟨o2, h1, h2, h3, h4⟩ := hI.ents k' e' u' he' hu'
   refine ⟨o2, h1, h2, h3, ?_⟩
   rcases h4 with h4 | h4 | h4
   ·left; rw [set_get hI.size hlt]; split
    ·rfl
    ·exact h4
   ·exact .inr (.inl h4)
   ·exact .inr (.inr h4)
 have hyield : ∀ j want, o.guard = some (j, want) → ∀ t, (os.toArray[j]?).bind (·.dst) = some t → ∀ v, lk (cur (us.take k) (fun _ => true) 0 l0) t = some v → a.tmps[t]? = some v := by
  intro j want hg t ht v hv
  have htn : t ∈ namesOf os.toArray o := by
   simp only [namesOf, List.mem_append, guTmp, hg]
   left; rw [ht]; simp
  exact hI.fr.at_ t v (by rw [hlook.1 t htn]; exact hv)
 unfold wpOp
 rw [show os.toArray[e.1]? = some o by simpa using ho]
 rcases hsay with hd | ⟨hg, hne, hV⟩ | ⟨hg, d, hud⟩
 ·rw [hnl] at hd; cases hd
 ·have hwant := wanted_of hg hyield
  simp only [hwant, if_true]
  left
  have hpinW : SatW c (pinW e.2 W) w := by
   cases hk : e.2 with
   | free => exact hI.wd.sub SubW.nil
   | pin => exact hI.wd
   | eff => exact hI.wd
  have hlr : ∀ t v, lk (restr os.toArray o (cur (us.take k) (fun _ => true) 0 l0)) t = some v → a.tmps[t]? = some v := fun t v ht => by
   obtain ⟨h1, h2⟩ := lk_restrL ht
   exact hI.fr.at_ t v (by rw [hlook.1 t h2]; exact h1)
  have hstep := hV w (allSl a n) hpinW a w ⟨hI.fr.dfr, hI.fr.sz, fun t v ht => by
   rw [lk_append] at ht
   cases hr : lk (restr os.toArray o (cur (us.take k) (fun _ => true) 0 l0)) t with
   | some v' => rw [hr] at ht; cases ht; exact hlr t v hr
   | none => rw [hr] at ht; exact allSl_lk a n t v ht⟩ ⟨Ext.refl _ _, hpinW.holds, fun b hb => .inr hb, hpinW.nd⟩
  rcases wpList_single hstep rfl with hstep | ⟨_, a0, w0, hq, _⟩
  case inr => cases hq
  refine oper_wp_change (noG_wp hstep) (fun a' w' hp => hcont a' w' (hinv a' w' ?_ ?_)) (fun e _ _ hp => hp.1)
  ·obtain ⟨_, hsa, _⟩ := hp
   exact hfr a' (after_op hI.fr hlr hsa) hsa.dfr hsa.sz
  ·obtain ⟨_, _, hsw⟩ := hp
   cases hk : e.2 with
   | free =>
    rw [hk] at hsw
    exact hI.wd.ext0 hsw.ext
   | pin => rw [hk] at hsw; exact satW_shift hI.wd hsw
   | eff => rw [hk] at hne; simp [Kd.isEff] at hne
 ·have hnw := wanted_of hg hyield
  simp only [hnw, Bool.false_eq_true, if_false]
  have hod : o.dst = some d := by rw [hdst, hud]; rfl
  have hput := hI.fr.put (v := undef) (hinn d hod)
  rw [hod]
  exact hcont _ _ (hinv _ _ (hfr _ (fun t v ht => hput.at_ t v (by rw [hud] at ht; exact ht)) hput.dfr hput.sz) hI.wd)
theorem get_snoc {α : Type} {E : List α} {x e : α} {k : Nat} (h : (E ++ [x])[k]? = some e) : (k < E.length ∧ E[k]? = some e) ∨ (k = E.length ∧ e = x) := by
 rcases Nat.lt_or_ge k E.length with hk | hk
 ·rw [List.getElem?_append_left hk] at h; exact .inl ⟨hk, h⟩
 ·rw [List.getElem?_append_right hk] at h
  have : k - E.length = 0 := by
   rcases Nat.eq_zero_or_pos (k - E.length) with h0 | h0
   ·exact h0
   ·rw [List.getElem?_eq_none (by simp; omega)] at h; cases h
  rw [this] at h; simp at h
  exact .inr ⟨by omega, h.symm⟩
theorem new_not {E : En} {i : Nat} (h : newP i E = true) : ∀ (k : Nat) (e : Nat × Kd), E[k]? = some e → e.1 ≠ i := by
 intro k e he hei
 simp only [newP, Bool.not_eq_true', List.any_eq_false] at h
 exact h e (List.mem_of_getElem? he) (by rw [hei]; exact Nat.beq_refl i)
theorem any_order {l0 : Sl} {E : En} {W : List Res} {l : Sl} {rest : List Nat} (h : QF P c n os (Q .normal) E W l rest) : ∀ (fuel : Nat) (us : Pu) (L : Array Bool) (a : Act) (w : World),
  (os.length - (L.toList.filter id).length = fuel) → InvP P c n os l0 E us W l L a w → wpAny P .any os.toArray Q fuel L a w := by
 induction h with
 | fin hc hf hk =>
  rename_i E W l
  simp only [chkP, Bool.and_eq_true] at hc
  obtain ⟨hanc, hpairs⟩ := hc
  have hfin : ∀ (us : Pu) (L : Array Bool) (a : Act) (w : World), InvP P c n os l0 E us W l L a w → Region.ready .any os.toArray L = [] → Q .normal a w := by
   intro us L a w hI hr
   have hd := ready_nil hanc hI.size hr
   refine hk a w ?_ hI.wd
   have e := cur_congr us (dn L E) (fun _ => true) 0 l0 (fun j hj => by
    have hjl : j < E.length := by have := hI.len; omega
    obtain ⟨o, ho, _⟩ := hI.ents j E[j] (us[j]) (by simp [hjl]) (by simp [hj])
    have hlt : (E[j]).1 < os.length := by
     rcases Nat.lt_or_ge (E[j]).1 os.length with h | h
     ·exact h
     ·rw [List.getElem?_eq_none h] at ho; cases ho
    simp only [Nat.zero_add, dn, List.getElem?_eq_getElem hjl]
    exact hd _ hlt)
   have hA := hI.fr
   rw [e, ← hI.txt] at hA
   exact hA
  intro fuel
  induction fuel with
  | zero => intro us L a w hf hI; exact ⟨ready_full hI.size hf, hfin us L a w hI (ready_full hI.size hf)⟩
  | succ fuel ih =>
   intro us L a w hfu hI
   refine ⟨hfin us L a w hI, fun i hi => ?_⟩
   obtain ⟨o, ho, hnl, hlt, hdeps⟩ := ready_spec hI.size hi
   simp only [fullP, List.all_eq_true, List.mem_range] at hf
   obtain ⟨e, hem, hei⟩ := List.any_eq_true.1 (hf i hlt)
   obtain ⟨k, hk'⟩ := List.getElem?_of_mem hem
   have hei := Nat.eq_of_beq_eq_true hei
   subst hei
   exact perform hI hanc hpairs hk' ho hnl hdeps (fun a' w' hI' => ih us _ a' w' (set_count hI.size hlt hnl hfu) hI')
 | val kd hk hi ho hd hn hg h hr ih =>
  rename_i E W l i d o v rest
  intro fuel us L a w hfu hI
  have hnew := new_not hi
  have hnd : L.getD i false = false := by
   cases hx : L.getD i false
   ·rfl
   ·obtain ⟨k, e, he, hei⟩ := hI.sub i hx; exact absurd hei (hnew k e he)
  refine ih fuel (us ++ [some (d, v)]) L a w hfu ⟨hI.size, hI.clo, fun j hj => ?_, by simp [hI.len], ?_, hI.wd, ?_, fun k e u he hu => ?_⟩
  ·obtain ⟨k, e, he, hej⟩ := hI.sub j hj
   exact ⟨k, e, by rw [List.getElem?_append_left]; exact he; exact (List.getElem?_eq_some_iff.1 he).1, hej⟩
  ·rw [cur_append]
   have e1 : cur us (dn L (E ++ [(i, kd)])) 0 l0 = cur us (dn L E) 0 l0 := cur_congr _ _ _ _ _ (fun j hj => by
    simp only [Nat.zero_add, dn]; rw [List.getElem?_append_left (by have := hI.len; omega)])
   have e2 : dn L (E ++ [(i, kd)]) (0 + us.length) = false := by
    simp only [Nat.zero_add, dn, hI.len, List.getElem?_concat_length]; exact hnd
   simp only [cur, e2, Bool.false_eq_true, if_false, e1]; exact hI.fr
  ·rw [cur_append, ← hI.txt]; simp [cur]
  ·rcases get_snoc he with ⟨hkl, he'⟩ | ⟨rfl, rfl⟩
   ·have hu' : us[k]? = some u := by rwa [List.getElem?_append_left (by have := hI.len; omega)] at hu
    have := hI.ents k e u he' hu'
    rw [List.take_append_of_le_length (by have := hI.len; omega)]
    exact this
   ·have hu' : u = some (d, v) := by rw [← hI.len, List.getElem?_concat_length] at hu; exact (Option.some.inj hu).symm
    subst hu'
    refine ⟨o, ho, by simpa using hd, fun d' hd' => by rw [hd] at hd'; cases hd'; exact hn, .inr (.inl ?_)⟩
    rw [List.take_append_of_le_length (by have := hI.len; omega), ← hI.len, List.take_length, ← hI.txt]
    exact ⟨hg, hk, h⟩
 | no hi ho hd hn hg hr ih =>
  rename_i E W l i d o rest
  intro fuel us L a w hfu hI
  have hnew := new_not hi
  have hnd : L.getD i false = false := by
   cases hx : L.getD i false
   ·rfl
   ·obtain ⟨k, e, he, hei⟩ := hI.sub i hx; exact absurd hei (hnew k e he)
  refine ih fuel (us ++ [some (d, undef)]) L a w hfu ⟨hI.size, hI.clo, fun j hj => ?_, by simp [hI.len], ?_, hI.wd, ?_, fun k e u he hu => ?_⟩
  ·obtain ⟨k, e, he, hej⟩ := hI.sub j hj
   exact ⟨k, e, by rw [List.getElem?_append_left]; exact he; exact (List.getElem?_eq_some_iff.1 he).1, hej⟩
  ·rw [cur_append]
   have e1 : cur us (dn L (E ++ [(i, .free)])) 0 l0 = cur us (dn L E) 0 l0 := cur_congr _ _ _ _ _ (fun j hj => by
    simp only [Nat.zero_add, dn]; rw [List.getElem?_append_left (by have := hI.len; omega)])
   have e2 : dn L (E ++ [(i, .free)]) (0 + us.length) = false := by
    simp only [Nat.zero_add, dn, hI.len, List.getElem?_concat_length]; exact hnd
   simp only [cur, e2, Bool.false_eq_true, if_false, e1]; exact hI.fr
  ·rw [cur_append, ← hI.txt]; simp [cur]
  ·rcases get_snoc he with ⟨hkl, he'⟩ | ⟨rfl, rfl⟩
   ·have hu' : us[k]? = some u := by rwa [List.getElem?_append_left (by have := hI.len; omega)] at hu
    have := hI.ents k e u he' hu'
    rw [List.take_append_of_le_length (by have := hI.len; omega)]
    exact this
   ·have hu' : u = some (d, undef) := by rw [← hI.len, List.getElem?_concat_length] at hu; exact (Option.some.inj hu).symm
    subst hu'
    refine ⟨o, ho, by simpa using hd, fun d' hd' => by rw [hd] at hd'; cases hd'; exact hn, .inr (.inr ?_)⟩
    rw [List.take_append_of_le_length (by have := hI.len; omega), ← hI.len, List.take_length, ← hI.txt]
    exact ⟨hg, d, rfl⟩
 | nd hi ho hc hdesc hΦ hg h hr ih =>
  rename_i E W l i o rest Φ
  simp only [chkP, Bool.and_eq_true] at hc
  obtain ⟨hanc, hpairsX⟩ := hc
  have hnew := new_not hi
  have hget : ∀ {k e}, E[k]? = some e → (E ++ [(i, Kd.eff)])[k]? = some e := fun {k e} he => by
   rw [List.getElem?_append_left]; exact he; exact (List.getElem?_eq_some_iff.1 he).1
  have hlast : (E ++ [(i, Kd.eff)])[E.length]? = some (i, Kd.eff) := by simp
  have hpairs : allPairs (ordOK os (mkAnc os [])) E = true := by
   have : ∀ {X Y : En}, allPairs (ordOK os (mkAnc os [])) (X ++ Y) = true → allPairs (ordOK os (mkAnc os [])) X = true := by
    intro X
    induction X with
    | nil => intro Y _; rfl
    | cons x r ihx =>
     intro Y hxy
     simp only [List.cons_append, allPairs, Bool.and_eq_true, List.all_append] at hxy ⊢
     exact ⟨hxy.1.1, ihx hxy.2⟩
   exact this hpairsX
  intro fuel
  induction fuel with
  | zero =>
   intro us L a w hfu hI
   have hr0 := ready_full hI.size hfu
   have hd := ready_nil hanc hI.size hr0
   have hlt : i < os.length := (List.getElem?_eq_some_iff.1 ho).1
   obtain ⟨k, e, he, hei⟩ := hI.sub i (hd i hlt)
   exact absurd hei (hnew k e he)
  | succ fuel ihf =>
   intro us L a w hfu hI
   have hlti : i < os.length := (List.getElem?_eq_some_iff.1 ho).1
   have hnd : L.getD i false = false := by
    cases hx : L.getD i false
    ·rfl
    ·obtain ⟨k, e, he, hei⟩ := hI.sub i hx; exact absurd hei (hnew k e he)
   refine ⟨fun hr0 => ?_, fun j hj => ?_⟩
   ·have hd := ready_nil hanc hI.size hr0
    rw [hd i hlti] at hnd; cases hnd
   obtain ⟨p, hp, hnl, hlt, hdeps⟩ := ready_spec hI.size hj
   have hanci := anc_done hanc hp hI.clo hdeps
   simp only [descP, Bool.and_eq_true, List.all_eq_true, List.mem_range, Bool.or_eq_true] at hdesc
   have hcase : j = i ∨ ∃ (k : Nat) (e : Nat × Kd), E[k]? = some e ∧ e.1 = j := by
    rcases hdesc.2 j hlt with (h1 | h1) | h1
    ·exact .inl (Nat.eq_of_beq_eq_true h1)
    ·obtain ⟨x, hx, hxj⟩ := List.any_eq_true.1 h1
     have hxj := Nat.eq_of_beq_eq_true hxj
     subst hxj
     have hb := hanci i (hdesc.1 j hx)
     rw [hnd] at hb; cases hb
    ·obtain ⟨e, hem, hej⟩ := List.any_eq_true.1 h1
     obtain ⟨k, hk'⟩ := List.getElem?_of_mem hem
     exact .inr ⟨k, e, hk', Nat.eq_of_beq_eq_true hej⟩
   rcases hcase with rfl | ⟨k, e, hk', rfl⟩
   case inr => exact perform hI hanc hpairs hk' hp hnl hdeps (fun a' w' hI' => ihf us _ a' w' (set_count hI.size hlt hnl hfu) hI')
   rw [ho] at hp; cases hp
   have hlook := look_at hI ho hnl hanci (Nat.le_refl _)
    (fun j' e' he' hjk y hy hc => ord_clash (allPairs_spec hpairsX hjk (hget he') hlast) hy ho hc)
    (fun j' e' he' hkj => by rw [List.getElem?_eq_none hkj] at he'; cases he')
   have htk : us.take E.length = us := by rw [← hI.len, List.take_length]
   rw [htk, ← hI.txt] at hlook
   have hyield : ∀ j' want, o.guard = some (j', want) → ∀ t, (os.toArray[j']?).bind (·.dst) = some t → ∀ v, lk l t = some v → a.tmps[t]? = some v := by
    intro j' want hg t ht v hv
    have htn : t ∈ namesOf os.toArray o := by
     simp only [namesOf, List.mem_append, guTmp, hg]
     left; rw [ht]; simp
    exact hI.fr.at_ t v (by rw [hlook.1 t htn]; exact hv)
   have hlr : ∀ t v, lk (restr os.toArray o l) t = some v → a.tmps[t]? = some v := fun t v ht => by
    obtain ⟨h1, h2⟩ := lk_restrL ht
    exact hI.fr.at_ t v (by rw [hlook.1 t h2]; exact h1)
   unfold wpOp
   rw [show os.toArray[j]? = some o by simpa using ho]
   have hwant := wanted_of hg hyield
   simp only [hwant, if_true]
   left
   have hstep := h w (allSl a n) hI.wd a w ⟨hI.fr.dfr, hI.fr.sz, fun t v ht => by
    rw [lk_append] at ht
    cases hr' : lk (restr os.toArray o l) t with
    | some v' => rw [hr'] at ht; cases ht; exact hlr t v hr'
    | none => rw [hr'] at ht; exact allSl_lk a n t v ht⟩ ⟨Ext.refl _ _, hI.wd.holds, fun b hb => .inr hb, hI.wd.nd⟩
   rcases wpList_single hstep rfl with hstep | ⟨_, a0, w0, hq, _⟩
   case inr => cases hq
   refine oper_wp_change (noG_wp hstep) (fun a' w' hp => ?_) (fun e _ _ hp => hp.1)
   obtain ⟨_, u, W', hu, hsa, hsw⟩ := hp
   have hL' := set_get hI.size hlt
   obtain ⟨hdst, hinn⟩ := hΦ u W' hu
   refine ih u W' hu fuel (us ++ [u]) _ a' w' (set_count hI.size hlt hnl hfu) ⟨by simp [hI.size], clo_set hI.size hlt hI.clo hanci, fun q hq => ?_, by simp [hI.len], ?_, satW_shift hI.wd hsw, ?_, fun k e u' he hu' => ?_⟩
   ·rw [hL'] at hq
    by_cases hqj : q = j
    ·exact ⟨E.length, (j, .eff), hlast, hqj.symm⟩
    ·rw [if_neg hqj] at hq
     obtain ⟨k, e, he, hej⟩ := hI.sub q hq
     exact ⟨k, e, hget he, hej⟩
   ·rw [cur_append]
    have e1 : cur us (dn (L.setIfInBounds j true) (E ++ [(j, .eff)])) 0 l0 = cur us (dn L E) 0 l0 := cur_congr _ _ _ _ _ (fun q hq => by
     have hql : q < E.length := by have := hI.len; omega
     simp only [Nat.zero_add, dn]; rw [List.getElem?_append_left hql, List.getElem?_eq_getElem hql]
     simp only [hL', if_neg (hnew q E[q] (by simp [hql]))])
    have e2 : dn (L.setIfInBounds j true) (E ++ [(j, .eff)]) (0 + us.length) = true := by
     simp only [Nat.zero_add, dn, hI.len, List.getElem?_concat_length, hL', if_true]
    simp only [cur, e2, if_true, e1]
    exact ⟨hsa.dfr, hsa.sz, after_op hI.fr hlr hsa⟩
   ·rw [cur_append, ← hI.txt]; simp [cur]
   ·rcases get_snoc he with ⟨hkl, he'⟩ | ⟨rfl, rfl⟩
    ·have hu2 : us[k]? = some u' := by rwa [List.getElem?_append_left (by have := hI.len; omega)] at hu'
     obtain ⟨o2, h1, h2, h3, h4⟩ := hI.ents k e u' he' hu2
     rw [List.take_append_of_le_length (by have := hI.len; omega)]
     refine ⟨o2, h1, h2, h3, ?_⟩
     have hdone : L.getD e.1 false = true → (L.setIfInBounds j true).getD e.1 false = true := fun hx => by rw [hL']; split; rfl; exact hx
     rcases h4 with h4 | ⟨g1, g2, g3⟩ | h4
     ·exact .inl (hdone h4)
     ·cases hkd : e.2 with
      | free =>
       rw [hkd] at g3
       exact .inr (.inl ⟨g1, rfl, g3⟩)
      | pin =>
       refine .inl (hdone (hanci _ ?_))
       exact ord_mem (allPairs_spec hpairsX hkl (hget he') hlast) (by rw [hkd]; rfl)
      | eff => rw [hkd] at g2; simp [Kd.isEff] at g2
     ·exact .inr (.inr h4)
    ·have hu2 : u' = u := by rw [← hI.len, List.getElem?_concat_length] at hu'; exact (Option.some.inj hu').symm
     subst hu2
     refine ⟨o, ho, hdst, hinn, .inl ?_⟩
     rw [hL', if_pos rfl]
theorem st_perm {rid : Nat} {W : List Res} {l : Sl} (π : List Nat) (hm : P.follows .mixedOrders = true) (h : QF P c n os (Q .normal) [] W l π) : Go c n l W ((Code.region rid os.toArray true).wp P Q) := by
 refine st_anyB hm fun a w ha hw => any_order (l0 := l) h _ [] _ a w ?_ ⟨by simp, ?_, ?_, rfl, ha, hw, rfl, ?_⟩
 ·simp
 ·intro i j hi; simp [Array.getD_eq_getD_getElem?, Array.getElem?_replicate] at hi; split at hi <;> simp at hi
 ·intro i hi; simp [Array.getD_eq_getD_getElem?, Array.getElem?_replicate] at hi; split at hi <;> simp at hi
 ·intro k e u he; simp at he
variable {K : Act → World → Prop} {E : En} {W : List Res} {l : Sl} {i d : Nat} {o : Oper} {rest : List Nat}
theorem Zpf {v : Value} (ho : os[i]? = some o) (h : OpV P c n [] [] (restr os.toArray o l) (noG o) (some (d, v))) (hr : QF P c n os K (E ++ [(i, .free)]) W ((d, v) :: l) rest)
  (hi : newP i E = true := by rfl) (hd : o.dst = some d := by rfl) (hn : Nat.blt d n = true := by rfl) (hg : gSays os.toArray l o = some true := by rfl) : QF P c n os K E W l (i :: rest) :=
 QF.val .free rfl hi ho hd hn hg h hr
theorem Zpp {v : Value} (ho : os[i]? = some o) (h : OpV P c n W W (restr os.toArray o l) (noG o) (some (d, v))) (hr : QF P c n os K (E ++ [(i, .pin)]) W ((d, v) :: l) rest)
  (hi : newP i E = true := by rfl) (hd : o.dst = some d := by rfl) (hn : Nat.blt d n = true := by rfl) (hg : gSays os.toArray l o = some true := by rfl) : QF P c n os K E W l (i :: rest) :=
 QF.val .pin rfl hi ho hd hn hg h hr
theorem Zpo (ho : os[i]? = some o) (hr : QF P c n os K (E ++ [(i, .free)]) W ((d, undef) :: l) rest)
  (hi : newP i E = true := by rfl) (hd : o.dst = some d := by rfl) (hn : Nat.blt d n = true := by rfl) (hg : gSays os.toArray l o = some false := by rfl) : QF P c n os K E W l (i :: rest) :=
 QF.no hi ho hd hn hg hr
def OpF (P : Program) (c : Cx) (n : Nat) (W : List Res) (F : Value → List Res) (d : Nat) (lr : Sl) (o : Oper) : Prop :=
 ∀ w0 m, SatW c W w0 → Go ⟨w0, fps W⟩ n (lr ++ m) W (wpList P #[] (fun e a w => e = .normal ∧ ∃ v, SatA n ((d, v) :: (lr ++ m)) a ∧ SatW ⟨w0, fps W⟩ (F v) w) [o])
theorem Zpn {F : Value → List Res} (ho : os[i]? = some o) (h : OpF P c n W F d (restr os.toArray o l) (noG o)) (hr : ∀ v, QF P c n os K (E ++ [(i, .eff)]) (F v) ((d, v) :: l) rest)
  (hi : newP i E = true := by rfl) (hd : o.dst = some d := by rfl) (hn : Nat.blt d n = true := by rfl) (hg : gSays os.toArray l o = some true := by rfl)
  (hc : chkP os (E ++ [(i, .eff)]) = true := by rfl) (hdesc : descP os i rest E = true := by rfl) : QF P c n os K E W l (i :: rest) :=
 QF.nd (Φ := fun u W' => ∃ v, u = some (d, v) ∧ W' = F v) hi ho hc hdesc (fun u W' ⟨v, hu, _⟩ => by subst hu; exact ⟨hd, fun d' hd' => by rw [hd] at hd'; cases hd'; exact hn⟩) hg
  (fun w0 m hw a w ha hw' => single_mono (h w0 m hw a w ha hw') rfl (fun _ _ _ h => h.1) fun a w ⟨h1, v, h2, h3⟩ => ⟨h1, some (d, v), F v, ⟨v, rfl, rfl⟩, h2, h3⟩)
  (fun u W' ⟨v, hu, hW⟩ => by subst hu; subst hW; exact hr v)
theorem Zpx {F : Value → List Res} {L : Sl} {v : Value} {W' : List Res} (hF : F v = W' := by rfl) :
  Go c n ((d, v) :: L) W' (wpList P #[] (fun e a w => e = .normal ∧ ∃ v, SatA n ((d, v) :: L) a ∧ SatW c (F v) w) []) :=
 fun _ _ ha hw => wpList_nil ⟨rfl, v, ha, by rw [hF]; exact hw⟩
theorem Zps {W' : List Res} (ho : os[i]? = some o) (h : OpV P c n W W' (restr os.toArray o l) (noG o) none) (hr : QF P c n os K (E ++ [(i, .eff)]) W' l rest)
  (hi : newP i E = true := by rfl) (hd : o.dst = none := by rfl) (hg : gSays os.toArray l o = some true := by rfl)
  (hc : chkP os (E ++ [(i, .eff)]) = true := by rfl) (hdesc : descP os i rest E = true := by rfl) : QF P c n os K E W l (i :: rest) :=
 QF.nd (Φ := fun u V => u = none ∧ V = W') hi ho hc hdesc (fun u V ⟨hu, _⟩ => by subst hu; exact ⟨hd, fun d' hd' => by rw [hd] at hd'; cases hd'⟩) hg
  (fun w0 m hw a w ha hw' => single_mono (h w0 m hw a w ha hw') rfl (fun _ _ _ h => h.1) fun a w ⟨h1, h2, h3⟩ => ⟨h1, none, W', ⟨rfl, rfl⟩, h2, h3⟩)
  (fun u V ⟨hu, hV⟩ => by subst hu; subst hV; exact hr)
theorem Zp0 (hk : Go c n l W K) (hc : chkP os E = true := by rfl) (hf : fullP os E = true := by rfl) : QF P c n os K E W l [] := QF.fin hc hf hk
end
end Go.Proofs.YtbpmbdlgmmabcaaGreat.L
namespace Go.Proofs.YtbpmbdlgmmabcaaGreat.L
open Go Go.Proofs
section
variable {P : Program} {c : Cx} {n : Nat} {l : Sl} {W : List Res} {ops : Array Oper} {Q : Exit → Act → World → Prop} {rest : List Oper}
variable {d : Nat} {T : TypeId} {pos : String} {after : Array Edge}
theorem st_capnil {x : Operand} {t E : TypeId} {ts : List TypeId} (hx : ev l x = some (.slice none 0 0)) (ht : P.underlying t = some (.slice E)) (hn : Nat.blt d n = true)
  (hk : Go c n ((d, N .i64 0) :: l) W (wpList P ops Q rest)) :
  Go c n l W (wpList P ops Q (⟨some d, .call { callee := .builtin .cap, args := #[x], argTypes := (t :: ts).toArray }, T, pos, after, none⟩ :: rest)) :=
 st_val rfl rfl hn (fun a w ha _ => by
  simp [execOp, ha.ev hx, resolve, invoke, builtin, Builtin.cap_, run_underlying ht, goInt]) hk
theorem st_append_mk {x y : Operand} {k : Nat} {t E I : TypeId} {by' : Nat} {z : Value} (hx : ev l x = some (.slice none 0 0)) (hy : ev l y = some (N .i64 k))
  (ht : P.underlying t = some (.slice E)) (hI : P.underlying I = some (.int .i64)) (hz : zrOf P E = some z) (hs : szOf P E = some 1) (hb : byOf P E = some by') (h1 : z.oneCell' = true)
  (hk0 : 0 < k) (hbd : k * by' ≤ 140737488355328) (h63 : k < 9223372036854775808) (hn : Nat.blt d n = true)
  (hk : ∀ s, Go c n ((d, s) :: l) (.sl s (List.replicate k z) E :: W) (wpList P ops Q rest)) :
  Go c n l W (wpList P ops Q (⟨some d, .call { callee := .builtin .append, args := #[x, y], argTypes := #[t, I] }, T, pos, after, none⟩ :: rest)) :=
 st_op rfl rfl hn (Φ := fun u V => V = .sl u (List.replicate k z) E :: W)
  (fun a w ha hw => by
   obtain ⟨i, hi, hz', hs', hb'⟩ := info_of hz hs hb
   have hti : ∀ w, (typeInfo E).run P w = .ok i w := fun w => by simp [typeInfo, hi]
   have hz0 : ∀ w, (zeroValue E).run P w = .ok z w := run_zero hz
   have hty : ∀ w, (underlying t).run P w = .ok (.slice E) w := run_underlying ht
   have htI : ∀ w, (underlying I).run P w = .ok (.int .i64) w := run_underlying hI
   have hw1 : IntKind.i64.wrap (Int.ofNat k) = Int.ofNat k := i64_wrap (by constructor <;> simp only [Int.ofNat_eq_natCast] <;> omega)
   have hl0 : ¬ ((k : Int) < 0) := by omega
   have hl1 : ¬ (281474976710656 < (k : Int) * (i.bytes : Int)) := by
    rw [hb']
    have : ((k * by' : Nat) : Int) ≤ 140737488355328 := by omega
    rw [Int.natCast_mul] at this; omega
   have h63i : ¬ (9223372036854775807 < (k : Int)) := by omega
   have hfit := growslice_fits (need := k) (old := 0) (bytes := by') (by omega) hbd
   have h48 : ¬ (281474976710656 < Builtin.nextslicecap k 0 * i.bytes) := by rw [hb']; omega
   have hcut : k ≤ grownCap w k 0 E := by simp only [grownCap, Question.cut]; omega
   have hzc : ∀ q, Builtin.zeroCells z.cells q = (List.replicate q z).toArray := by
    intro q
    apply Array.ext
    ·simp [Builtin.zeroCells, cells1 h1]
    ·intro j h1' h2'
     simp [Builtin.zeroCells, cells1 h1, Nat.mod_one]
   have hk00 : ¬ k = 0 := by omega
   have hk01 : ¬ k ≤ 0 := by omega
   have hres : (Builtin.append_ #[t, I] T #[Value.slice none 0 0, N .i64 k]).run P w =
     .ok (.slice (some ⟨w.heap.size, 0, none⟩) k (grownCap w k 0 E))
      (w.drew.alloc (.cells (List.replicate k z ++ List.replicate (grownCap w k 0 E - k) z).toArray E)) := by
    have hw1' : IntKind.i64.wrap (k : Int) = (k : Int) := hw1
    simp [Builtin.append_, hty, htI, run_sizeOf hs, asInt, asIntOf, N, hw1', hl0, hl1, hk00, h63i, h48, hti, Question.forced, hz0, newRow, grownCap, Builtin.firstCells, hzc, -List.replicate_append_replicate]
    simp [List.replicate_append_replicate]
   refine ⟨_, _, _, ?_, (hw.drawn (w.drawn + 1)).alloc (o := .cells (List.replicate k z ++ List.replicate (grownCap w k 0 E - k) z).toArray E)
    (r := .sl (.slice (some ⟨w.heap.size, 0, none⟩) k (grownCap w k 0 E)) (List.replicate k z) E) rfl ?_, rfl⟩
   ·simp only [execOp, ha.ev hx, ha.ev hy, resolve, invoke, builtin, Sem.run_bind, Sem.run_pure, Result.andThen_ok, List.map_toArray, List.map_cons, List.map_nil]
    rw [hres]; rfl
   ·exact .inr ⟨w.heap.size, 0, grownCap w k 0 E, [], List.replicate (grownCap w k 0 E - k) z, (0, 0), by simp, by simpa using hcut, by simp; omega, rfl, by simp, by simp⟩)
  (fun u V hV => by subst hV; exact hk u)
theorem RdW.arrAll {b m : Nat} {k : IntKind} {ys : List Nat} {U : TypeId} {R : List Res} (h : Find W (.blk b (LV k ys) U) R) (hm : ys.length = m) : RdW c W (subA b m 0 m) (ys.map (N k)) := by
 have := RdW.arrN (c := c) (lo := 0) (hi := m) h (Nat.zero_le _) (Nat.le_refl _) hm
 rwa [List.drop_zero, List.take_of_length_le (by omega)] at this
theorem st_fact {φ : Act → World → Prop} {p : Prop} (h : ∀ w, SatW c W w → p) (hk : p → Go c n l W φ) : Go c n l W φ := fun a w ha hw => hk (h w hw) a w ha hw
theorem Rd.one {w : World} {s : Value} {xs : List Value} (h : Rd w s xs) : s.oneCell' = true := by
 obtain ⟨a, cap, rfl, _⟩ := h.shape; rfl
theorem RdC.toWin {s : Value} {xs : List Value} {Win R : List Res} {w0 : World} (h : RdC c s xs) (h0 : SatW c W w0) (hS : Split W Win R) : RdC ⟨w0, fps Win⟩ s xs := by
 have h1 := RdC.shift h h0
 refine ⟨h1.rd, fun i hi hm => h1.out i hi ?_⟩
 have hp : (fps W).Perm (fps (Win ++ R)) := hS.perm.flatMap_right _
 refine hp.mem_iff.2 ?_
 simp only [fps, List.flatMap_append, List.mem_append]
 exact .inl hm
def ExtV (P : Program) (f : FuncId) (vs : List Value) (v : Value) : Prop := ∀ w, (callFunc f vs.toArray).run P w = .ok (.value v) w
theorem st_callX {f : FuncId} {x : Operand} {ars : List Operand} {vs : List Value} {ats : Array TypeId} {first captured all : List Value} {v : Value}
  (hx : ev l x = some (.func (.func f) first.toArray captured.toArray)) (ha : evs l ars = some vs) (hall : first ++ vs ++ captured = all)
  (hext : ExtV P f all v) (hn : Nat.blt d n = true) (hk : Go c n ((d, v) :: l) W (wpList P ops Q rest)) :
  Go c n l W (wpList P ops Q (⟨some d, .call { callee := .value x, args := ars.toArray, argTypes := ats }, T, pos, after, none⟩ :: rest)) :=
 st_val rfl rfl hn (fun a w hA _ => by
  subst hall
  have := hext w
  simp only [execOp, resolve, hA.ev hx, Deferred.ofValue, List.map_toArray, hA.evs ha, Sem.run_bind, Sem.run_pure, Result.andThen_ok, invoke, List.append_toArray, this]) hk
end
def add64Entry' : Array Value → Sem Value := fun args => do
 let (x, y, c) ← Extern.MathBitsCarry.three "Add64" args
 pure (Extern.MathBitsCarry.pair ((x + y + c) % Extern.MathBitsCarry.m64) ((x + y + c) / Extern.MathBitsCarry.m64))
def sub64Entry' : Array Value → Sem Value := fun args => do
 let (x, y, b) ← Extern.MathBitsCarry.three "Sub64" args
 pure (Extern.MathBitsCarry.pair ((x + Extern.MathBitsCarry.m64 - y - b) % Extern.MathBitsCarry.m64) (if x < y + b then 1 else 0))
theorem run_add64' {P : Program} (x y b : Nat) (hb : b ≤ 1) (w : World) :
  (add64Entry' #[.int .u64 x, .int .u64 y, .int .u64 b]).run P w =
   .ok (.tuple #[.int .u64 (((x + y + b) % 18446744073709551616 : Nat) : Int), .int .u64 (((x + y + b) / 18446744073709551616 : Nat) : Int)]) w := by
 have : b = 0 ∨ b = 1 := by omega
 rcases this with rfl | rfl <;> rfl
theorem run_sub64' {P : Program} (x y b : Nat) (hb : b ≤ 1) (w : World) :
  (sub64Entry' #[.int .u64 x, .int .u64 y, .int .u64 b]).run P w =
   .ok (.tuple #[.int .u64 (((x + 18446744073709551616 - y - b) % 18446744073709551616 : Nat) : Int), .int .u64 ((if x < y + b then 1 else 0 : Nat) : Int)]) w := by
 have : b = 0 ∨ b = 1 := by omega
 rcases this with rfl | rfl <;> rfl
theorem ext_add64 {P : Program} {f : FuncId} {fn : Func} (hf : P.funcs[f]? = some fn) (hname : (fn.name == "runtime.NumGoroutine") = false)
  (hb : fn.body.isNone = true) (hn : Extern.findNext fn = none) (he : Extern.find fn = some add64Entry') (x y c : Nat) (hc : c ≤ 1) :
  ExtV P f [N .u64 x, N .u64 y, N .u64 c] (.tuple [N .u64 ((x + y + c) % 18446744073709551616), N .u64 ((x + y + c) / 18446744073709551616)].toArray) := fun w => by
 have := run_add64' (P := P) x y c hc w
 rw [run_callFunc_extern hf hname hb hn he]
 simp only [Int.ofNat_eq_natCast, N]
 rw [this]; rfl
theorem ext_sub64 {P : Program} {f : FuncId} {fn : Func} (hf : P.funcs[f]? = some fn) (hname : (fn.name == "runtime.NumGoroutine") = false)
  (hb : fn.body.isNone = true) (hn : Extern.findNext fn = none) (he : Extern.find fn = some sub64Entry') (x y c : Nat) (hc : c ≤ 1) :
  ExtV P f [N .u64 x, N .u64 y, N .u64 c] (.tuple [N .u64 ((x + 18446744073709551616 - y - c) % 18446744073709551616), N .u64 (if x < y + c then 1 else 0)].toArray) := fun w => by
 have := run_sub64' (P := P) x y c hc w
 rw [run_callFunc_extern hf hname hb hn he]
 simp only [Int.ofNat_eq_natCast, N]
 rw [this]; rfl
end Go.Proofs.YtbpmbdlgmmabcaaGreat.L
namespace Go.Proofs.YtbpmbdlgmmabcaaGreat.Sha
def rr (x k : Nat) : Nat := (x >>> k) ||| ((x <<< (32 - k)) % 4294967296)
def s0 (x : Nat) : Nat := rr x 7 ^^^ rr x 18 ^^^ (x >>> 3)
def s1 (x : Nat) : Nat := rr x 17 ^^^ rr x 19 ^^^ (x >>> 10)
def S1 (x : Nat) : Nat := rr x 6 ^^^ rr x 11 ^^^ rr x 25
def S0 (x : Nat) : Nat := rr x 2 ^^^ rr x 13 ^^^ rr x 22
def ch (e f g : Nat) : Nat := g ^^^ (e &&& (f ^^^ g))
def maj (a b c : Nat) : Nat := (a &&& b) ||| (c &&& (a ||| b))
def Kt : List Nat := [
 0x428a2f98, 0x71374491, 0xb5c0fbcf, 0xe9b5dba5, 0x3956c25b, 0x59f111f1, 0x923f82a4, 0xab1c5ed5,
 0xd807aa98, 0x12835b01, 0x243185be, 0x550c7dc3, 0x72be5d74, 0x80deb1fe, 0x9bdc06a7, 0xc19bf174,
 0xe49b69c1, 0xefbe4786, 0x0fc19dc6, 0x240ca1cc, 0x2de92c6f, 0x4a7484aa, 0x5cb0a9dc, 0x76f988da,
 0x983e5152, 0xa831c66d, 0xb00327c8, 0xbf597fc7, 0xc6e00bf3, 0xd5a79147, 0x06ca6351, 0x14292967,
 0x27b70a85, 0x2e1b2138, 0x4d2c6dfc, 0x53380d13, 0x650a7354, 0x766a0abb, 0x81c2c92e, 0x92722c85,
 0xa2bfe8a1, 0xa81a664b, 0xc24b8b70, 0xc76c51a3, 0xd192e819, 0xd6990624, 0xf40e3585, 0x106aa070,
 0x19a4c116, 0x1e376c08, 0x2748774c, 0x34b0bcb5, 0x391c0cb3, 0x4ed8aa4a, 0x5b9cca4f, 0x682e6ff3,
 0x748f82ee, 0x78a5636f, 0x84c87814, 0x8cc70208, 0x90befffa, 0xa4506ceb, 0xbef9a3f7, 0xc67178f2]
def H0 : List Nat := [0x6a09e667, 0xbb67ae85, 0x3c6ef372, 0xa54ff53a, 0x510e527f, 0x9b05688c, 0x1f83d9ab, 0x5be0cd19]
def be4 (blk : List Nat) (t : Nat) : Nat := blk.getD (4 * t) 0 * 16777216 + blk.getD (4 * t + 1) 0 * 65536 + blk.getD (4 * t + 2) 0 * 256 + blk.getD (4 * t + 3) 0
def word (blk ws : List Nat) (t : Nat) : Nat :=
 if t < 16 then be4 blk t
 else (s1 (ws.getD (t - 2) 0) + ws.getD (t - 7) 0 + s0 (ws.getD (t - 15) 0) + ws.getD (t - 16) 0) % 4294967296
def sch (blk : List Nat) : Nat → List Nat
 | 0 => []
 | t + 1 => sch blk t ++ [word blk (sch blk t) t]
def rnd (k w : Nat) : List Nat → List Nat
 | [a, b, c, d, e, f, g, h] =>
  let t1 := (h + S1 e + ch e f g + k + w) % 4294967296
  [(t1 + (S0 a + maj a b c) % 4294967296) % 4294967296, a, b, c, (d + t1) % 4294967296, e, f, g]
 | s => s
def rnds (ws h : List Nat) : Nat → List Nat
 | 0 => h
 | t + 1 => rnd (Kt.getD t 0) (ws.getD t 0) (rnds ws h t)
def addw : List Nat → List Nat → List Nat
 | x :: xs, y :: ys => (x + y) % 4294967296 :: addw xs ys
 | _, _ => []
def step (h blk : List Nat) : List Nat := addw (rnds (sch blk 64) h 64) h
def be8 (x : Nat) : List Nat := [x >>> 56 % 256, x >>> 48 % 256, x >>> 40 % 256, x >>> 32 % 256, x >>> 24 % 256, x >>> 16 % 256, x >>> 8 % 256, x % 256]
def padLen (n : Nat) : Nat := (n + 9 + 63) / 64 * 64
def pad (b : List Nat) : List Nat := b ++ 128 :: List.replicate (padLen b.length - b.length - 9) 0 ++ be8 (8 * b.length)
def fold (p : List Nat) : Nat → List Nat
 | 0 => H0
 | k + 1 => step (fold p k) ((p.drop (64 * k)).take 64)
def bytes (h : List Nat) : List Nat := (List.range 32).map fun i => (h.getD (i / 4) 0 >>> (24 - 8 * (i % 4))) % 256
def sum (b : List Nat) : List Nat := bytes (fold (pad b) (padLen b.length / 64))
def Lt (m : Nat) (xs : List Nat) : Prop := ∀ x ∈ xs, x < m
theorem Lt.getD {m : Nat} {xs : List Nat} (h : Lt m xs) (hm : 0 < m) (i : Nat) : xs.getD i 0 < m := by
 rw [List.getD_eq_getElem?_getD]
 cases hi : xs[i]? with
 | none => simpa using hm
 | some v => exact h v (List.mem_of_getElem? hi)
theorem rr_lt {x : Nat} (k : Nat) (h : x < 4294967296) : rr x k < 4294967296 := by
 unfold rr
 refine Nat.or_lt_two_pow (n := 32) ?_ (Nat.mod_lt _ (by decide))
 rw [Nat.shiftRight_eq_div_pow]
 exact Nat.lt_of_le_of_lt (Nat.div_le_self _ _) h
theorem shr_lt {x : Nat} (k : Nat) (h : x < 4294967296) : x >>> k < 4294967296 := by
 rw [Nat.shiftRight_eq_div_pow]
 exact Nat.lt_of_le_of_lt (Nat.div_le_self _ _) h
theorem xor_lt {x y : Nat} (hx : x < 4294967296) (hy : y < 4294967296) : x ^^^ y < 4294967296 := Nat.xor_lt_two_pow (n := 32) hx hy
theorem or_lt {x y : Nat} (hx : x < 4294967296) (hy : y < 4294967296) : x ||| y < 4294967296 := Nat.or_lt_two_pow (n := 32) hx hy
theorem and_lt {x y : Nat} (hx : x < 4294967296) : x &&& y < 4294967296 := Nat.lt_of_le_of_lt Nat.and_le_left hx
theorem ch_lt {e f g : Nat} (he : e < 4294967296) (hg : g < 4294967296) : ch e f g < 4294967296 := xor_lt hg (and_lt he)
theorem be4_lt {blk : List Nat} (h : Lt 256 blk) (t : Nat) : be4 blk t < 4294967296 := by
 unfold be4
 have h0 := h.getD (by decide) (4 * t)
 have h1 := h.getD (by decide) (4 * t + 1)
 have h2 := h.getD (by decide) (4 * t + 2)
 have h3 := h.getD (by decide) (4 * t + 3)
 omega
theorem word_lt {blk ws : List Nat} (h : Lt 256 blk) (t : Nat) : word blk ws t < 4294967296 := by
 unfold word; split
 ·exact be4_lt h t
 ·exact Nat.mod_lt _ (by decide)
theorem sch_len (blk : List Nat) : ∀ t, (sch blk t).length = t
 | 0 => rfl
 | t + 1 => by simp [sch, sch_len blk t]
theorem sch_lt {blk : List Nat} (h : Lt 256 blk) : ∀ t, Lt 4294967296 (sch blk t)
 | 0 => by simp [sch, Lt]
 | t + 1 => by
  intro x hx
  simp only [sch, List.mem_append, List.mem_singleton] at hx
  rcases hx with hx | rfl
  ·exact sch_lt h t x hx
  ·exact word_lt h t
theorem getD_append_left (xs ys : List Nat) {i : Nat} (h : i < xs.length) : (xs ++ ys).getD i 0 = xs.getD i 0 := by
 simp [List.getD_eq_getElem?_getD, List.getElem?_append_left h]
theorem rnd_len (k w : Nat) : ∀ s : List Nat, (rnd k w s).length = s.length
 | [] => rfl | [_] => rfl | [_, _] => rfl | [_, _, _] => rfl | [_, _, _, _] => rfl | [_, _, _, _, _] => rfl | [_, _, _, _, _, _] => rfl | [_, _, _, _, _, _, _] => rfl
 | [_, _, _, _, _, _, _, _] => rfl
 | _ :: _ :: _ :: _ :: _ :: _ :: _ :: _ :: _ :: _ => rfl
theorem len8 {s : List Nat} (h : s.length = 8) : ∃ a b c d e f g i, s = [a, b, c, d, e, f, g, i] := by
 match s, h with
 | [a, b, c, d, e, f, g, i], _ => exact ⟨a, b, c, d, e, f, g, i, rfl⟩
theorem rnd_lt {k w : Nat} {s : List Nat} (hl : s.length = 8) (h : Lt 4294967296 s) : Lt 4294967296 (rnd k w s) := by
 obtain ⟨a, b, c, d, e, f, g, i, rfl⟩ := len8 hl
 simp only [Lt, rnd, List.mem_cons, List.not_mem_nil, or_false, forall_eq_or_imp, forall_eq] at h ⊢
 obtain ⟨h1, h2, h3, h4, h5, h6, h7, h8⟩ := h
 exact ⟨Nat.mod_lt _ (by decide), h1, h2, h3, Nat.mod_lt _ (by decide), h5, h6, h7⟩
theorem rnds_len (ws h : List Nat) : ∀ t, (rnds ws h t).length = h.length
 | 0 => rfl
 | t + 1 => by simp [rnds, rnd_len, rnds_len ws h t]
theorem rnds_lt {ws h : List Nat} (hl : h.length = 8) (hh : Lt 4294967296 h) : ∀ t, Lt 4294967296 (rnds ws h t)
 | 0 => hh
 | t + 1 => rnd_lt (by rw [rnds_len, hl]) (rnds_lt hl hh t)
theorem addw_len : ∀ {xs ys : List Nat}, xs.length = ys.length → (addw xs ys).length = xs.length
 | [], [], _ => rfl
 | x :: xs, y :: ys, h => by simp [addw, addw_len (xs := xs) (ys := ys) (by simpa using h)]
 | [], _ :: _, h => by simp at h
 | _ :: _, [], h => by simp at h
theorem addw_lt : ∀ xs ys : List Nat, Lt 4294967296 (addw xs ys)
 | [], _ => by simp [addw, Lt]
 | _ :: _, [] => by simp [addw, Lt]
 | x :: xs, y :: ys => by
  intro z hz
  simp only [addw, List.mem_cons] at hz
  rcases hz with rfl | hz
  ·exact Nat.mod_lt _ (by decide)
  ·exact addw_lt xs ys z hz
theorem step_len {h blk : List Nat} (hl : h.length = 8) : (step h blk).length = 8 := by
 unfold step; rw [addw_len (by rw [rnds_len]), rnds_len, hl]
theorem step_lt (h blk : List Nat) : Lt 4294967296 (step h blk) := addw_lt _ _
theorem fold_len (p : List Nat) : ∀ k, (fold p k).length = 8
 | 0 => rfl
 | k + 1 => step_len (fold_len p k)
theorem H0_lt : Lt 4294967296 H0 := by unfold Lt H0; decide
theorem fold_lt (p : List Nat) : ∀ k, Lt 4294967296 (fold p k)
 | 0 => H0_lt
 | _ + 1 => step_lt _ _
theorem bytes_len (h : List Nat) : (bytes h).length = 32 := by simp [bytes]
theorem sum_len (b : List Nat) : (sum b).length = 32 := bytes_len _
theorem bytes_lt (h : List Nat) : Lt 256 (bytes h) := by
 intro x hx
 simp only [bytes, List.mem_map] at hx
 obtain ⟨i, _, rfl⟩ := hx
 exact Nat.mod_lt _ (by decide)
theorem sum_lt (b : List Nat) : Lt 256 (sum b) := bytes_lt _
theorem Kt_len : Kt.length = 64 := by decide
theorem be8_len (x : Nat) : (be8 x).length = 8 := rfl
theorem padLen_le (n : Nat) : n + 9 ≤ padLen n ∧ padLen n ≤ n + 72 ∧ padLen n % 64 = 0 := by unfold padLen; omega
theorem pad_len (b : List Nat) : (pad b).length = padLen b.length := by
 have := padLen_le b.length
 simp [pad, be8_len]; omega
theorem be8_lt (x : Nat) : Lt 256 (be8 x) := by
 intro y hy
 simp only [be8, List.mem_cons, List.not_mem_nil, or_false] at hy
 rcases hy with rfl | rfl | rfl | rfl | rfl | rfl | rfl | rfl <;> exact Nat.mod_lt _ (by decide)
theorem pad_lt {b : List Nat} (h : Lt 256 b) : Lt 256 (pad b) := by
 intro x hx
 simp only [pad, List.mem_append, List.mem_cons, List.mem_replicate] at hx
 rcases hx with (hx | rfl | ⟨_, rfl⟩) | hx
 ·exact h x hx
 ·decide
 ·decide
 ·exact be8_lt _ x hx
theorem ch_other (e f g : Nat) (he : e < 4294967296) (hf : f < 4294967296) (hg : g < 4294967296) : (e &&& f) ^^^ ((4294967295 - e) &&& g) = ch e f g := by
 have hc : 4294967295 - e = 4294967295 ^^^ e := by
  have e1 : ((BitVec.allOnes 32) ^^^ BitVec.ofNat 32 e).toNat = (~~~ BitVec.ofNat 32 e).toNat := by rw [BitVec.allOnes_xor]
  rw [BitVec.toNat_xor, BitVec.toNat_not, BitVec.toNat_allOnes, BitVec.toNat_ofNat, Nat.mod_eq_of_lt he] at e1
  simpa using e1.symm
 rw [hc]
 apply Nat.eq_of_testBit_eq
 intro i
 unfold ch
 simp only [Nat.testBit_xor, Nat.testBit_and]
 have h1 : Nat.testBit 4294967295 i = decide (i < 32) := by
  have := Nat.testBit_two_pow_sub_one 32 i
  simpa using this
 rw [h1]
 by_cases hi : i < 32
 ·simp only [hi, decide_true, Bool.true_bne]
  cases e.testBit i <;> cases f.testBit i <;> cases g.testBit i <;> rfl
 ·have z : ∀ x : Nat, x < 4294967296 → x.testBit i = false := fun x hx => Nat.testBit_lt_two_pow (Nat.lt_of_lt_of_le hx (by
   have : 2 ^ 32 ≤ 2 ^ i := Nat.pow_le_pow_right (by decide) (by omega)
   exact this))
  simp [z e he, z f hf, z g hg]
theorem maj_other (a b c : Nat) : ((a &&& b) ^^^ (a &&& c)) ^^^ (b &&& c) = maj a b c := by
 apply Nat.eq_of_testBit_eq
 intro i
 unfold maj
 simp only [Nat.testBit_xor, Nat.testBit_and, Nat.testBit_or]
 cases a.testBit i <;> cases b.testBit i <;> cases c.testBit i <;> rfl
theorem or_add (x y : Nat) (hy : y < 256) (hx : x < 16777216) : ((x <<< 8) % 4294967296) ||| y = x * 256 + y := by
 rw [Nat.shiftLeft_eq, Nat.mod_eq_of_lt (by omega)]
 have := Nat.shiftLeft_add_eq_or_of_lt (a := x) (b := y) (i := 8) hy
 rw [Nat.shiftLeft_eq] at this
 exact this.symm
theorem neg_turn : ∀ k : Nat, k < 32 → 0 < k → ((-(k : Int) % 18446744073709551616).toNat % 18446744073709551616 &&& 31) = 32 - k := by decide
def pw (blk : List Nat) (t : Nat) : Nat → Nat
 | 0 => 0
 | j + 1 => pw blk t j * 256 + blk.getD (4 * t + j) 0
theorem pw_lt {blk : List Nat} (h : Lt 256 blk) (t : Nat) : ∀ j, pw blk t j < 256 ^ j
 | 0 => by simp [pw]
 | j + 1 => by
  have := pw_lt h t j
  have h2 := h.getD (by decide) (4 * t + j)
  simp only [pw, Nat.pow_succ]; omega
theorem pw_4 (blk : List Nat) (t : Nat) : pw blk t 4 = be4 blk t := by simp only [pw, be4, Nat.add_zero]; omega
theorem pw_0 (blk : List Nat) (t : Nat) : pw blk t 0 = 0 := rfl
theorem pw_succ (blk : List Nat) (t j : Nat) : pw blk t (j + 1) = pw blk t j * 256 + blk.getD (4 * t + j) 0 := rfl
theorem getD_cut (ys : List Nat) (lo hi j : Nat) (h : lo + j < hi) : ((ys.take hi).drop lo).getD j 0 = ys.getD (lo + j) 0 := by
 simp only [List.getD_eq_getElem?_getD, List.getElem?_drop, List.getElem?_take, if_pos h]
theorem getD_at (xs ys : List Nat) (x i : Nat) (h : xs.length = i) : (xs ++ x :: ys).getD i 0 = x := by
 subst h; simp [List.getD_eq_getElem?_getD]
theorem set_at' (xs ys : List Nat) (x y i : Nat) (h : xs.length = i) : (xs ++ x :: ys).set i y = xs ++ y :: ys := by
 subst h; rw [List.set_append_right _ _ (by omega)]; simp
theorem add4 (a b c d : Nat) : (((a + b) % 4294967296 + c) % 4294967296 + d) % 4294967296 = (a + b + c + d) % 4294967296 := by omega
theorem mix_mod (x p q r : Nat) (hx : x < 4294967296) : (rr x p % 4294967296 ^^^ rr x q % 4294967296) % 4294967296 ^^^ x >>> r % 4294967296 = rr x p ^^^ rr x q ^^^ x >>> r := by
 rw [Nat.mod_eq_of_lt (rr_lt p hx), Nat.mod_eq_of_lt (rr_lt q hx), Nat.mod_eq_of_lt (xor_lt (rr_lt p hx) (rr_lt q hx)), Nat.mod_eq_of_lt (shr_lt r hx)]
theorem big_mod (x p q r : Nat) (hx : x < 4294967296) : (rr x p % 4294967296 ^^^ rr x q % 4294967296) % 4294967296 ^^^ rr x r % 4294967296 = rr x p ^^^ rr x q ^^^ rr x r := by
 rw [Nat.mod_eq_of_lt (rr_lt p hx), Nat.mod_eq_of_lt (rr_lt q hx), Nat.mod_eq_of_lt (xor_lt (rr_lt p hx) (rr_lt q hx)), Nat.mod_eq_of_lt (rr_lt r hx)]
theorem add5 (a b c d e : Nat) : ((((a + b) % 4294967296 + c) % 4294967296 + d) % 4294967296 + e) % 4294967296 = (a + b + c + d + e) % 4294967296 := by omega
theorem rep_cons (t : Nat) (h : t < 64) : List.replicate (64 - t) 0 = 0 :: List.replicate (64 - (t + 1)) 0 := by
 rw [show 64 - t = (64 - (t + 1)) + 1 by omega, List.replicate_succ]
theorem sch_0 (blk : List Nat) : sch blk 0 ++ List.replicate (64 - 0) 0 = List.replicate 64 0 := rfl
theorem sch_64 (blk : List Nat) : sch blk 64 ++ List.replicate (64 - 64) 0 = sch blk 64 := by simp
theorem sch_be (blk : List Nat) (t : Nat) (h : t < 16) : sch blk t ++ be4 blk t :: List.replicate (64 - (t + 1)) 0 = sch blk (t + 1) ++ List.replicate (64 - (t + 1)) 0 := by
 simp only [sch, word, if_pos h, List.append_assoc, List.singleton_append]
theorem sch_mix (blk : List Nat) (t : Nat) (h : 16 ≤ t) (h' : t < 64) :
  (sch blk t ++ List.replicate (64 - t) 0).set t ((((rr ((sch blk t).getD (t - 2) 0) 17 ^^^ rr ((sch blk t).getD (t - 2) 0) 19 ^^^ ((sch blk t).getD (t - 2) 0 >>> 10)) + (sch blk t).getD (t - 7) 0 +
   (rr ((sch blk t).getD (t - 15) 0) 7 ^^^ rr ((sch blk t).getD (t - 15) 0) 18 ^^^ ((sch blk t).getD (t - 15) 0 >>> 3)) + (sch blk t).getD (t - 16) 0) % 4294967296)) = sch blk (t + 1) ++ List.replicate (64 - (t + 1)) 0 := by
 rw [rep_cons t h', set_at' _ _ _ _ _ (sch_len blk t)]
 simp only [sch, word, if_neg (show ¬ t < 16 by omega), List.append_assoc, List.singleton_append, s0, s1]
def mixT (ys xs : List Nat) (i : Nat) : List Nat := ys.take i ++ xs.drop i
theorem mixT_len {ys xs : List Nat} (h : ys.length = xs.length) (i : Nat) : (mixT ys xs i).length = xs.length := by simp [mixT]; omega
theorem mixT_0 (ys xs : List Nat) : mixT ys xs 0 = xs := by simp [mixT]
theorem mixT_all {ys xs : List Nat} (h : ys.length = xs.length) : mixT ys xs xs.length = ys := by simp [mixT, ← h]
theorem mixT_getD {ys xs : List Nat} (h : ys.length = xs.length) {i : Nat} (hi : i < xs.length) : (mixT ys xs i).getD i 0 = xs.getD i 0 := by
 simp only [mixT, List.getD_eq_getElem?_getD]
 rw [List.getElem?_append_right (by simp; omega)]
 simp [Nat.min_eq_left (show i ≤ ys.length by omega)]
theorem mix_take {ys xs : List Nat} (h : ys.length = xs.length) {i : Nat} (hi : i < xs.length) : (mixT ys xs i).set i (ys.getD i 0) = mixT ys xs (i + 1) := by
 simp only [mixT]
 have hl : (ys.take i).length = i := by simp; omega
 rw [List.set_append_right _ _ (by omega), hl, Nat.sub_self, List.drop_eq_getElem_cons hi, List.set_cons_zero, List.take_succ_eq_append_getElem (show i < ys.length by omega)]
 simp [List.getD_eq_getElem?_getD, show i < ys.length by omega, -List.take_append_getElem]
theorem addw_getD : ∀ {xs ys : List Nat}, xs.length = ys.length → ∀ {i : Nat}, i < xs.length → (addw xs ys).getD i 0 = (xs.getD i 0 + ys.getD i 0) % 4294967296
 | x :: xs, y :: ys, h, 0, _ => rfl
 | x :: xs, y :: ys, h, i + 1, hi => by
  have := addw_getD (xs := xs) (ys := ys) (by simpa using h) (i := i) (by simpa using hi)
  simpa [addw] using this
 | [], _, _, _, hi => by simp at hi
 | _ :: _, [], h, _, _ => by simp at h
theorem addw_comm : ∀ xs ys : List Nat, addw xs ys = addw ys xs
 | [], [] => rfl
 | [], _ :: _ => rfl
 | _ :: _, [] => rfl
 | x :: xs, y :: ys => by simp only [addw]; rw [Nat.add_comm, addw_comm xs ys]
theorem rnds_0 (ws h : List Nat) : rnds ws h 0 = h := rfl
theorem rnds_succ (ws h : List Nat) (t : Nat) : rnds ws h (t + 1) = rnd (Kt.getD t 0) (ws.getD t 0) (rnds ws h t) := rfl
theorem rnd_def (k w a b c d e f g h : Nat) : rnd k w [a, b, c, d, e, f, g, h] =
  [((h + S1 e + ch e f g + k + w) % 4294967296 + (S0 a + maj a b c) % 4294967296) % 4294967296, a, b, c, (d + (h + S1 e + ch e f g + k + w) % 4294967296) % 4294967296, e, f, g] := rfl
theorem S1_def (x : Nat) : S1 x = rr x 6 ^^^ rr x 11 ^^^ rr x 25 := rfl
theorem S0_def (x : Nat) : S0 x = rr x 2 ^^^ rr x 13 ^^^ rr x 22 := rfl
theorem step_def (h blk : List Nat) : step h blk = addw (rnds (sch blk 64) h 64) h := rfl
theorem ch_mod (e f g : Nat) (he : e < 4294967296) (hf : f < 4294967296) (hg : g < 4294967296) : g % 4294967296 ^^^ (e % 4294967296 &&& (f % 4294967296 ^^^ g % 4294967296) % 4294967296) % 4294967296 = ch e f g := by
 rw [Nat.mod_eq_of_lt he, Nat.mod_eq_of_lt hf, Nat.mod_eq_of_lt hg, Nat.mod_eq_of_lt (xor_lt hf hg), Nat.mod_eq_of_lt (and_lt he)]; rfl
theorem maj_mod (a b c : Nat) (ha : a < 4294967296) (hb : b < 4294967296) (hc : c < 4294967296) : (a % 4294967296 &&& b % 4294967296) % 4294967296 ||| (c % 4294967296 &&& (a % 4294967296 ||| b % 4294967296) % 4294967296) % 4294967296 = maj a b c := by
 rw [Nat.mod_eq_of_lt ha, Nat.mod_eq_of_lt hb, Nat.mod_eq_of_lt hc, Nat.mod_eq_of_lt (or_lt ha hb), Nat.mod_eq_of_lt (and_lt ha), Nat.mod_eq_of_lt (and_lt hc)]; rfl
theorem ch_mod2 (e f g : Nat) (he : e < 4294967296) (hf : f < 4294967296) (hg : g < 4294967296) : (e % 4294967296 &&& f % 4294967296) % 4294967296 ^^^ ((4294967296 - 1 - e % 4294967296) % 4294967296 &&& g % 4294967296) % 4294967296 = ch e f g := by
 have h1 : 4294967296 - 1 - e % 4294967296 = 4294967295 - e := by omega
 have h2 : 4294967295 - e < 4294967296 := by omega
 rw [h1, Nat.mod_eq_of_lt he, Nat.mod_eq_of_lt hf, Nat.mod_eq_of_lt hg, Nat.mod_eq_of_lt h2, Nat.mod_eq_of_lt (and_lt he), Nat.mod_eq_of_lt (and_lt h2)]
 exact ch_other e f g he hf hg
theorem maj_mod2 (a b c : Nat) (ha : a < 4294967296) (hb : b < 4294967296) (hc : c < 4294967296) : ((a % 4294967296 &&& b % 4294967296) % 4294967296 ^^^ (a % 4294967296 &&& c % 4294967296) % 4294967296) % 4294967296 ^^^ (b % 4294967296 &&& c % 4294967296) % 4294967296 = maj a b c := by
 rw [Nat.mod_eq_of_lt ha, Nat.mod_eq_of_lt hb, Nat.mod_eq_of_lt hc, Nat.mod_eq_of_lt (and_lt ha), Nat.mod_eq_of_lt (and_lt ha), Nat.mod_eq_of_lt (and_lt hb), Nat.mod_eq_of_lt (xor_lt (and_lt ha) (and_lt ha))]
 exact maj_other a b c
theorem big_mod2 (x p q r : Nat) (hx : x < 4294967296) : (rr x p % 4294967296 ^^^ rr x q % 4294967296) % 4294967296 ^^^ rr x r % 4294967296 = rr x p ^^^ rr x q ^^^ rr x r := big_mod x p q r hx
theorem be4_def (blk : List Nat) (t : Nat) : be4 blk t = blk.getD (4 * t) 0 * 16777216 + blk.getD (4 * t + 1) 0 * 65536 + blk.getD (4 * t + 2) 0 * 256 + blk.getD (4 * t + 3) 0 := rfl
def tail8 (K i : Nat) : List Nat := List.replicate (8 - i) 0 ++ (be8 K).drop (8 - i)
theorem tail8_set (K i : Nat) (h : i < 8) : (tail8 K i).set (7 - i) ((K >>> (8 * i)) % 256) = tail8 K (i + 1) := by
 match i, h with
 | 0, _ => simp [tail8, be8, List.replicate]
 | 1, _ => simp [tail8, be8, List.replicate]
 | 2, _ => simp [tail8, be8, List.replicate]
 | 3, _ => simp [tail8, be8, List.replicate]
 | 4, _ => simp [tail8, be8, List.replicate]
 | 5, _ => simp [tail8, be8, List.replicate]
 | 6, _ => simp [tail8, be8, List.replicate]
 | 7, _ => simp [tail8, be8]
theorem tail8_len (K i : Nat) : (tail8 K i).length = 8 := by simp [tail8, be8]
def padA (b : List Nat) : List Nat := b ++ 128 :: List.replicate (padLen b.length - b.length - 9) 0
theorem padA_len (b : List Nat) : (padA b).length = padLen b.length - 8 := by
 have := padLen_le b.length
 simp [padA]; omega
theorem pad_eq (b : List Nat) : padA b ++ tail8 (8 * b.length) 8 = pad b := by simp [padA, tail8, pad]
theorem pad_start (b : List Nat) (K : Nat) : (b.take (padLen b.length) ++ (List.replicate (padLen b.length) 0).drop (min b.length (padLen b.length))).set b.length 128 = padA b ++ tail8 K 0 := by
 have := padLen_le b.length
 rw [List.take_of_length_le (by omega), Nat.min_eq_left (by omega), List.drop_replicate, show padLen b.length - b.length = (padLen b.length - b.length - 9) + 8 + 1 by omega, List.replicate_succ, set_at' _ _ _ _ _ rfl]
 have e : List.replicate (padLen b.length - b.length - 9 + 8) 0 = List.replicate (padLen b.length - b.length - 9) 0 ++ List.replicate 8 0 := by rw [List.replicate_append_replicate]
 rw [e]
 simp [padA, tail8, be8]
theorem pad_set (b : List Nat) (K i : Nat) (h : i < 8) : (padA b ++ tail8 K i).set (padLen b.length - 1 - i) ((K >>> (8 * i)) % 256) = padA b ++ tail8 K (i + 1) := by
 have := padLen_le b.length
 have hl := padA_len b
 rw [List.set_append_right _ _ (by omega), hl, show padLen b.length - 1 - i - (padLen b.length - 8) = 7 - i by omega, tail8_set K i h]
theorem padLen_def (n : Nat) : (n + 9 + 63) / 64 * 64 = padLen n := rfl
theorem rpad_succ (b : List Nat) (j : Nat) : (b ++ 128 :: List.replicate j 0) ++ [0] = b ++ 128 :: List.replicate (j + 1) 0 := by
 rw [List.append_assoc, List.cons_append, ← List.replicate_succ']
theorem rpad_end (b : List Nat) {j : Nat} (h : j = padLen b.length - b.length - 9) : b ++ 128 :: List.replicate j 0 = padA b ++ (be8 (8 * b.length)).take 0 := by
 subst h; simp [padA]
theorem rpad_be (b : List Nat) (K i : Nat) (h : i < 8) : (padA b ++ (be8 K).take i) ++ [(K >>> (8 * (7 - i))) % 256] = padA b ++ (be8 K).take (i + 1) := by
 rw [List.append_assoc]
 congr 1
 match i, h with
 | 0, _ => simp [be8]
 | 1, _ => simp [be8]
 | 2, _ => simp [be8]
 | 3, _ => simp [be8]
 | 4, _ => simp [be8]
 | 5, _ => simp [be8]
 | 6, _ => simp [be8]
 | 7, _ => simp [be8]
theorem rpad_all (b : List Nat) : padA b ++ (be8 (8 * b.length)).take 8 = pad b := by simp [padA, pad, be8]
theorem be8_take_len (K i : Nat) (h : i ≤ 8) : ((be8 K).take i).length = i := by simp [be8]; omega
theorem cut_len (p : List Nat) (k : Nat) (h : 64 * k + 64 ≤ p.length) : ((p.drop (64 * k)).take 64).length = 64 := by simp; omega
theorem cut_lt {m : Nat} {p : List Nat} (h : Lt m p) (k : Nat) : Lt m ((p.drop (64 * k)).take 64) := fun x hx => h x (List.mem_of_mem_drop (List.mem_of_mem_take hx))
theorem fold_0 (p : List Nat) : fold p 0 = H0 := rfl
theorem fold_succ (p : List Nat) (k : Nat) : fold p (k + 1) = step (fold p k) ((p.drop (64 * k)).take 64) := rfl
theorem bytes_getD (h : List Nat) {i : Nat} (hi : i < 32) : (bytes h).getD i 0 = (h.getD (i / 4) 0 >>> (24 - 8 * (i % 4))) % 256 := by
 simp [bytes, List.getD_eq_getElem?_getD, hi]
theorem sum_def (b : List Nat) : sum b = bytes (fold (pad b) (padLen b.length / 64)) := rfl
attribute [irreducible] rr s0 s1 S0 S1 ch maj be4 word sch rnd rnds addw step be8 padLen pad fold bytes sum pw tail8 padA mixT
end Go.Proofs.YtbpmbdlgmmabcaaGreat.Sha
namespace Go.Proofs.YtbpmbdlgmmabcaaGreat.L
open Go Go.Proofs
set_option maxRecDepth 100000
attribute [local irreducible] Code.wp wpList Af bodyPost L.Go
open Sha
/-- What is left to show. -/
structure Rm (p : Prop) : Prop where
 h : p
theorem y_0 {a b : Prop} (k : b) (h : Rm b → a := by intro k;(first|refine Z01 ?_|refine Z02 ?_|refine Z03 ?_|refine Z04 ?_|refine Z05 ?_|refine Z06 ?_|refine Z07 ?_|refine Z08 ?_|refine Z09 ?_|refine Z10 ?_|refine Z11 ?_|refine Z12 ?_|refine Z13 ?_|refine Z14 ?_|refine Z34 ?_|refine Z40 ?_|refine Z41 ?_|refine Z42 ?_|refine Z43 ?_|refine Z44 ?_|refine Z45 ?_|refine Z74 ?_|refine Z80 ?_);exact k.h) : a := h ⟨k⟩
theorem rotl_spec (x k : Nat) (hx : x < 4294967296) (hk0 : 0 < k) (hk : k < 32) :
  Spec Tryz.prog 141 [N .u32 x, .int .i64 (-(k : Int))] NoPre [] (IsV (N .u32 (rr x k))) := by
 refine mk_spec Tryz.func141 rfl rfl rfl fun w _ => ?_
 have e := neg_turn k hk hk0
 repeat (first|refine y_0 ?_)
 have e' : ((-(k : Int) % ((18446744073709551616 : Nat) : Int)).toNat % 18446744073709551616 &&& 31 % 18446744073709551616) = 32 - k := e
 rw [e']
 have e2 : (32 + (18446744073709551616 - (32 - k) % 18446744073709551616)) % 18446744073709551616 = k := by omega
 rw [e2]
 repeat (first|refine y_0 ?_)
 refine Ze1 fun _ hw => post_of hw SubW.nil ⟨?_, rfl⟩
 rw [show (4294967296 : Nat) = 2 ^ 32 from rfl, Nat.mod_mod, Nat.mod_eq_of_lt (shr_lt k hx), Nat.or_comm]
 unfold rr; rfl
theorem y_1 {a b : Prop} (k : b) (h : Rm b → a := by intro k;(first|refine Z01 ?_|refine Z02 ?_|refine Z03 ?_|refine Z04 ?_|refine Z05 ?_|refine Z06 ?_|refine Z07 ?_|refine Z08 ?_|refine Z09 ?_|refine Z10 ?_|refine Z11 ?_|refine Z12 ?_|refine Z13 ?_|refine Z14 ?_|refine Z34 ?_|refine Z41 ?_|refine Z42 ?_|refine Z43 ?_);exact k.h) : a := h ⟨k⟩
theorem turn_spec (x k : Nat) (hx : x < 4294967296) (hk : k < 32) :
  Spec Tryz.prog 134 [N .u32 x, N .u64 k] NoPre [] (IsV (N .u32 (rr x k))) := by
 refine mk_spec Tryz.func134 rfl rfl rfl fun w _ => ?_
 repeat (first|refine y_1 ?_)
 have e2 : (32 + (18446744073709551616 - k % 18446744073709551616)) % 18446744073709551616 = 32 - k := by omega
 rw [e2]
 repeat (first|refine y_1 ?_)
 refine Ze1 fun _ hw => post_of hw SubW.nil ⟨?_, rfl⟩
 rw [Nat.mod_mod, Nat.mod_eq_of_lt (shr_lt k hx)]
 unfold rr; rfl
theorem y_2 {a b : Prop} (k : b) (h : Rm b → a := by intro k;(first|refine Z01 ?_|refine Z02 ?_|refine Z03 ?_|refine Z04 ?_|refine Z05 ?_|refine Z06 ?_|refine Z07 ?_|refine Z08 ?_|refine Z09 ?_|refine Z10 ?_|refine Z11 ?_|refine Z12 ?_|refine Z13 ?_|refine Z14 ?_|refine Z39 ?_|refine Z42 ?_|refine Z72 ?_|refine Z73 ?_);exact k.h) : a := h ⟨k⟩
theorem y_3 {S1 a b : Prop} (s1 : S1) (k : b) (h : S1 → Rm b → a := by intro s1 k;refine st_callV (by rfl) (by rfl) (by rfl) s1 (fun _ _ => trivial) (by rfl) ?_;exact k.h) : a := h s1 ⟨k⟩
theorem mixed_spec (x p q r : Nat) (hx : x < 4294967296) (hp : 0 < p ∧ p < 32) (hq : 0 < q ∧ q < 32) (hr : r < 32) :
  Spec Tryz.prog 143 [N .u32 x, N .i64 p, N .i64 q, N .i64 r] NoPre [] (IsV (N .u32 (rr x p ^^^ rr x q ^^^ (x >>> r)))) := by
 refine mk_spec Tryz.func143 rfl rfl rfl fun w _ => ?_
 repeat (first|refine y_2 ?_)
 refine st_draw1 (by rfl) ?_
 repeat (first|(refine Zqf (by intro _ _ _;(first|refine y_3 (rotl_spec x p hx hp.1 hp.2) ?_|refine y_3 (rotl_spec x q hx hq.1 hq.2) ?_|refine Z01 ?_|refine Z02 ?_|refine Z39 ?_|refine Z42 ?_|refine Z72 ?_|refine Z73 ?_);exact Zq) ?_)|refine Zqn ?_)
 refine Zq0 ?_ (by kernel_rfl)
 repeat (first|refine y_2 ?_)
 refine Ze1 fun _ hw => post_of hw SubW.nil ⟨?_, rfl⟩
 rw [Nat.mod_eq_of_lt (rr_lt p hx), Nat.mod_eq_of_lt (rr_lt q hx), Nat.mod_eq_of_lt (xor_lt (rr_lt p hx) (rr_lt q hx)), Nat.mod_eq_of_lt (shr_lt r hx)]
theorem big_spec (x p q r : Nat) (hx : x < 4294967296) (hp : 0 < p ∧ p < 32) (hq : 0 < q ∧ q < 32) (hr : 0 < r ∧ r < 32) :
  Spec Tryz.prog 140 [N .u32 x, N .i64 p, N .i64 q, N .i64 r] NoPre [] (IsV (N .u32 (rr x p ^^^ rr x q ^^^ rr x r))) := by
 refine mk_spec Tryz.func140 rfl rfl rfl fun w _ => ?_
 repeat (first|refine y_3 (rotl_spec x p hx hp.1 hp.2) ?_|refine y_3 (rotl_spec x q hx hq.1 hq.2) ?_|refine y_3 (rotl_spec x r hx hr.1 hr.2) ?_|refine Z01 ?_|refine Z02 ?_|refine Z03 ?_|refine Z04 ?_|refine Z05 ?_|refine Z06 ?_|refine Z07 ?_|refine Z08 ?_|refine Z09 ?_|refine Z10 ?_|refine Z11 ?_|refine Z12 ?_|refine Z13 ?_|refine Z14 ?_|refine Z39 ?_|refine Z72 ?_|refine Z73 ?_)
 refine Ze1 fun _ hw => post_of hw SubW.nil ⟨?_, rfl⟩
 rw [Nat.mod_eq_of_lt (rr_lt p hx), Nat.mod_eq_of_lt (rr_lt q hx), Nat.mod_eq_of_lt (xor_lt (rr_lt p hx) (rr_lt q hx)), Nat.mod_eq_of_lt (rr_lt r hx)]
theorem y_4 {a b : Prop} (k : b) (h : Rm b → a := by intro k;refine st_alloc (v := LV .u32 (List.replicate 8 0)) (by rfl) (by rfl) ?_;exact k.h) : a := h ⟨k⟩
theorem y_5 {a b : Prop} (k : b) (h : Rm b → a := by intro k;(first|refine Z03 ?_|refine Z04 ?_|refine Z05 ?_|refine Z06 ?_|refine Z07 ?_|refine Z08 ?_|refine Z09 ?_|refine Z10 ?_|refine Z11 ?_|refine Z12 ?_|refine Z13 ?_|refine Z14 ?_|refine Z29 ?_|refine Z30 ?_|refine Z31 ?_|refine Z32 ?_|refine Z65 ?_);exact k.h) : a := h ⟨k⟩
theorem begin_spec : Spec Tryz.prog 129 [] NoPre [] (IsV (LV .u32 H0)) := by
 refine mk_spec Tryz.func129 rfl rfl rfl fun w _ => ?_
 repeat (first|(refine y_4 ?_;intro _)|refine st_build_arr (vs := H0.map (N .u32)) (by rfl) (by rfl) (by rfl) (by rfl) (by rfl) (by rfl) (by rfl) (by rfl) (by rfl) ?_|refine y_5 ?_|refine Z82 fun _ => ?_)
 refine Zec fun _ hw => post_of hw SubW.nil ⟨?_, rfl⟩
 rfl
theorem rbegin_spec : Spec Tryz.prog 103 [] NoPre [] (IsV (LV .u32 H0)) := by
 refine mk_spec Tryz.func103 rfl rfl rfl fun w _ => ?_
 repeat (first|(refine y_4 ?_;intro _)|refine st_build_arr (vs := H0.map (N .u32)) (by rfl) (by rfl) (by rfl) (by rfl) (by rfl) (by rfl) (by rfl) (by rfl) (by rfl) ?_|refine y_5 ?_|refine Z82 fun _ => ?_)
 refine Zec fun _ hw => post_of hw SubW.nil ⟨?_, rfl⟩
 rfl
theorem y_6 {a b : Prop} (k : b) (h : Rm b → a := by intro k;refine st_alloc (v := LV .u32 (List.replicate 64 0)) (by rfl) (by rfl) ?_;exact k.h) : a := h ⟨k⟩
theorem k_spec (t : Nat) (ht : t < 64) : Spec Tryz.prog 135 [N .i64 t] NoPre [] (IsV (N .u32 (Kt.getD t 0))) := by
 refine mk_spec Tryz.func135 rfl rfl rfl fun w _ => ?_
 have hK := Kt_len
 repeat (first|(refine y_6 ?_;intro _)|refine st_build_arr (vs := Kt.map (N .u32)) (by rfl) (by rfl) (by rfl) (by rfl) (by rfl) (by rfl) (by rfl) (by rfl) (by rfl) ?_|refine Z01 ?_|refine Z02 ?_|refine Z03 ?_|refine Z04 ?_|refine Z05 ?_|refine Z06 ?_|refine Z07 ?_|refine Z08 ?_|refine Z09 ?_|refine Z10 ?_|refine Z11 ?_|refine Z12 ?_|refine Z13 ?_|refine Z14 ?_|refine Z22 ?_|refine Z23 ?_|refine Z24 ?_|refine Z25 ?_|refine Z26 ?_|refine Z27 ?_|refine Z28 ?_|refine Z29 ?_|refine Z30 ?_|refine Z31 ?_|refine Z32 ?_|refine Z65 ?_|refine Z67 ?_|refine Z82 fun _ => ?_)
 refine Ze1 fun _ hw => post_of hw SubW.nil ⟨?_, rfl⟩
 rfl
end Go.Proofs.YtbpmbdlgmmabcaaGreat.L
namespace Go.Proofs.YtbpmbdlgmmabcaaGreat.L
open Go Go.Proofs
set_option maxRecDepth 100000
attribute [local irreducible] Code.wp wpList Af bodyPost L.Go
open Sha
theorem y_7 {a b : Prop} (k : b) (h : Rm b → a := by intro k;(first|refine Z01 ?_|refine Z02 ?_|refine Z03 ?_|refine Z04 ?_|refine Z05 ?_|refine Z06 ?_|refine Z07 ?_|refine Z08 ?_|refine Z09 ?_|refine Z10 ?_|refine Z11 ?_|refine Z12 ?_|refine Z13 ?_|refine Z14 ?_|refine Z15 ?_|refine Z16 ?_|refine Z17 ?_|refine Z18 ?_|refine Z20 ?_|refine Z21 ?_|refine Z22 ?_|refine Z23 ?_|refine Z24 ?_|refine Z25 ?_|refine Z26 ?_|refine Z27 ?_|refine Z28 ?_|refine Z29 ?_|refine Z30 ?_|refine Z31 ?_|refine Z32 ?_|refine Z33 ?_|refine Z36 ?_|refine Z41 ?_|refine Z43 ?_|refine Z44 ?_|refine Z45 ?_|refine Z46 ?_|refine Z47 ?_|refine Z58 ?_|refine Z59 ?_|refine Z62 ?_|refine Z63 ?_|refine Z64 ?_|refine Z67 ?_|refine Z70 ?_|refine Z71 ?_|refine Z74 ?_|refine Z80 ?_);exact k.h) : a := h ⟨k⟩
theorem y_8 {a b : Prop} (k : b) (h : Rm b → a := by intro k;refine SubW.cons (by repeat first|apply Find.here|apply Find.there) ?_;exact k.h) : a := h ⟨k⟩
theorem y_9 {a b : Prop} (k : b) (h : Rm b → a := by intro k;(first|refine Z24 ?_|refine Z25 ?_|refine Z26 ?_|refine Z27 ?_|refine Z28 ?_|refine Z67 ?_|refine Z23 ?_|refine Z20 ?_|refine Z21 ?_|refine Z62 ?_);exact k.h) : a := h ⟨k⟩
theorem y_10 {a b : Prop} (k : b) (h : Rm b → a := by intro k;(first|refine Z29 ?_|refine Z30 ?_|refine Z31 ?_|refine Z32 ?_);exact k.h) : a := h ⟨k⟩
theorem y_185 {a b : Prop} (k : b) (h : Rm b → a := by intro k;refine Zqe (by intro _ _ _;(first|refine y_10 ?_);exact Zqq) ?_;exact k.h) : a := h ⟨k⟩
set_option maxHeartbeats 1000000 in
theorem schedule_spec (bb : Nat) (U : TypeId) (blk : List Nat) (hl : blk.length = 64) (hb : Lt 256 blk) :
  Spec Tryz.prog 139 [pt bb 0] NoPre [.blk bb (LV .u8 blk) U] (fun v W => v = LV .u32 (sch blk 64) ∧ W = [.blk bb (LV .u8 blk) U]) := by
 refine mk_spec Tryz.func139 rfl rfl rfl fun w _ => ?_
 repeat (first|(refine y_6 ?_;intro _)|refine y_7 ?_|refine Z82 fun _ => ?_)
 rename_i b
 refine st_loop (ι := Nat) (fun t => t ≤ 16) (fun t => [(0, pt bb 0), (2, pt b 0), (8, N .i64 t)]) (fun t => [.blk b (LV .u32 (sch blk t ++ List.replicate (64 - t) 0)) 116, .blk bb (LV .u8 blk) U]) (fun t => 16 - t) 0 (by omega) (by repeat (first|apply subL.nil|refine subL.cons (by rfl) ?_)) (by rw [sch_0]; exact (by repeat (first|apply SubW.nil|refine y_8 ?_))) ?_
 intro t ht
 have hsl := sch_len blk t
 repeat (first|refine y_7 ?_|refine Z82 fun _ => ?_)
 refine st_cond (by rfl) (fun h => ?_) (fun h => ?_)
 ·have hcut : (List.drop (4 * t) (List.take (4 * t + 4) blk)).length = 4 := by simp; omega
  repeat (first|refine y_7 ?_|refine Z82 fun _ => ?_)
  rw [hcut]
  repeat (first|refine y_7 ?_|refine Z82 fun _ => ?_)
  refine st_loop (ι := Nat) (fun j => j ≤ 4) (fun j => [(0, pt bb 0), (2, pt b 0), (3, N .i64 t), (8, N .i64 t), (18, subA bb 64 (4 * t) (4 * t + 4)), (19, N .i64 4), (20, N .i64 j)])
   (fun j => [.blk b (LV .u32 (sch blk t ++ pw blk t j :: List.replicate (64 - (t + 1)) 0)) 116, .blk bb (LV .u8 blk) U]) (fun j => 4 - j) 0 (by omega) (by repeat (first|apply subL.nil|refine subL.cons (by rfl) ?_)) ?_ ?_
  ·rw [pw_0, ← rep_cons t (by omega)]
   exact (by repeat (first|apply SubW.nil|refine y_8 ?_))
  intro j hj
  repeat (first|refine y_7 ?_|refine Z82 fun _ => ?_)
  refine st_cond (by rfl) (fun h' => ?_) (fun h' => ?_)
  ·have hcl : (List.drop (4 * t) (List.take (4 * t + 4) blk)).length = 4 := by simp; omega
   repeat (first|refine y_7 ?_|refine Z82 fun _ => ?_)
   rw [getD_cut _ _ _ _ (by omega), getD_at _ _ _ _ hsl, set_at' _ _ _ _ _ hsl]
   have h1 := pw_lt hb t j
   have h2 := hb.getD (by decide) (4 * t + j)
   have h3 : 256 ^ j ≤ 16777216 := by
    have : j ≤ 3 := by omega
    exact Nat.le_trans (Nat.pow_le_pow_right (by decide) this) (by decide)
   rw [Nat.mod_mod, Nat.mod_eq_of_lt (a := blk.getD (4 * t + j) 0 % 4294967296) (Nat.mod_lt _ (by decide)), Nat.mod_eq_of_lt (a := blk.getD (4 * t + j) 0) (by omega), or_add _ _ h2 (by omega), ← pw_succ]
   repeat (first|refine y_7 ?_|refine Z82 fun _ => ?_)
   exact st_round (j + 1) (by omega) (by omega) (by repeat (first|apply subL.nil|refine subL.cons (by rfl) ?_)) (by repeat (first|apply SubW.nil|refine y_8 ?_))
  ·repeat (first|refine y_7 ?_|refine Z82 fun _ => ?_)
   have hj4 : j = 4 := by omega
   subst hj4
   rw [pw_4]
   refine st_round (t + 1) (by omega) (by omega) (by repeat (first|apply subL.nil|refine subL.cons (by rfl) ?_)) ?_
   rw [← sch_be blk t h]
   exact (by repeat (first|apply SubW.nil|refine y_8 ?_))
 ·have ht16 : t = 16 := by omega
  subst ht16
  repeat (first|refine y_7 ?_|refine Z82 fun _ => ?_)
  refine st_loop (ι := Nat) (fun t => 16 ≤ t ∧ t ≤ 64) (fun t => [(0, pt bb 0), (2, pt b 0), (6, .func (.func 143) #[] #[]), (7, N .i64 t)])
   (fun t => [.blk b (LV .u32 (sch blk t ++ List.replicate (64 - t) 0)) 116, .blk bb (LV .u8 blk) U]) (fun t => 64 - t) 16 (by omega) (by repeat (first|apply subL.nil|refine subL.cons (by rfl) ?_)) (by repeat (first|apply SubW.nil|refine y_8 ?_)) ?_
  intro t ⟨ht, ht'⟩
  have hsl := sch_len blk t
  have hlt := sch_lt hb t
  repeat (first|refine y_7 ?_|refine Z82 fun _ => ?_)
  refine st_cond (by rfl) (fun h => ?_) (fun h => ?_)
  ·have g : ∀ i, 0 < i → i ≤ 16 → (sch blk t ++ List.replicate (64 - t) 0).getD (t - i) 0 = (sch blk t).getD (t - i) 0 := fun i h0 h1 => getD_append_left _ _ (by omega)
   have gl : ∀ i, (sch blk t).getD i 0 < 4294967296 := fun i => hlt.getD (by decide) i
   repeat (first|refine y_7 ?_|refine Z82 fun _ => ?_)
   refine st_draw1 (by rfl) ?_
   repeat (first|(refine Zqf (by intro _ _ _;(first|(refine st_callV (by rfl) (by rfl) (by rfl) (mixed_spec _ 17 19 10 (by rw [g 2 (by omega) (by omega)]; exact gl _) (by omega) (by omega) (by omega)) (fun _ _ => trivial) (by rfl) ?_)|(refine st_callV (by rfl) (by rfl) (by rfl) (mixed_spec _ 7 18 3 (by rw [g 15 (by omega) (by omega)]; exact gl _) (by omega) (by omega) (by omega)) (fun _ _ => trivial) (by rfl) ?_)|refine Z01 ?_|refine Z02 ?_|refine Z15 ?_|refine Z16 ?_|refine Z17 ?_|refine Z18 ?_|refine Z20 ?_|refine Z21 ?_|refine Z22 ?_|refine Z23 ?_|refine Z33 ?_|refine Z36 ?_|refine Z41 ?_|refine Z43 ?_|refine Z44 ?_|refine Z45 ?_|refine Z46 ?_|refine Z47 ?_|refine Z58 ?_|refine Z59 ?_|refine Z62 ?_|refine Z63 ?_|refine Z64 ?_|refine Z70 ?_|refine Z71 ?_|refine Z74 ?_|refine Z80 ?_);exact Zq) ?_)|(refine Zqp (by intro _ _ _;(first|refine y_9 ?_);exact Zq) ?_)|refine y_185 ?_|refine Zqn ?_)
   refine Zq0 ?_ (by kernel_rfl)
   repeat (first|refine y_7 ?_|refine Z82 fun _ => ?_)
   refine st_round (t + 1) (by omega) (by omega) (by repeat (first|apply subL.nil|refine subL.cons (by rfl) ?_)) ?_
   rw [g 2 (by omega) (by omega), g 7 (by omega) (by omega), g 15 (by omega) (by omega), g 16 (by omega) (by omega)]
   rw [add4, sch_mix blk t ht h]
   exact (by repeat (first|apply SubW.nil|refine y_8 ?_))
  ·have ht64 : t = 64 := by omega
   subst ht64
   repeat (first|refine y_7 ?_|refine Z82 fun _ => ?_)
   rw [sch_64]
   refine Zec fun _ hw => post_of hw (Wout := [.blk bb (LV .u8 blk) U]) ?_ ?_
   ·exact (by repeat (first|apply SubW.nil|refine y_8 ?_))
   ·exact ⟨rfl, rfl⟩
theorem y_11 {a b : Prop} (k : b) (h : Rm b → a := by intro k;(first|refine Z01 ?_|refine Z02 ?_|refine Z03 ?_|refine Z04 ?_|refine Z05 ?_|refine Z06 ?_|refine Z07 ?_|refine Z08 ?_|refine Z09 ?_|refine Z10 ?_|refine Z11 ?_|refine Z12 ?_|refine Z13 ?_|refine Z14 ?_|refine Z15 ?_|refine Z16 ?_|refine Z17 ?_|refine Z18 ?_|refine Z22 ?_|refine Z23 ?_|refine Z24 ?_|refine Z25 ?_|refine Z26 ?_|refine Z27 ?_|refine Z28 ?_|refine Z29 ?_|refine Z30 ?_|refine Z31 ?_|refine Z32 ?_|refine Z33 ?_|refine Z36 ?_|refine Z39 ?_|refine Z42 ?_|refine Z43 ?_|refine Z44 ?_|refine Z45 ?_|refine Z67 ?_|refine Z70 ?_|refine Z71 ?_|refine Z74 ?_|refine Z80 ?_);exact k.h) : a := h ⟨k⟩
theorem y_12 {a b : Prop} (k : b) (h : Rm b → a := by intro k;(first|refine Z01 ?_|refine Z02 ?_|refine Z15 ?_|refine Z16 ?_|refine Z17 ?_|refine Z18 ?_|refine Z22 ?_|refine Z23 ?_|refine Z33 ?_|refine Z36 ?_|refine Z39 ?_|refine Z42 ?_|refine Z43 ?_|refine Z44 ?_|refine Z45 ?_|refine Z70 ?_|refine Z71 ?_|refine Z74 ?_|refine Z80 ?_);exact k.h) : a := h ⟨k⟩
theorem y_13 {a b : Prop} (k : b) (h : Rm b → a := by intro k;(first|refine Z24 ?_|refine Z25 ?_|refine Z26 ?_|refine Z27 ?_|refine Z28 ?_|refine Z67 ?_|refine Z23 ?_);exact k.h) : a := h ⟨k⟩
theorem y_186 {a b : Prop} (k : b) (h : Rm b → a := by intro k;refine Zqp (by intro _ _ _;(first|refine y_13 ?_);exact Zq) ?_;exact k.h) : a := h ⟨k⟩
theorem rschedule_spec (blk : List Nat) (hl : blk.length = 64) (hb : Lt 256 blk) :
  Spec Tryz.prog 133 [LV .u8 blk] NoPre [] (IsV (LV .u32 (sch blk 64))) := by
 refine mk_spec Tryz.func133 rfl rfl rfl fun w _ => ?_
 repeat (first|(refine y_6 ?_;intro _)|refine y_11 ?_|refine Z81 fun _ => ?_|refine Z82 fun _ => ?_)
 rename_i b b2 b3
 refine st_loop (ι := Nat) (fun t => t ≤ 64) (fun t => [(1, pt b 0), (2, pt b2 0), (3, pt b3 0), (4, N .i64 t)]) (fun t => [.blk b3 (LV .u32 (sch blk t ++ List.replicate (64 - t) 0)) 116, .blk b2 (LV .u32 (List.replicate 64 0)) 116, .blk b (LV .u8 blk) 97]) (fun t => 64 - t) 0 (by omega) (by repeat (first|apply subL.nil|refine subL.cons (by rfl) ?_)) (by rw [sch_0]; exact (by repeat (first|apply SubW.nil|refine y_8 ?_))) ?_
 intro t ht
 have hsl := sch_len blk t
 have hlt := sch_lt hb t
 repeat (first|refine y_11 ?_|refine Z81 fun _ => ?_|refine Z82 fun _ => ?_)
 refine st_cond (by rfl) (fun h => ?_) (fun h => ?_)
 ·repeat (first|refine y_11 ?_|refine Z81 fun _ => ?_|refine Z82 fun _ => ?_)
  refine st_cond (by rfl) (fun h16 => ?_) (fun h16 => ?_)
  ·repeat (first|refine y_11 ?_|refine Z81 fun _ => ?_|refine Z82 fun _ => ?_)
   refine st_draw1 (by rfl) ?_
   repeat (first|(refine Zqf (by intro _ _ _;(first|refine y_12 ?_);exact Zq) ?_)|refine y_186 ?_|refine y_185 ?_|refine Zqn ?_)
   refine Zq0 ?_ (by kernel_rfl)
   repeat (first|refine y_11 ?_|refine Z81 fun _ => ?_|refine Z82 fun _ => ?_)
   have h0 := hb.getD (by decide) (4 * t)
   have h1 := hb.getD (by decide) (4 * t + 1)
   have h2 := hb.getD (by decide) (4 * t + 2)
   have h3 := hb.getD (by decide) (4 * t + 3)
   have e : ((((blk.getD (4 * t) 0 % 4294967296) <<< 24 % 4294967296 + (blk.getD (4 * t + 1) 0 % 4294967296) <<< 16 % 4294967296) % 4294967296 + (blk.getD (4 * t + 2) 0 % 4294967296) <<< 8 % 4294967296) % 4294967296 + blk.getD (4 * t + 3) 0 % 4294967296) % 4294967296 = be4 blk t := by
    rw [be4_def]; simp only [Nat.shiftLeft_eq]; omega
   rw [e, rep_cons t h, set_at' _ _ _ _ _ hsl, sch_be blk t h16]
   exact st_round (t + 1) (by omega) (by omega) (by repeat (first|apply subL.nil|refine subL.cons (by rfl) ?_)) (by repeat (first|apply SubW.nil|refine y_8 ?_))
  ·have g : ∀ i, 0 < i → i ≤ 16 → (sch blk t ++ List.replicate (64 - t) 0).getD (t - i) 0 = (sch blk t).getD (t - i) 0 := fun i h0 h1 => getD_append_left _ _ (by omega)
   have gl : ∀ i, (sch blk t).getD i 0 < 4294967296 := fun i => hlt.getD (by decide) i
   repeat (first|(refine st_callV (by rfl) (by rfl) (by rfl) (turn_spec _ 7 (by rw [g 15 (by omega) (by omega)]; exact gl _) (by omega)) (fun _ _ => trivial) (by rfl) ?_)|(refine st_callV (by rfl) (by rfl) (by rfl) (turn_spec _ 18 (by rw [g 15 (by omega) (by omega)]; exact gl _) (by omega)) (fun _ _ => trivial) (by rfl) ?_)|(refine st_callV (by rfl) (by rfl) (by rfl) (turn_spec _ 17 (by rw [g 2 (by omega) (by omega)]; exact gl _) (by omega)) (fun _ _ => trivial) (by rfl) ?_)|(refine st_callV (by rfl) (by rfl) (by rfl) (turn_spec _ 19 (by rw [g 2 (by omega) (by omega)]; exact gl _) (by omega)) (fun _ _ => trivial) (by rfl) ?_)|refine y_11 ?_|refine Z81 fun _ => ?_|refine Z82 fun _ => ?_)
   refine st_draw1 (by rfl) ?_
   repeat (first|(refine Zqf (by intro _ _ _;(first|refine y_12 ?_);exact Zq) ?_)|refine y_186 ?_|refine y_185 ?_|refine Zqn ?_)
   refine Zq0 ?_ (by kernel_rfl)
   repeat (first|refine y_11 ?_|refine Z81 fun _ => ?_|refine Z82 fun _ => ?_)
   rw [g 2 (by omega) (by omega), g 7 (by omega) (by omega), g 15 (by omega) (by omega), g 16 (by omega) (by omega)]
   rw [mix_mod _ _ _ _ (gl _), mix_mod _ _ _ _ (gl _), add4, sch_mix blk t (by omega) h]
   exact st_round (t + 1) (by omega) (by omega) (by repeat (first|apply subL.nil|refine subL.cons (by rfl) ?_)) (by repeat (first|apply SubW.nil|refine y_8 ?_))
 ·have ht64 : t = 64 := by omega
  subst ht64
  rw [sch_64]
  repeat (first|refine y_11 ?_|refine Z81 fun _ => ?_|refine Z82 fun _ => ?_)
  refine Zec fun _ hw => post_of hw SubW.nil ⟨?_, rfl⟩
  rfl
end Go.Proofs.YtbpmbdlgmmabcaaGreat.L
namespace Go.Proofs.YtbpmbdlgmmabcaaGreat.L
open Go Go.Proofs
set_option maxRecDepth 100000
attribute [local irreducible] Code.wp wpList Af bodyPost L.Go
open Sha
theorem y_14 {a b : Prop} (k : b) (h : Rm b → a := by intro k;(first|refine Z01 ?_|refine Z02 ?_|refine Z03 ?_|refine Z04 ?_|refine Z05 ?_|refine Z06 ?_|refine Z07 ?_|refine Z08 ?_|refine Z09 ?_|refine Z10 ?_|refine Z11 ?_|refine Z12 ?_|refine Z13 ?_|refine Z14 ?_|refine Z15 ?_|refine Z17 ?_|refine Z18 ?_|refine Z22 ?_|refine Z23 ?_|refine Z24 ?_|refine Z25 ?_|refine Z26 ?_|refine Z27 ?_|refine Z28 ?_|refine Z29 ?_|refine Z30 ?_|refine Z31 ?_|refine Z32 ?_|refine Z33 ?_|refine Z39 ?_|refine Z40 ?_|refine Z41 ?_|refine Z62 ?_|refine Z63 ?_|refine Z64 ?_|refine Z65 ?_|refine Z67 ?_|refine Z70 ?_|refine Z75 ?_|refine Z76 ?_);exact k.h) : a := h ⟨k⟩
theorem y_15 {a b : Prop} (k : b) (h : Rm b → a := by intro k;(first|refine Z01 ?_|refine Z02 ?_|refine Z15 ?_|refine Z17 ?_|refine Z18 ?_|refine Z22 ?_|refine Z23 ?_|refine Z33 ?_|refine Z39 ?_|refine Z40 ?_|refine Z41 ?_|refine Z62 ?_|refine Z63 ?_|refine Z64 ?_|refine Z65 ?_|refine Z70 ?_);exact k.h) : a := h ⟨k⟩
theorem y_16 {a b : Prop} (k : b) (h : Rm b → a := by intro k;(first|refine Z24 ?_|refine Z25 ?_|refine Z26 ?_|refine Z27 ?_|refine Z28 ?_|refine Z67 ?_|refine Z23 ?_|refine Z62 ?_);exact k.h) : a := h ⟨k⟩
theorem y_17 {a b : Prop} (k : b) (h : Rm b → a := by intro k;(first|refine Z75 ?_|refine Z76 ?_);exact k.h) : a := h ⟨k⟩
theorem y_187 {a b : Prop} (k : b) (h : Rm b → a := by intro k;refine Zqf (by intro _ _ _;(first|refine y_15 ?_);exact Zq) ?_;exact k.h) : a := h ⟨k⟩
theorem y_188 {a b : Prop} (k : b) (h : Rm b → a := by intro k;refine Zqp (by intro _ _ _;(first|refine y_16 ?_);exact Zq) ?_;exact k.h) : a := h ⟨k⟩
theorem y_189 {a b : Prop} (k : b) (h : Rm b → a := by intro k;refine Zqd (by intro _ _ _;(first|refine y_17 ?_);exact Zq) ?_;exact k.h) : a := h ⟨k⟩
theorem y_256 {a b : Prop} (k : b) (h : Rm b → a := by intro k;(first|refine y_187 ?_|refine y_188 ?_|refine y_185 ?_|refine y_189 ?_|refine Zqn ?_);exact k.h) : a := h ⟨k⟩
set_option maxHeartbeats 2000000 in
theorem step_spec (h blk : List Nat) (hh : h.length = 8) (hhl : Lt 4294967296 h) (hl : blk.length = 64) (hb : Lt 256 blk) :
  Spec Tryz.prog 130 [LV .u32 h, LV .u8 blk] NoPre [] (IsV (LV .u32 (Sha.step h blk))) := by
 refine mk_spec Tryz.func130 rfl rfl rfl fun w _ => ?_
 have hK := Kt_len
 have hsc := sch_len blk 64
 have hscl := sch_lt hb 64
 repeat (first|(refine y_6 ?_;intro _)|(refine y_4 ?_;intro _)|refine st_build_arr (vs := Kt.map (N .u32)) (by rfl) (by rfl) (by rfl) (by rfl) (by rfl) (by rfl) (by rfl) (by rfl) (by rfl) ?_|(refine st_call (by rfl) (by rfl) (by rfl) (schedule_spec _ _ blk hl hb) (.cons (by repeat first|apply Find.here|apply Find.there) .nil) (fun _ _ => trivial) (by rfl) ?_; rintro _ _ ⟨rfl, rfl⟩)|refine y_14 ?_|refine Z81 fun _ => ?_|refine Z82 fun _ => ?_)
 rename_i b1 b2 b3 b4 b5 b6
 refine st_loop (ι := Nat) (fun t => t ≤ 64) (fun t => [(20, N .i64 t), (8, pt b6 0), (7, .func (.func 140) #[] #[]), (6, pt b5 0), (5, pt b4 0), (4, pt b3 0), (2, pt b1 0)])
  (fun t => [.blk b6 (LV .u32 (rnds (sch blk 64) h t)) 95, .blk b5 (LV .u32 (sch blk 64)) 116, .blk b4 (LV .u32 Kt) 116, .blk b3 (LV .u32 (List.replicate 8 0)) 95, .blk b1 (LV .u32 h) 95]) (fun t => 64 - t) 0 (by omega) (by repeat (first|apply subL.nil|refine subL.cons (by rfl) ?_)) (by rw [rnds_0]; exact (by repeat (first|apply SubW.nil|refine y_8 ?_))) ?_
 intro t ht
 have hsl := rnds_len (sch blk 64) h t
 rw [hh] at hsl
 have hlt := rnds_lt (ws := sch blk 64) hh hhl t
 obtain ⟨a, b, c, d, e, f, g, i, hs⟩ := len8 hsl
 rw [hs] at hlt
 have hss := rnds_succ (sch blk 64) h t
 rw [hs, rnd_def] at hss
 repeat (first|refine y_14 ?_|refine Z81 fun _ => ?_|refine Z82 fun _ => ?_)
 refine st_cond (by rfl) (fun ht' => ?_) (fun ht' => ?_)
 ·rw [hs]
  have l0 : a < 4294967296 := hlt a (by simp)
  have l1 : b < 4294967296 := hlt b (by simp)
  have l2 : c < 4294967296 := hlt c (by simp)
  have l3 : d < 4294967296 := hlt d (by simp)
  have l4 : e < 4294967296 := hlt e (by simp)
  have l5 : f < 4294967296 := hlt f (by simp)
  have l6 : g < 4294967296 := hlt g (by simp)
  have l7 : i < 4294967296 := hlt i (by simp)
  repeat (first|refine y_14 ?_|refine Z81 fun _ => ?_|refine Z82 fun _ => ?_)
  refine st_draw1 (by rfl) ?_
  repeat (first|refine y_256 ?_)
  refine Zq0 ?_ (by kernel_rfl)
  simp only [List.getD_cons_zero, List.getD_cons_succ]
  repeat (first|refine y_14 ?_|refine Z81 fun _ => ?_|refine Z82 fun _ => ?_)
  refine st_draw1 (by rfl) ?_
  repeat (first|(refine Zqf (by intro _ _ _;(first|refine st_callV (by rfl) (by rfl) (by rfl) (big_spec e 6 11 25 l4 (by omega) (by omega) (by omega)) (fun _ _ => trivial) (by rfl) ?_|refine y_15 ?_);exact Zq) ?_)|refine y_188 ?_|refine y_185 ?_|refine y_189 ?_|refine Zqn ?_)
  refine Zq0 ?_ (by kernel_rfl)
  simp only [List.getD_cons_zero, List.getD_cons_succ]
  rw [ch_mod e f g l4 l5 l6, ← S1_def, add5]
  repeat (first|refine st_callV (by rfl) (by rfl) (by rfl) (big_spec a 2 13 22 l0 (by omega) (by omega) (by omega)) (fun _ _ => trivial) (by rfl) ?_|refine y_14 ?_|refine Z81 fun _ => ?_|refine Z82 fun _ => ?_)
  refine st_draw1 (by rfl) ?_
  repeat (first|refine y_256 ?_)
  refine Zq0 ?_ (by kernel_rfl)
  have e7 : (List.take 1 [a, b, c, d, e, f, g, i] ++ List.take (8 - 1) (List.drop 0 (List.take 7 [a, b, c, d, e, f, g, i])) ++ List.drop (1 + min (List.drop 0 (List.take 7 [a, b, c, d, e, f, g, i])).length (8 - 1)) [a, b, c, d, e, f, g, i]) = [a, a, b, c, d, e, f, g] := rfl
  rw [e7]
  repeat (first|refine y_14 ?_|refine Z81 fun _ => ?_|refine Z82 fun _ => ?_)
  simp only [List.getD_cons_zero, List.getD_cons_succ, List.set_cons_succ, List.set_cons_zero]
  rw [maj_mod a b c l0 l1 l2, ← S0_def, ← hss]
  exact st_round (t + 1) (by omega) (by omega) (by repeat (first|apply subL.nil|refine subL.cons (by rfl) ?_)) (by repeat (first|apply SubW.nil|refine y_8 ?_))
 ·have h64 : t = 64 := by omega
  subst h64
  have hal := addw_len (xs := rnds (sch blk 64) h 64) (ys := h) (by rw [hsl, hh])
  have hal' : (addw (rnds (sch blk 64) h 64) h).length = (rnds (sch blk 64) h 64).length := hal
  repeat (first|refine y_14 ?_|refine Z81 fun _ => ?_|refine Z82 fun _ => ?_)
  refine st_loop (ι := Nat) (fun i => i ≤ 8) (fun i => [(82, N .i64 i), (8, pt b6 0), (4, pt b3 0), (2, pt b1 0)])
   (fun i => [.blk b6 (LV .u32 (mixT (addw (rnds (sch blk 64) h 64) h) (rnds (sch blk 64) h 64) i)) 95, .blk b3 (LV .u32 (List.replicate 8 0)) 95, .blk b1 (LV .u32 h) 95]) (fun i => 8 - i) 0 (by omega) (by repeat (first|apply subL.nil|refine subL.cons (by rfl) ?_)) (by rw [mixT_0]; exact (by repeat (first|apply SubW.nil|refine y_8 ?_))) ?_
  intro j hj
  have hml := mixT_len hal' j
  rw [hsl] at hml
  repeat (first|refine y_14 ?_|refine Z81 fun _ => ?_|refine Z82 fun _ => ?_)
  refine st_cond (by rfl) (fun hj' => ?_) (fun hj' => ?_)
  ·repeat (first|refine y_14 ?_|refine Z81 fun _ => ?_|refine Z82 fun _ => ?_)
   refine st_draw1 (by rfl) ?_
   repeat (first|refine y_256 ?_)
   refine Zq0 ?_ (by kernel_rfl)
   repeat (first|refine y_14 ?_|refine Z81 fun _ => ?_|refine Z82 fun _ => ?_)
   rw [mixT_getD hal' (by omega), ← addw_getD (by omega) (by omega), mix_take hal' (by omega)]
   exact st_round (j + 1) (by omega) (by omega) (by repeat (first|apply subL.nil|refine subL.cons (by rfl) ?_)) (by repeat (first|apply SubW.nil|refine y_8 ?_))
  ·have h8 : j = 8 := by omega
   subst h8
   have hm : mixT (addw (rnds (sch blk 64) h 64) h) (rnds (sch blk 64) h 64) 8 = Sha.step h blk := by
    rw [step_def]
    have := mixT_all hal'
    rw [hsl] at this; exact this
   rw [hm] at hml ⊢
   repeat (first|refine y_14 ?_|refine Z81 fun _ => ?_|refine Z82 fun _ => ?_)
   refine Zec fun _ hw => post_of hw SubW.nil ⟨?_, rfl⟩
   rfl
end Go.Proofs.YtbpmbdlgmmabcaaGreat.L
namespace Go.Proofs.YtbpmbdlgmmabcaaGreat.L
open Go Go.Proofs
set_option maxRecDepth 100000
attribute [local irreducible] Code.wp wpList Af bodyPost L.Go
open Sha
theorem y_18 {a b : Prop} (k : b) (h : Rm b → a := by intro k;(first|refine Z01 ?_|refine Z02 ?_|refine Z03 ?_|refine Z04 ?_|refine Z05 ?_|refine Z06 ?_|refine Z07 ?_|refine Z08 ?_|refine Z09 ?_|refine Z10 ?_|refine Z11 ?_|refine Z12 ?_|refine Z13 ?_|refine Z14 ?_|refine Z15 ?_|refine Z17 ?_|refine Z18 ?_|refine Z22 ?_|refine Z23 ?_|refine Z24 ?_|refine Z25 ?_|refine Z26 ?_|refine Z27 ?_|refine Z28 ?_|refine Z29 ?_|refine Z30 ?_|refine Z31 ?_|refine Z32 ?_|refine Z33 ?_|refine Z39 ?_|refine Z40 ?_|refine Z55 ?_|refine Z65 ?_|refine Z67 ?_|refine Z70 ?_);exact k.h) : a := h ⟨k⟩
theorem y_19 {a b : Prop} (k : b) (h : Rm b → a := by intro k;(first|refine Z01 ?_|refine Z02 ?_|refine Z15 ?_|refine Z17 ?_|refine Z18 ?_|refine Z22 ?_|refine Z23 ?_|refine Z33 ?_|refine Z39 ?_|refine Z40 ?_|refine Z55 ?_|refine Z65 ?_|refine Z70 ?_);exact k.h) : a := h ⟨k⟩
theorem y_257 {a b : Prop} (k : b) (h : Rm b → a := by intro k;(first|refine y_186 ?_|refine y_185 ?_|refine Zqn ?_);exact k.h) : a := h ⟨k⟩
set_option maxHeartbeats 2000000 in
theorem rstep_spec (h blk : List Nat) (hh : h.length = 8) (hhl : Lt 4294967296 h) (hl : blk.length = 64) (hb : Lt 256 blk) :
  Spec Tryz.prog 104 [LV .u32 h, LV .u8 blk] NoPre [] (IsV (LV .u32 (Sha.step h blk))) := by
 refine mk_spec Tryz.func104 rfl rfl rfl fun w _ => ?_
 have hsc := sch_len blk 64
 have hscl := sch_lt hb 64
 repeat (first|(refine y_6 ?_;intro _)|(refine y_4 ?_;intro _)|refine y_3 (rschedule_spec blk hl hb) ?_|refine y_18 ?_|refine Z81 fun _ => ?_|refine Z82 fun _ => ?_)
 rename_i b1 b2 b3 b4 b5
 refine st_loop (ι := Nat) (fun t => t ≤ 64) (fun t => [(7, N .i64 t), (6, pt b5 0), (5, pt b4 0), (4, pt b3 0), (2, pt b1 0)])
  (fun t => [.blk b5 (LV .u32 (rnds (sch blk 64) h t)) 95, .blk b4 (LV .u32 (sch blk 64)) 116, .blk b3 (LV .u32 (List.replicate 8 0)) 95, .blk b1 (LV .u32 h) 95]) (fun t => 64 - t) 0 (by omega) (by repeat (first|apply subL.nil|refine subL.cons (by rfl) ?_)) (by rw [rnds_0]; exact (by repeat (first|apply SubW.nil|refine y_8 ?_))) ?_
 intro t ht
 have hsl := rnds_len (sch blk 64) h t
 rw [hh] at hsl
 have hlt := rnds_lt (ws := sch blk 64) hh hhl t
 obtain ⟨a, b, c, d, e, f, g, i, hs⟩ := len8 hsl
 rw [hs] at hlt
 have hss := rnds_succ (sch blk 64) h t
 rw [hs, rnd_def] at hss
 repeat (first|refine y_18 ?_|refine Z81 fun _ => ?_|refine Z82 fun _ => ?_)
 refine st_cond (by rfl) (fun ht' => ?_) (fun ht' => ?_)
 ·rw [hs]
  have l0 : a < 4294967296 := hlt a (by simp)
  have l1 : b < 4294967296 := hlt b (by simp)
  have l2 : c < 4294967296 := hlt c (by simp)
  have l3 : d < 4294967296 := hlt d (by simp)
  have l4 : e < 4294967296 := hlt e (by simp)
  have l5 : f < 4294967296 := hlt f (by simp)
  have l6 : g < 4294967296 := hlt g (by simp)
  have l7 : i < 4294967296 := hlt i (by simp)
  repeat (first|refine y_18 ?_|refine Z81 fun _ => ?_|refine Z82 fun _ => ?_)
  simp only [List.getD_cons_zero, List.getD_cons_succ]
  refine st_draw1 (by rfl) ?_
  repeat (first|(refine Zqf (by intro _ _ _;(first|refine st_callV (by rfl) (by rfl) (by rfl) (turn_spec e 6 l4 (by omega)) (fun _ _ => trivial) (by rfl) ?_|refine st_callV (by rfl) (by rfl) (by rfl) (turn_spec e 11 l4 (by omega)) (fun _ _ => trivial) (by rfl) ?_|refine st_callV (by rfl) (by rfl) (by rfl) (turn_spec e 25 l4 (by omega)) (fun _ _ => trivial) (by rfl) ?_|refine y_3 (k_spec t ht') ?_|refine y_19 ?_);exact Zq) ?_)|refine y_257 ?_)
  refine Zq0 ?_ (by kernel_rfl)
  simp only [List.getD_cons_zero, List.getD_cons_succ]
  rw [ch_mod2 e f g l4 l5 l6, big_mod2 _ _ _ _ l4, ← S1_def, add5]
  repeat (first|refine y_18 ?_|refine Z81 fun _ => ?_|refine Z82 fun _ => ?_)
  refine st_draw1 (by rfl) ?_
  repeat (first|(refine Zqf (by intro _ _ _;(first|refine st_callV (by rfl) (by rfl) (by rfl) (turn_spec a 2 l0 (by omega)) (fun _ _ => trivial) (by rfl) ?_|refine st_callV (by rfl) (by rfl) (by rfl) (turn_spec a 13 l0 (by omega)) (fun _ _ => trivial) (by rfl) ?_|refine st_callV (by rfl) (by rfl) (by rfl) (turn_spec a 22 l0 (by omega)) (fun _ _ => trivial) (by rfl) ?_|refine y_19 ?_);exact Zq) ?_)|refine y_257 ?_)
  refine Zq0 ?_ (by kernel_rfl)
  simp only [List.getD_cons_zero, List.getD_cons_succ]
  rw [maj_mod2 a b c l0 l1 l2, big_mod2 _ _ _ _ l0, ← S0_def]
  repeat (first|(refine st_build_arr (vs := (rnds (sch blk 64) h (t + 1)).map (N .u32)) (by rfl) (by rfl) (by rfl) (by rfl) (by rfl) (by rfl) (by rw [hss]; rfl) (by rw [hss]; rfl) (by rfl) ?_)|refine y_18 ?_|refine Z81 fun _ => ?_|refine Z82 fun _ => ?_)
  exact st_round (t + 1) (by omega) (by omega) (by repeat (first|apply subL.nil|refine subL.cons (by rfl) ?_)) (by repeat (first|apply SubW.nil|refine y_8 ?_))
 ·have h64 : t = 64 := by omega
  subst h64
  have hsl' := rnds_len (sch blk 64) h 64
  rw [hh] at hsl'
  have hal : (addw h (rnds (sch blk 64) h 64)).length = (List.replicate 8 0).length := by rw [addw_len (by rw [hsl', hh]), hh]; rfl
  repeat (first|(refine y_4 ?_;intro _)|refine y_18 ?_|refine Z81 fun _ => ?_|refine Z82 fun _ => ?_)
  rename_i b6
  refine st_loop (ι := Nat) (fun i => i ≤ 8) (fun i => [(13, N .i64 i), (12, pt b6 0), (6, pt b5 0), (4, pt b3 0), (2, pt b1 0)])
   (fun i => [.blk b6 (LV .u32 (mixT (addw h (rnds (sch blk 64) h 64)) (List.replicate 8 0) i)) 95, .blk b5 (LV .u32 (rnds (sch blk 64) h 64)) 95, .blk b3 (LV .u32 (List.replicate 8 0)) 95, .blk b1 (LV .u32 h) 95]) (fun i => 8 - i) 0 (by omega) (by repeat (first|apply subL.nil|refine subL.cons (by rfl) ?_)) (by rw [mixT_0]; exact (by repeat (first|apply SubW.nil|refine y_8 ?_))) ?_
  intro j hj
  have hml := mixT_len hal j
  rw [List.length_replicate] at hml
  repeat (first|refine y_18 ?_|refine Z81 fun _ => ?_|refine Z82 fun _ => ?_)
  refine st_cond (by rfl) (fun hj' => ?_) (fun hj' => ?_)
  ·repeat (first|refine y_18 ?_|refine Z81 fun _ => ?_|refine Z82 fun _ => ?_)
   refine st_draw1 (by rfl) ?_
   repeat (first|(refine Zqf (by intro _ _ _;(first|refine y_19 ?_);exact Zq) ?_)|refine y_186 ?_|refine y_185 ?_|refine Zqn ?_)
   refine Zq0 ?_ (by kernel_rfl)
   repeat (first|refine y_18 ?_|refine Z81 fun _ => ?_|refine Z82 fun _ => ?_)
   rw [← addw_getD (by omega) (by omega), mix_take hal (by simp; omega)]
   exact st_round (j + 1) (by omega) (by omega) (by repeat (first|apply subL.nil|refine subL.cons (by rfl) ?_)) (by repeat (first|apply SubW.nil|refine y_8 ?_))
  ·have h8 : j = 8 := by omega
   subst h8
   have hm : mixT (addw h (rnds (sch blk 64) h 64)) (List.replicate 8 0) 8 = Sha.step h blk := by
    rw [step_def, addw_comm]
    rw [addw_comm] at hal
    exact mixT_all hal
   rw [hm] at hml ⊢
   repeat (first|refine y_18 ?_|refine Z81 fun _ => ?_|refine Z82 fun _ => ?_)
   refine Zec fun _ hw => post_of hw SubW.nil ⟨?_, rfl⟩
   rfl
end Go.Proofs.YtbpmbdlgmmabcaaGreat.L
namespace Go.Proofs.YtbpmbdlgmmabcaaGreat.L
open Go Go.Proofs
set_option maxRecDepth 100000
attribute [local irreducible] Code.wp wpList Af bodyPost L.Go
open Sha
theorem y_20 {a b : Prop} (k : b) (h : Rm b → a := by intro k;(first|refine Z01 ?_|refine Z02 ?_|refine Z03 ?_|refine Z04 ?_|refine Z05 ?_|refine Z06 ?_|refine Z07 ?_|refine Z08 ?_|refine Z09 ?_|refine Z10 ?_|refine Z11 ?_|refine Z12 ?_|refine Z13 ?_|refine Z14 ?_|refine Z15 ?_|refine Z16 ?_|refine Z17 ?_|refine Z18 ?_|refine Z20 ?_|refine Z21 ?_|refine Z22 ?_|refine Z23 ?_|refine Z29 ?_|refine Z30 ?_|refine Z31 ?_|refine Z32 ?_|refine Z35 ?_|refine Z36 ?_|refine Z37 ?_|refine Z42 ?_|refine Z44 ?_|refine Z45 ?_|refine Z58 ?_|refine Z59 ?_|refine Z70 ?_|refine Z71 ?_|refine Z74 ?_|refine Z75 ?_|refine Z76 ?_|refine Z80 ?_);exact k.h) : a := h ⟨k⟩
set_option maxHeartbeats 1000000 in
theorem pad_spec (s : Value) (b : List Nat) (_ : Lt 256 b) (hl : b.length < 4294967296) :
  Spec Tryz.prog 128 [s] (fun w => Rd w s (b.map (N .u8))) [] (fun v W => W = [.sl v ((Sha.pad b).map (N .u8)) 5]) := by
 refine mk_spec Tryz.func128 rfl rfl rfl fun w hr => ?_
 have hr := RdC.mk0 hr
 have hp := padLen_le b.length
 have hA := padA_len b
 have h8 := fun i => tail8_len (8 * b.length) i
 have hK : (8 * (b.length % 18446744073709551616)) % 18446744073709551616 = 8 * b.length := by omega
 have hpd := padLen_def b.length
 repeat (first|refine y_20 ?_|refine Z83 fun _ => ?_)
 rw [hpd]
 repeat (first|refine y_20 ?_|refine Z83 fun _ => ?_)
 rename_i v_
 simp only [List.length_replicate]
 rw [pad_start b (8 * b.length), hK]
 refine st_loop (ι := Nat) (fun i => i ≤ 8) (fun i => [(3, N .i64 (padLen b.length)), (4, v_), (5, N .i64 i), (6, N .u64 ((8 * b.length) >>> (8 * i)))])
  (fun i => [.sl v_ ((padA b ++ tail8 (8 * b.length) i).map (N .u8)) 5]) (fun i => 8 - i) 0 (by omega) (by repeat (first|apply subL.nil|refine subL.cons (by rfl) ?_)) (by repeat (first|apply SubW.nil|refine y_8 ?_)) ?_
 intro i hi
 have h8i := h8 i
 repeat (first|refine y_20 ?_|refine Z83 fun _ => ?_)
 refine st_cond (by rfl) (fun h => ?_) (fun h => ?_)
 ·repeat (first|refine y_20 ?_|refine Z83 fun _ => ?_)
  rw [pad_set _ _ _ h]
  repeat (first|refine y_20 ?_|refine Z83 fun _ => ?_)
  rw [← Nat.shiftRight_add]
  exact st_round (i + 1) (by omega) (by omega) (by repeat (first|apply subL.nil|refine subL.cons (by rfl) ?_)) (by repeat (first|apply SubW.nil|refine y_8 ?_))
 ·have h8 : i = 8 := by omega
  subst h8
  rw [pad_eq]
  repeat (first|refine y_20 ?_|refine Z83 fun _ => ?_)
  refine Ze1 fun _ hw => post_of hw (Wout := [.sl v_ ((Sha.pad b).map (N .u8)) 5]) ?_ ?_
  ·exact (by repeat (first|apply SubW.nil|refine y_8 ?_))
  ·rfl
end Go.Proofs.YtbpmbdlgmmabcaaGreat.L
namespace Go.Proofs.YtbpmbdlgmmabcaaGreat.L
open Go Go.Proofs
set_option maxRecDepth 100000
attribute [local irreducible] Code.wp wpList Af bodyPost L.Go
open Sha
theorem seven {i : Nat} (h : i < 8) : (7 - (i : Int)) = Int.ofNat (7 - i) := by
 show _ = ((7 - i : Nat) : Int)
 omega
theorem seven' {i : Nat} (h : i < 8) : (Int.ofNat (7 - i) - Int.ofNat 1) = 7 - ((i + 1 : Nat) : Int) := by
 show ((7 - i : Nat) : Int) - 1 = _
 omega
theorem y_21 {a b : Prop} (k : b) (h : Rm b → a := by intro k;(first|refine Z01 ?_|refine Z02 ?_|refine Z03 ?_|refine Z04 ?_|refine Z05 ?_|refine Z06 ?_|refine Z07 ?_|refine Z08 ?_|refine Z09 ?_|refine Z10 ?_|refine Z11 ?_|refine Z12 ?_|refine Z13 ?_|refine Z14 ?_|refine Z16 ?_|refine Z17 ?_|refine Z18 ?_|refine Z20 ?_|refine Z21 ?_|refine Z35 ?_|refine Z36 ?_|refine Z38 ?_|refine Z42 ?_|refine Z44 ?_|refine Z45 ?_|refine Z58 ?_|refine Z59 ?_|refine Z71 ?_|refine Z74 ?_|refine Z80 ?_);exact k.h) : a := h ⟨k⟩
set_option maxHeartbeats 1000000 in
theorem rpad_spec (s : Value) (b : List Nat) (hl : b.length < 4294967296) :
  Spec Tryz.prog 102 [s] (fun w => Rd w s (b.map (N .u8))) [] (fun v W => W = [.sl v ((Sha.pad b).map (N .u8)) 5]) := by
 refine mk_spec Tryz.func102 rfl rfl rfl fun w hr => ?_
 have hr := RdC.mk0 hr
 have hp := padLen_le b.length
 have hA := padA_len b
 have hK : (8 * (b.length % 18446744073709551616)) % 18446744073709551616 = 8 * b.length := by omega
 repeat (first|refine y_21 ?_|refine Z84 fun _ => ?_|refine Z85 fun _ => ?_)
 rename_i v1 v2 v3 v4
 rw [show [] ++ b ++ [128] = b ++ 128 :: List.replicate 0 0 from rfl]
 refine st_loop (ι := Nat × Value) (fun q => q.1 ≤ padLen b.length - b.length - 9) (fun q => [(0, s), (3, q.2)])
  (fun q => [.sl q.2 ((b ++ 128 :: List.replicate q.1 0).map (N .u8)) 5]) (fun q => padLen b.length - q.1) (0, v4) (by simp) (by repeat (first|apply subL.nil|refine subL.cons (by rfl) ?_)) (by repeat (first|apply SubW.nil|refine y_8 ?_)) ?_
 rintro ⟨j, v⟩ hj
 simp only at hj ⊢
 have hjl : (b ++ 128 :: List.replicate j 0).length = b.length + 1 + j := by simp; omega
 repeat (first|refine y_21 ?_|refine Z84 fun _ => ?_|refine Z85 fun _ => ?_)
 refine st_cond (by rfl) (fun h => ?_) (fun h => ?_)
 ·rw [hjl] at h
  repeat (first|refine y_21 ?_|refine Z84 fun _ => ?_|refine Z85 fun _ => ?_)
  rw [rpad_succ]
  rename_i v5 v6
  exact st_round (j + 1, v6) (by simp only; omega) (by simp only; omega) (by repeat (first|apply subL.nil|refine subL.cons (by rfl) ?_)) (by repeat (first|apply SubW.nil|refine y_8 ?_))
 ·rw [hjl] at h
  rw [rpad_end b (by omega)]
  repeat (first|refine y_21 ?_|refine Z84 fun _ => ?_|refine Z85 fun _ => ?_)
  rw [hK]
  repeat (first|refine y_21 ?_|refine Z84 fun _ => ?_|refine Z85 fun _ => ?_)
  refine st_loop (ι := Nat × Value) (fun q => q.1 ≤ 8) (fun q => [(3, q.2), (4, N .u64 (8 * b.length)), (5, .int .i64 (7 - (q.1 : Int)))])
   (fun q => [.sl q.2 ((padA b ++ (be8 (8 * b.length)).take q.1).map (N .u8)) 5]) (fun q => 8 - q.1) (0, v) (by simp) (by repeat (first|apply subL.nil|refine subL.cons (by rfl) ?_)) (by repeat (first|apply SubW.nil|refine y_8 ?_)) ?_
  rintro ⟨i, u⟩ hi
  simp only at hi ⊢
  have hil : (padA b ++ (be8 (8 * b.length)).take i).length = padLen b.length - 8 + i := by rw [List.length_append, be8_take_len _ _ hi, hA]
  repeat (first|refine y_21 ?_|refine Z84 fun _ => ?_|refine Z85 fun _ => ?_)
  refine st_cond (by rfl) (fun h => ?_) (fun h => ?_)
  ·have h0 : (0 : Int) ≤ 7 - (i : Int) := h
   have hi8 : i < 8 := by omega
   rw [seven hi8]
   repeat (first|refine y_21 ?_|refine Z84 fun _ => ?_|refine Z85 fun _ => ?_)
   rw [Nat.mod_eq_of_lt (show 8 * (7 - i) < 18446744073709551616 by omega), rpad_be _ _ _ hi8]
   rw [seven' hi8]
   rename_i v8 v9
   exact st_round (i + 1, v9) (by simp only; omega) (by simp only; omega) (by repeat (first|apply subL.nil|refine subL.cons (by rfl) ?_)) (by repeat (first|apply SubW.nil|refine y_8 ?_))
  ·have h0 : ¬ (0 : Int) ≤ 7 - (i : Int) := h
   have h8 : i = 8 := by omega
   subst h8
   rw [rpad_all]
   repeat (first|refine y_21 ?_|refine Z84 fun _ => ?_|refine Z85 fun _ => ?_)
   exact Ze1 fun _ hw => post_of hw (Wout := [.sl u ((Sha.pad b).map (N .u8)) 5]) (by repeat (first|apply SubW.nil|refine y_8 ?_)) rfl
theorem y_22 {a b : Prop} (k : b) (h : Rm b → a := by intro k;refine st_alloc (v := LV .u8 (List.replicate 32 0)) (by rfl) (by rfl) ?_;exact k.h) : a := h ⟨k⟩
theorem y_23 {a b : Prop} (k : b) (h : Rm b → a := by intro k;(first|refine Z01 ?_|refine Z02 ?_|refine Z03 ?_|refine Z04 ?_|refine Z05 ?_|refine Z06 ?_|refine Z07 ?_|refine Z08 ?_|refine Z09 ?_|refine Z10 ?_|refine Z11 ?_|refine Z12 ?_|refine Z13 ?_|refine Z14 ?_|refine Z15 ?_|refine Z16 ?_|refine Z17 ?_|refine Z18 ?_|refine Z20 ?_|refine Z21 ?_|refine Z22 ?_|refine Z23 ?_|refine Z24 ?_|refine Z25 ?_|refine Z26 ?_|refine Z27 ?_|refine Z28 ?_|refine Z29 ?_|refine Z30 ?_|refine Z31 ?_|refine Z32 ?_|refine Z36 ?_|refine Z37 ?_|refine Z38 ?_|refine Z42 ?_|refine Z44 ?_|refine Z45 ?_|refine Z58 ?_|refine Z59 ?_|refine Z62 ?_|refine Z63 ?_|refine Z64 ?_|refine Z66 ?_|refine Z67 ?_|refine Z70 ?_|refine Z71 ?_|refine Z74 ?_|refine Z80 ?_);exact k.h) : a := h ⟨k⟩
set_option maxHeartbeats 1000000 in
theorem sum_spec (s : Value) (b : List Nat) (hb : Lt 256 b) (hl : b.length < 4294967296) :
  Spec Tryz.prog 99 [s] (fun w => Rd w s (b.map (N .u8))) [] (IsV (LV .u8 (Sha.sum b))) := by
 refine mk_spec Tryz.func99 rfl rfl rfl fun w hr => ?_
 have hr := RdC.mk0 hr
 have hp := padLen_le b.length
 have hpl := pad_len b
 repeat (first|(refine y_22 ?_;intro _)|(refine y_4 ?_;intro _)|(refine st_call (by rfl) (by rfl) (by rfl) (pad_spec s b hb hl) .nil (RdW.old hr) (by rfl) ?_; rintro v _ rfl)|refine st_callV (by rfl) (by rfl) (by rfl) begin_spec (fun _ _ => trivial) (by rfl) ?_|refine Z01 ?_|refine Z02 ?_|refine Z03 ?_|refine Z04 ?_|refine Z05 ?_|refine Z06 ?_|refine Z07 ?_|refine Z08 ?_|refine Z09 ?_|refine Z10 ?_|refine Z11 ?_|refine Z12 ?_|refine Z13 ?_|refine Z14 ?_|refine Z15 ?_|refine Z16 ?_|refine Z17 ?_|refine Z18 ?_|refine Z20 ?_|refine Z21 ?_|refine Z22 ?_|refine Z23 ?_|refine Z24 ?_|refine Z25 ?_|refine Z26 ?_|refine Z27 ?_|refine Z28 ?_|refine Z29 ?_|refine Z30 ?_|refine Z31 ?_|refine Z32 ?_|refine Z36 ?_|refine Z37 ?_|refine Z38 ?_|refine Z42 ?_|refine Z44 ?_|refine Z45 ?_|refine Z58 ?_|refine Z59 ?_|refine Z62 ?_|refine Z63 ?_|refine Z64 ?_|refine Z66 ?_|refine Z67 ?_|refine Z70 ?_|refine Z71 ?_|refine Z74 ?_|refine Z80 ?_|refine Z82 fun _ => ?_)
 rename_i b1 b2
 have hpd := padLen_le b.length
 refine st_loop (ι := Nat × Value) (fun q => 64 * q.1 ≤ padLen b.length) (fun q => [(2, pt b1 0), (3, q.2), (4, pt b2 0)])
  (fun q => [.sl q.2 (((Sha.pad b).drop (64 * q.1)).map (N .u8)) 5, .blk b2 (LV .u32 (fold (Sha.pad b) q.1)) 95, .blk b1 (LV .u8 (List.replicate 32 0)) 64]) (fun q => padLen b.length - q.1) (0, v) (by simp) (by repeat (first|apply subL.nil|refine subL.cons (by rfl) ?_)) ?_ ?_
 ·rw [fold_0]
  exact (by repeat (first|apply SubW.nil|refine y_8 ?_))
 rintro ⟨k, u⟩ hk
 simp only at hk ⊢
 have hfl := fold_len (Sha.pad b) k
 have hfb := fold_lt (Sha.pad b) k
 have hdl : ((Sha.pad b).drop (64 * k)).length = padLen b.length - 64 * k := by rw [List.length_drop, hpl]
 repeat (first|refine y_23 ?_|refine Z82 fun _ => ?_)
 refine st_cond (by rfl) (fun h => ?_) (fun h => ?_)
 ·rw [hdl] at h
  have h64 : 64 * k + 64 ≤ (Sha.pad b).length := by omega
  have hcl := cut_len _ _ h64
  have hcb := cut_lt (pad_lt hb) k
  repeat (first|refine y_23 ?_|refine Z82 fun _ => ?_)
  have hX : List.take 64 (List.drop 0 (List.take 64 (List.drop (64 * k) (Sha.pad b)))) = List.take 64 (List.drop (64 * k) (Sha.pad b)) := by rw [List.drop_zero, List.take_take, Nat.min_self]
  have hsl := step_len (blk := List.take 64 (List.drop 0 (List.take 64 (List.drop (64 * k) (Sha.pad b))))) hfl
  refine st_draw1 (by rfl) ?_
  repeat (first|(refine Zqf (by intro _ _ _;(first|(refine st_callV (by rfl) (by rfl) (by rfl) (step_spec (fold (Sha.pad b) k) (List.take 64 (List.drop 0 (List.take 64 (List.drop (64 * k) (Sha.pad b))))) hfl hfb (by rw [hX]; exact hcl) (by rw [hX]; exact hcb)) (fun _ _ => trivial) (by rfl) ?_)|refine Z01 ?_|refine Z02 ?_|refine Z15 ?_|refine Z16 ?_|refine Z17 ?_|refine Z18 ?_|refine Z20 ?_|refine Z21 ?_|refine Z22 ?_|refine Z23 ?_|refine Z36 ?_|refine Z37 ?_|refine Z38 ?_|refine Z42 ?_|refine Z44 ?_|refine Z45 ?_|refine Z58 ?_|refine Z59 ?_|refine Z62 ?_|refine Z63 ?_|refine Z64 ?_|refine Z66 ?_|refine Z70 ?_|refine Z71 ?_|refine Z74 ?_|refine Z80 ?_);exact Zq) ?_)|(refine Zqp (by intro _ _ _;(first|refine Z24 ?_|refine Z25 ?_|refine Z26 ?_|refine Z27 ?_|refine Z28 ?_|refine Z67 ?_|refine Z23 ?_|refine Z20 ?_|refine Z21 ?_|refine Z62 ?_|refine Z66 ?_);exact Zq) ?_)|refine y_185 ?_|refine Zqn ?_)
  refine Zq0 ?_ (by kernel_rfl)
  rw [hX, ← fold_succ]
  have hfl' := fold_len (Sha.pad b) (k + 1)
  repeat (first|refine y_23 ?_|refine Z82 fun _ => ?_)
  have hlen : (List.map (N .u8) (List.drop (64 * k) (Sha.pad b))).length = padLen b.length - 64 * k := by rw [List.length_map, hdl]
  refine st_resl 64 (List.map (N .u8) (List.drop (64 * k) (Sha.pad b))).length (by repeat first|apply Find.here|apply Find.there) (by omega) (Nat.le_refl _) ?_
  have hY : List.drop 64 (List.take (List.map (N .u8) (List.drop (64 * k) (Sha.pad b))).length (List.map (N .u8) (List.drop (64 * k) (Sha.pad b)))) = List.map (N .u8) (List.drop (64 * (k + 1)) (Sha.pad b)) := by
   rw [List.take_length, ← List.map_drop, List.drop_drop]; rfl
  rw [hY]
  exact st_round (k + 1, sub u 64 (List.map (N .u8) (List.drop (64 * k) (Sha.pad b))).length) (by simp only; omega) (by simp only; omega) (by repeat (first|apply subL.nil|refine subL.cons (by rfl) ?_)) (by repeat (first|apply SubW.nil|refine y_8 ?_))
 ·rw [hdl] at h
  have hk' : k = padLen b.length / 64 := by omega
  subst hk'
  have hbl := Sha.bytes_len (fold (Sha.pad b) (padLen b.length / 64))
  have hal : (Sha.bytes (fold (Sha.pad b) (padLen b.length / 64))).length = (List.replicate 32 0).length := by rw [hbl]; rfl
  repeat (first|refine y_23 ?_|refine Z82 fun _ => ?_)
  refine st_loop (ι := Nat) (fun i => i ≤ 32) (fun i => [(20, N .i64 i), (2, pt b1 0), (4, pt b2 0)])
   (fun i => [.blk b1 (LV .u8 (mixT (Sha.bytes (fold (Sha.pad b) (padLen b.length / 64))) (List.replicate 32 0) i)) 64, .blk b2 (LV .u32 (fold (Sha.pad b) (padLen b.length / 64))) 95]) (fun i => 32 - i) 0 (by omega) (by repeat (first|apply subL.nil|refine subL.cons (by rfl) ?_)) (by rw [mixT_0]; exact (by repeat (first|apply SubW.nil|refine y_8 ?_))) ?_
  intro i hi
  have hml := mixT_len hal i
  rw [List.length_replicate] at hml
  repeat (first|refine y_23 ?_|refine Z82 fun _ => ?_)
  refine st_cond (by rfl) (fun hi' => ?_) (fun hi' => ?_)
  ·repeat (first|refine y_23 ?_|refine Z82 fun _ => ?_)
   rw [← Sha.bytes_getD _ hi', mix_take hal (by simp; omega)]
   exact st_round (i + 1) (by omega) (by omega) (by repeat (first|apply subL.nil|refine subL.cons (by rfl) ?_)) (by repeat (first|apply SubW.nil|refine y_8 ?_))
  ·have h32 : i = 32 := by omega
   subst h32
   have hm : mixT (Sha.bytes (fold (Sha.pad b) (padLen b.length / 64))) (List.replicate 32 0) 32 = Sha.sum b := by
    rw [sum_def]; exact mixT_all hal
   rw [hm] at hml ⊢
   repeat (first|refine y_23 ?_|refine Z82 fun _ => ?_)
   refine Zec fun _ hw => post_of hw SubW.nil ⟨?_, rfl⟩
   rfl
end Go.Proofs.YtbpmbdlgmmabcaaGreat.L
namespace Go.Proofs.YtbpmbdlgmmabcaaGreat.L
open Go Go.Proofs
set_option maxRecDepth 100000
attribute [local irreducible] Code.wp wpList Af bodyPost L.Go
open Sha
theorem getD_blk (p : List Nat) (k j : Nat) (h : j < 64) : ((p.drop (64 * k)).take 64).getD j 0 = p.getD (64 * k + j) 0 := by
 simp only [List.getD_eq_getElem?_getD, List.getElem?_take, List.getElem?_drop, if_pos h]
theorem y_24 {a b : Prop} (k : b) (h : Rm b → a := by intro k;(first|refine Z01 ?_|refine Z02 ?_|refine Z03 ?_|refine Z04 ?_|refine Z05 ?_|refine Z06 ?_|refine Z07 ?_|refine Z08 ?_|refine Z09 ?_|refine Z10 ?_|refine Z11 ?_|refine Z12 ?_|refine Z13 ?_|refine Z14 ?_|refine Z15 ?_|refine Z16 ?_|refine Z17 ?_|refine Z18 ?_|refine Z20 ?_|refine Z21 ?_|refine Z22 ?_|refine Z23 ?_|refine Z24 ?_|refine Z25 ?_|refine Z26 ?_|refine Z27 ?_|refine Z28 ?_|refine Z29 ?_|refine Z30 ?_|refine Z31 ?_|refine Z32 ?_|refine Z36 ?_|refine Z37 ?_|refine Z38 ?_|refine Z42 ?_|refine Z44 ?_|refine Z45 ?_|refine Z58 ?_|refine Z59 ?_|refine Z67 ?_|refine Z70 ?_|refine Z71 ?_|refine Z74 ?_|refine Z80 ?_);exact k.h) : a := h ⟨k⟩
set_option maxHeartbeats 1000000 in
theorem rsum_spec (s : Value) (b : List Nat) (hb : Lt 256 b) (hl : b.length < 4294967296) :
  Spec Tryz.prog 59 [s] (fun w => Rd w s (b.map (N .u8))) [] (IsV (LV .u8 (Sha.sum b))) := by
 refine mk_spec Tryz.func59 rfl rfl rfl fun w hr => ?_
 have hr := RdC.mk0 hr
 have hp := padLen_le b.length
 have hpl := pad_len b
 repeat (first|(refine y_22 ?_;intro _)|(refine y_4 ?_;intro _)|(refine st_call (by rfl) (by rfl) (by rfl) (rpad_spec s b hl) .nil (RdW.old hr) (by rfl) ?_; rintro v _ rfl)|refine st_callV (by rfl) (by rfl) (by rfl) rbegin_spec (fun _ _ => trivial) (by rfl) ?_|refine Z01 ?_|refine Z02 ?_|refine Z03 ?_|refine Z04 ?_|refine Z05 ?_|refine Z06 ?_|refine Z07 ?_|refine Z08 ?_|refine Z09 ?_|refine Z10 ?_|refine Z11 ?_|refine Z12 ?_|refine Z13 ?_|refine Z14 ?_|refine Z15 ?_|refine Z16 ?_|refine Z17 ?_|refine Z18 ?_|refine Z20 ?_|refine Z21 ?_|refine Z22 ?_|refine Z23 ?_|refine Z24 ?_|refine Z25 ?_|refine Z26 ?_|refine Z27 ?_|refine Z28 ?_|refine Z29 ?_|refine Z30 ?_|refine Z31 ?_|refine Z32 ?_|refine Z36 ?_|refine Z37 ?_|refine Z38 ?_|refine Z42 ?_|refine Z44 ?_|refine Z45 ?_|refine Z58 ?_|refine Z59 ?_|refine Z67 ?_|refine Z70 ?_|refine Z71 ?_|refine Z74 ?_|refine Z80 ?_|refine Z82 fun _ => ?_)
 rename_i b1 b2
 refine st_loop (ι := Nat) (fun k => 64 * k ≤ padLen b.length) (fun k => [(2, pt b1 0), (3, v), (4, pt b2 0), (5, N .i64 (64 * k))])
  (fun k => [.sl v ((Sha.pad b).map (N .u8)) 5, .blk b2 (LV .u32 (fold (Sha.pad b) k)) 95, .blk b1 (LV .u8 (List.replicate 32 0)) 64]) (fun k => padLen b.length - k) 0 (by omega) (by repeat (first|apply subL.nil|refine subL.cons (by rfl) ?_)) (by rw [fold_0]; exact (by repeat (first|apply SubW.nil|refine y_8 ?_))) ?_
 intro k hk
 have hfl := fold_len (Sha.pad b) k
 have hfb := fold_lt (Sha.pad b) k
 repeat (first|refine y_24 ?_|refine Z82 fun _ => ?_)
 refine st_cond (by rfl) (fun h => ?_) (fun h => ?_)
 ·rw [hpl] at h
  have h64 : 64 * k + 64 ≤ (Sha.pad b).length := by omega
  have hcl := cut_len _ _ h64
  have hcb := cut_lt (pad_lt hb) k
  have hal : (List.take 64 (List.drop (64 * k) (Sha.pad b))).length = (List.replicate 64 0).length := by rw [hcl]; rfl
  repeat (first|refine st_alloc (v := LV .u8 (List.replicate 64 0)) (by rfl) (by rfl) fun _ => ?_|refine y_24 ?_|refine Z82 fun _ => ?_)
  rename_i b3
  refine st_loop (ι := Nat) (fun j => j ≤ 64) (fun j => [(2, pt b1 0), (3, v), (4, pt b2 0), (5, N .i64 (64 * k)), (6, pt b3 0), (7, N .i64 j)])
   (fun j => [.blk b3 (LV .u8 (mixT (List.take 64 (List.drop (64 * k) (Sha.pad b))) (List.replicate 64 0) j)) 97, .sl v ((Sha.pad b).map (N .u8)) 5, .blk b2 (LV .u32 (fold (Sha.pad b) k)) 95, .blk b1 (LV .u8 (List.replicate 32 0)) 64]) (fun j => 64 - j) 0 (by omega) (by repeat (first|apply subL.nil|refine subL.cons (by rfl) ?_)) (by rw [mixT_0]; exact (by repeat (first|apply SubW.nil|refine y_8 ?_))) ?_
  intro j hj
  have hml := mixT_len hal j
  rw [List.length_replicate] at hml
  repeat (first|refine y_24 ?_|refine Z82 fun _ => ?_)
  refine st_cond (by rfl) (fun hj' => ?_) (fun hj' => ?_)
  ·repeat (first|refine y_24 ?_|refine Z82 fun _ => ?_)
   rw [← getD_blk _ _ _ hj', mix_take hal (by simp; omega)]
   exact st_round (j + 1) (by omega) (by omega) (by repeat (first|apply subL.nil|refine subL.cons (by rfl) ?_)) (by repeat (first|apply SubW.nil|refine y_8 ?_))
  ·have e64 : j = 64 := by omega
   subst e64
   have hm : mixT (List.take 64 (List.drop (64 * k) (Sha.pad b))) (List.replicate 64 0) 64 = List.take 64 (List.drop (64 * k) (Sha.pad b)) := mixT_all hal
   rw [hm] at hml ⊢
   have hsl := step_len (blk := List.take 64 (List.drop (64 * k) (Sha.pad b))) hfl
   repeat (first|refine y_3 (rstep_spec (fold (Sha.pad b) k) (List.take 64 (List.drop (64 * k) (Sha.pad b))) hfl hfb hcl hcb) ?_|refine y_24 ?_|refine Z82 fun _ => ?_)
   rw [← fold_succ]
   exact st_round (k + 1) (by omega) (by omega) (by repeat (first|apply subL.nil|refine subL.cons (by rfl) ?_)) (by repeat (first|apply SubW.nil|refine y_8 ?_))
 ·rw [hpl] at h
  have hk' : k = padLen b.length / 64 := by omega
  subst hk'
  have hbl := Sha.bytes_len (fold (Sha.pad b) (padLen b.length / 64))
  have hal : (Sha.bytes (fold (Sha.pad b) (padLen b.length / 64))).length = (List.replicate 32 0).length := by rw [hbl]; rfl
  repeat (first|(refine y_22 ?_;intro _)|refine y_24 ?_|refine Z82 fun _ => ?_)
  rename_i b4
  refine st_loop (ι := Nat) (fun i => i ≤ 32) (fun i => [(9, N .i64 i), (8, pt b4 0), (4, pt b2 0), (2, pt b1 0)])
   (fun i => [.blk b4 (LV .u8 (mixT (Sha.bytes (fold (Sha.pad b) (padLen b.length / 64))) (List.replicate 32 0) i)) 64, .blk b2 (LV .u32 (fold (Sha.pad b) (padLen b.length / 64))) 95, .blk b1 (LV .u8 (List.replicate 32 0)) 64]) (fun i => 32 - i) 0 (by omega) (by repeat (first|apply subL.nil|refine subL.cons (by rfl) ?_)) (by rw [mixT_0]; exact (by repeat (first|apply SubW.nil|refine y_8 ?_))) ?_
  intro i hi
  have hml := mixT_len hal i
  rw [List.length_replicate] at hml
  repeat (first|refine y_24 ?_|refine Z82 fun _ => ?_)
  refine st_cond (by rfl) (fun hi' => ?_) (fun hi' => ?_)
  ·have hm2 : (24 - 8 * (i % 4)) % 18446744073709551616 = 24 - 8 * (i % 4) := by omega
   repeat (first|refine y_24 ?_|refine Z82 fun _ => ?_)
   rw [hm2]
   repeat (first|refine y_24 ?_|refine Z82 fun _ => ?_)
   rw [← Sha.bytes_getD _ hi', mix_take hal (by simp; omega)]
   exact st_round (i + 1) (by omega) (by omega) (by repeat (first|apply subL.nil|refine subL.cons (by rfl) ?_)) (by repeat (first|apply SubW.nil|refine y_8 ?_))
  ·have h32 : i = 32 := by omega
   subst h32
   have hm : mixT (Sha.bytes (fold (Sha.pad b) (padLen b.length / 64))) (List.replicate 32 0) 32 = Sha.sum b := by
    rw [sum_def]; exact mixT_all hal
   rw [hm] at hml ⊢
   repeat (first|refine y_24 ?_|refine Z82 fun _ => ?_)
   refine Zec fun _ hw => post_of hw SubW.nil ⟨?_, rfl⟩
   rfl
end Go.Proofs.YtbpmbdlgmmabcaaGreat.L
namespace Go.Proofs.YtbpmbdlgmmabcaaGreat.L
open Go Go.Proofs
set_option maxRecDepth 100000
attribute [local irreducible] Code.wp wpList Af bodyPost L.Go
open Sha
attribute [local simp] sum_len
def flat (ps : List (Value × List Nat)) : List Nat := ps.flatMap (·.2)
theorem flat_0 (ps : List (Value × List Nat)) : flat (ps.take 0) = [] := rfl
theorem flat_succ {ps : List (Value × List Nat)} {i : Nat} {p : Value} {ys : List Nat} (h : ps[i]? = some (p, ys)) : flat (ps.take (i + 1)) = flat (ps.take i) ++ ys := by
 have hi := (List.getElem?_eq_some_iff.1 h).1
 have he := (List.getElem?_eq_some_iff.1 h).2
 rw [List.take_succ_eq_append_getElem hi, he]
 simp [flat]
theorem flat_le (ps : List (Value × List Nat)) (i : Nat) : (flat (ps.take i)).length ≤ (flat ps).length := by
 have h : (flat ps).length = (flat (ps.take i)).length + (flat (ps.drop i)).length := by
  have := congrArg (fun q => (flat q).length) (List.take_append_drop i ps).symm
  simp only [flat, List.flatMap_append, List.length_append] at this ⊢; exact this
 omega
def xorb (x : Nat) (l : List Nat) : List Nat := l.map (· ^^^ x)
def bkey (key : List Nat) : List Nat := if 64 < key.length then Sha.sum key else key
def hblk (key : List Nat) : List Nat := bkey key ++ List.replicate (64 - (bkey key).length) 0
def mac (key b : List Nat) : List Nat := Sha.sum (xorb 92 (hblk key) ++ Sha.sum (xorb 54 (hblk key) ++ b))
def Tk (key info : List Nat) : Nat → List Nat
 | 0 => []
 | i + 1 => mac key (Tk key info i ++ info ++ [(i + 1) % 256])
def ok (key info : List Nat) : Nat → List Nat
 | 0 => []
 | i + 1 => ok key info i ++ Tk key info (i + 1)
attribute [irreducible] flat xorb bkey hblk mac Tk ok
theorem y_25 {a b : Prop} (k : b) (h : Rm b → a := by intro k;refine st_cmp (r := false) (by rfl) (by rfl) (cmpN_f (by first | (simp only [cmpQ]; done) | (simp only [cmpQ]; omega))) (by rfl) ?_;exact k.h) : a := h ⟨k⟩
theorem y_26 {a b : Prop} (k : b) (h : Rm b → a := by intro k;(first|refine Z01 ?_|refine Z02 ?_|refine Z03 ?_|refine Z04 ?_|refine Z05 ?_|refine Z06 ?_|refine Z07 ?_|refine Z08 ?_|refine Z09 ?_|refine Z10 ?_|refine Z11 ?_|refine Z12 ?_|refine Z13 ?_|refine Z14 ?_|refine Z16 ?_|refine Z17 ?_|refine Z18 ?_|refine Z20 ?_|refine Z21 ?_|refine Z58 ?_|refine Z59 ?_|refine Z62 ?_|refine Z63 ?_|refine Z64 ?_|refine Z71 ?_);exact k.h) : a := h ⟨k⟩
set_option maxHeartbeats 1000000 in
theorem grow_spec (k : Nat) (hk : k < 4294967296) : Spec Tryz.prog 131 [.slice none 0 0, N .i64 k] NoPre [] (fun v W => W = [.sl v (([] : List Nat).map (N .u8)) 5]) := by
 refine mk_spec Tryz.func131 rfl rfl rfl fun w _ => ?_
 repeat (first|refine y_25 ?_|rw [List.length_nil]|refine st_capnil (by rfl) (by rfl) (by rfl) ?_|refine st_lenN (ys := []) (kk := .u8) (by rfl) (by rfl) RdW.nil (by rfl) ?_|refine Z01 ?_|refine Z02 ?_|refine Z03 ?_|refine Z04 ?_|refine Z05 ?_|refine Z06 ?_|refine Z07 ?_|refine Z08 ?_|refine Z09 ?_|refine Z10 ?_|refine Z11 ?_|refine Z12 ?_|refine Z13 ?_|refine Z14 ?_|refine Z16 ?_|refine Z17 ?_|refine Z18 ?_|refine Z20 ?_|refine Z21 ?_|refine Z58 ?_|refine Z59 ?_|refine Z62 ?_|refine Z63 ?_|refine Z64 ?_|refine Z71 ?_|refine Z84 fun _ => ?_)
 refine st_cond (by rfl) (fun h => ?_) (fun h => ?_)
 ·repeat (first|rw [List.length_nil]|refine st_capnil (by rfl) (by rfl) (by rfl) ?_|refine st_lenN (ys := []) (kk := .u8) (by rfl) (by rfl) RdW.nil (by rfl) ?_|refine st_slice (xs := []) (lo := 0) (hi := 0) (by rfl) (by rfl) (by rfl) RdW.nil (by rfl) (by rfl) (by decide) (by decide) (by rfl) ?_|refine st_append_mk (k := k) (z := N .u8 0) (by rfl) (by rfl) (by rfl) (by rfl) (by rfl) (by rfl) (by rfl) (by rfl) (by omega) (by omega) (by omega) (by rfl) fun _ => ?_|refine y_26 ?_|refine Z84 fun _ => ?_)
  rename_i s
  refine st_resl 0 0 (by repeat first|apply Find.here|apply Find.there) (by decide) (Nat.zero_le _) ?_
  exact Ze1 fun _ hw => post_of hw (Wout := [.sl (sub s 0 0) (([] : List Nat).map (N .u8)) 5]) (by exact (by repeat (first|apply SubW.nil|refine y_8 ?_))) rfl
 ·refine st_own_nil 5 ?_
  repeat (first|refine y_26 ?_|refine Z84 fun _ => ?_)
  exact Ze1 fun _ hw => post_of hw (Wout := [.sl (.slice none 0 0) (([] : List Nat).map (N .u8)) 5]) (by exact (by repeat (first|apply SubW.nil|refine y_8 ?_))) rfl
theorem y_27 {a b : Prop} (k : b) (h : Rm b → a := by intro k;(first|refine Z01 ?_|refine Z02 ?_|refine Z03 ?_|refine Z04 ?_|refine Z05 ?_|refine Z06 ?_|refine Z07 ?_|refine Z08 ?_|refine Z09 ?_|refine Z10 ?_|refine Z11 ?_|refine Z12 ?_|refine Z13 ?_|refine Z14 ?_|refine Z15 ?_|refine Z17 ?_|refine Z18 ?_|refine Z20 ?_|refine Z21 ?_|refine Z22 ?_|refine Z23 ?_|refine Z24 ?_|refine Z25 ?_|refine Z26 ?_|refine Z27 ?_|refine Z28 ?_|refine Z58 ?_|refine Z59 ?_|refine Z67 ?_|refine Z70 ?_);exact k.h) : a := h ⟨k⟩
set_option maxHeartbeats 1000000 in
theorem concat_spec (s : Value) (ps : List (Value × List Nat)) (hl : (flat ps).length < 4294967296) (hpl : ps.length < 4294967296) :
  Spec Tryz.prog 100 [s] (fun w => Rd w s (ps.map (·.1)) ∧ ∀ p ∈ ps, Rd w p.1 (p.2.map (N .u8))) [] (fun v W => W = [.sl v ((flat ps).map (N .u8)) 5]) := by
 refine mk_spec Tryz.func100 rfl rfl rfl fun w hr0 => ?_
 have hr := RdC.mk0 hr0.1
 have hrp : ∀ p ∈ ps, RdC ⟨w, fps []⟩ p.1 (p.2.map (N .u8)) := fun p hp => RdC.mk0 (hr0.2 p hp)
 repeat (first|refine y_27 ?_|refine Z84 fun _ => ?_)
 refine st_loop (ι := Nat) (fun i => i ≤ ps.length) (fun i => [(0, s), (2, .slice none 0 0), (3, N .i64 (flat (ps.take i)).length), (9, s), (10, N .i64 (ps.map (·.1)).length), (11, N .i64 i)]) (fun i => []) (fun i => ps.length - i) 0 (by omega) (by rw [flat_0]; exact (by repeat (first|apply subL.nil|refine subL.cons (by rfl) ?_))) (by repeat (first|apply SubW.nil|refine y_8 ?_)) ?_
 intro i hi
 have hfl := flat_le ps i
 repeat (first|refine y_27 ?_|refine Z84 fun _ => ?_)
 refine st_cond (by rfl) (fun h => ?_) (fun h => ?_)
 ·rw [List.length_map] at h
  obtain ⟨⟨p, ys⟩, hp⟩ : ∃ q, ps[i]? = some q := ⟨ps[i], by simp [h]⟩
  have hpr := hrp (p, ys) (List.mem_of_getElem? hp)
  simp only at hpr
  have hfs := flat_succ hp
  have hfl' := flat_le ps (i + 1)
  have e : (flat (ps.take i)).length + ys.length = (flat (ps.take (i + 1))).length := by rw [hfs, List.length_append]
  repeat (first|refine y_25 ?_|rw [e]|refine st_load_rd (v := p) (by rfl) (RdW.old hr) (by simp [hp]) (by rfl) (by rfl) ?_|refine y_27 ?_|refine Z84 fun _ => ?_)
  exact st_round (i + 1) (by omega) (by omega) (by repeat (first|apply subL.nil|refine subL.cons (by rfl) ?_)) (by repeat (first|apply SubW.nil|refine y_8 ?_))
 ·rw [List.length_map] at h
  have hil : i = ps.length := by omega
  subst hil
  rw [List.take_length]
  repeat (first|(refine st_call (by rfl) (by rfl) (by rfl) (grow_spec (flat ps).length hl) .nil (fun _ _ => trivial) (by rfl) ?_; rintro v _ rfl)|refine y_27 ?_|refine Z84 fun _ => ?_)
  refine st_loop (ι := Nat × Value) (fun q => q.1 ≤ ps.length) (fun q => [(6, q.2), (25, s), (26, N .i64 (ps.map (·.1)).length), (27, N .i64 q.1)]) (fun q => [.sl q.2 ((flat (ps.take q.1)).map (N .u8)) 5]) (fun q => ps.length - q.1) (0, v) (by simp) (by repeat (first|apply subL.nil|refine subL.cons (by rfl) ?_)) (by simp only [flat_0]; exact (by repeat (first|apply SubW.nil|refine y_8 ?_))) ?_
  rintro ⟨i, u⟩ hi
  simp only at hi ⊢
  have hfl := flat_le ps i
  repeat (first|refine y_27 ?_|refine Z84 fun _ => ?_)
  refine st_cond (by rfl) (fun h => ?_) (fun h => ?_)
  ·rw [List.length_map] at h
   obtain ⟨⟨p, ys⟩, hp⟩ : ∃ q, ps[i]? = some q := ⟨ps[i], by simp [h]⟩
   have hpr := hrp (p, ys) (List.mem_of_getElem? hp)
   simp only at hpr
   have hfs := flat_succ hp
   have hfl' := flat_le ps (i + 1)
   have e : (flat (ps.take i)).length + ys.length = (flat (ps.take (i + 1))).length := by rw [hfs, List.length_append]
   repeat (first|rw [← hfs]|refine st_load_rd (v := p) (by rfl) (RdW.old hr) (by simp [hp]) (by rfl) (by rfl) ?_|refine y_27 ?_|refine Z84 fun _ => ?_)
   rename_i u'
   exact st_round (i + 1, u') (by simp only; omega) (by simp only; omega) (by repeat (first|apply subL.nil|refine subL.cons (by rfl) ?_)) (by repeat (first|apply SubW.nil|refine y_8 ?_))
  ·rw [List.length_map] at h
   have hil : i = ps.length := by omega
   subst hil
   rw [List.take_length]
   repeat (first|refine y_27 ?_|refine Z84 fun _ => ?_)
   exact Ze1 fun _ hw => post_of hw (Wout := [.sl u ((flat ps).map (N .u8)) 5]) (by exact (by repeat (first|apply SubW.nil|refine y_8 ?_))) rfl
theorem subA_one (b n lo hi : Nat) : (subA b n lo hi).oneCell' = true := rfl
theorem flat3 (p q r : Value) (xs ys zs : List Nat) : flat [(p, xs), (q, ys), (r, zs)] = xs ++ ys ++ zs := by unfold flat; simp
theorem Lt.app {m : Nat} {xs ys : List Nat} (h : Lt m xs) (k : Lt m ys) : Lt m (xs ++ ys) := fun x hx => by
 rcases List.mem_append.1 hx with hx | hx
 ·exact h x hx
 ·exact k x hx
theorem Lt.one {m x : Nat} (h : x < m) : Lt m [x] := fun y hy => by simp at hy; subst hy; exact h
end Go.Proofs.YtbpmbdlgmmabcaaGreat.L
namespace Go.Proofs.YtbpmbdlgmmabcaaGreat.L
open Go Go.Proofs
def cut3 : Value → Nat → Value
 | .slice a _ _, k => .slice (if k = 0 then a else a.map (·.add 0)) k k
 | v, _ => v
theorem Rd.cut3 {w : World} {s : Value} {xs : List Value} (h : Rd w s xs) {k : Nat} (h2 : k ≤ xs.length) : Rd w (cut3 s k) (xs.take k) := by
 obtain ⟨a, cap, rfl, hc, hn, hsp⟩ := h.shape
 have hlen : (xs.take k).length = k := by simp; omega
 refine ⟨⟨if k = 0 then a else a.map (·.add 0), k, by rw [hlen]; rfl, by rw [hlen]; exact Nat.le_refl _, fun he => ?_, fun a0 ha0 => ?_⟩, fun i v hv => ?_⟩
 ·have : a = none := by
   split at he
   ·exact he
   ·simpa using he
  obtain ⟨hx, hcap⟩ := hn this
  subst hx; simp at h2
  subst h2; simp
 ·split at ha0
  ·exact hsp a0 ha0
  ·cases a with
   | none => simp at ha0
   | some b =>
    simp at ha0
    have := hsp b rfl
    subst ha0
    unfold Addr.add; split
    ·exact this
    ·rfl
 ·have hi' : i < (xs.take k).length := by
   rcases Nat.lt_or_ge i (xs.take k).length with h | h
   ·exact h
   ·rw [List.getElem?_eq_none h] at hv; simp at hv
  rw [hlen] at hi'
  have hne : ¬ k = 0 := by omega
  cases a with
  | none => obtain ⟨hx, _⟩ := hn rfl; subst hx; simp at hv
  | some a0 =>
   have hv' : xs[i]? = some v := by
    rw [List.getElem?_take, if_pos (by omega)] at hv; exact hv
   have hcell := h.cells i v hv'
   have e : ea (L.cut3 (.slice (some a0) xs.length cap) k) i = ea (.slice (some a0) xs.length cap) i := by
    have hs0 := hsp a0 rfl
    obtain ⟨b, o, sp⟩ := a0
    simp only at hs0; subst hs0
    simp only [L.cut3, if_neg hne, Option.map_some, ea, add_pt]
    congr 1
   rw [e]; exact hcell
theorem RdW.cut3 {c : Cx} {W : List Res} {s : Value} {xs : List Value} (h : RdW c W s xs) {k : Nat} (h2 : k ≤ xs.length) : RdW c W (cut3 s k) (xs.take k) := fun w hw => (h w hw).cut3 h2
section
variable {P : Program} {c : Cx} {n : Nat} {l : Sl} {W : List Res} {ops : Array Oper} {Q : Exit → Act → World → Prop} {rest : List Oper}
variable {d : Nat} {T : TypeId} {pos : String} {after : Array Edge}
theorem run_sliceBounds3 {w : World} {a : Act} (ha : SatA n l a) {len cap k : Nat} {xh xm : Operand} (hh : hiOf l len (some xh) = some k) (hm : hiOf l len (some xm) = some k) (h2 : k ≤ cap) :
  (Instr.sliceBounds true len cap none (some (a.eval xh)) (some (a.eval xm))).run P w = .ok (0, k, k) w := by
 have bnd : ∀ (kk : IntKind) (i y : Nat) (code : BoundsCode), i ≤ y → (Instr.sliceBound (N kk i) y code).run P w = .ok i w := fun kk i y code h => by
  have := run_sliceBound (P := P) (w := w) kk (i : Int) y code (by omega) (by omega)
  rw [Int.toNat_natCast] at this
  exact this
 obtain ⟨k1, hy⟩ := hiOf_some hh
 obtain ⟨k2, hz⟩ := hiOf_some hm
 simp [Instr.sliceBounds, ha.ev hy, ha.ev hz, bnd k2 k cap _ h2, bnd k1 k k _ (Nat.le_refl _)]
theorem st_slice3 {x xh xm : Operand} {s : Value} {xs : List Value} {t E : TypeId} {k : Nat} (hx : ev l x = some s) (ht : P.underlying t = some (.slice E)) (hz : szOf P E = some 1) (hr : RdW c W s xs)
  (hh : hiOf l xs.length (some xh) = some k) (hm : hiOf l xs.length (some xm) = some k) (h2 : k ≤ xs.length)
  (hn : Nat.blt d n = true) (hk : Go c n ((d, cut3 s k) :: l) W (wpList P ops Q rest)) :
  Go c n l W (wpList P ops Q (⟨some d, .slice t x none (some xh) (some xm), T, pos, after, none⟩ :: rest)) :=
 st_val rfl rfl hn (fun a w ha hw => by
  obtain ⟨a0, cap, rfl, h3, h4, h5⟩ := (hr w hw).shape
  have hb := run_sliceBounds3 (P := P) (w := w) ha hh hm (cap := cap) (by omega)
  simp [execOp, ha.ev hx, Instr.sliceAt, run_underlying ht, Instr.slice, hb, run_sizeOf hz, cut3]) hk
theorem sl_cut3 {w : World} {s : Value} {xs : List Value} {T : TypeId} (h : (Res.sl s xs T).holds w) {k : Nat} (h2 : k ≤ xs.length) :
  (Res.sl (cut3 s k) (xs.take k) T).holds w ∧ (Res.sl (cut3 s k) (xs.take k) T).fp = (Res.sl s xs T).fp := by
 rcases h with ⟨rfl, rfl⟩ | ⟨b, off, cap, pre, post, fz, hs⟩
 ·simp at h2; subst h2
  exact ⟨.inl ⟨by simp [cut3], by simp⟩, by simp [cut3, Res.fp]⟩
 ·obtain ⟨rfl, h3, h4, h5, h6, h7⟩ := hs
  have hlen : (xs.take k).length = k := by simp; omega
  have hadd : (if k = 0 then some (⟨b, off, none⟩ : Addr) else some ((⟨b, off, none⟩ : Addr).add 0)) = some ⟨b, off, none⟩ := by
   split <;> simp [add_pt]
  refine ⟨.inr ⟨b, off, k, pre, xs.drop k ++ post, fz, ?_⟩, by simp [cut3, Res.fp, hadd]⟩
  refine ⟨by rw [hlen]; simp [cut3, hadd], by rw [hlen]; exact Nat.le_refl _, by rw [hlen]; simp, h5, ?_, ?_⟩
  ·rw [h6]; congr 2
   rw [List.append_assoc, List.append_assoc, ← List.append_assoc (xs.take k), List.take_append_drop]
  ·intro hf
   have := h7 hf
   simp at this ⊢; omega
theorem st_resl3 {φ : Act → World → Prop} {s : Value} {xs : List Value} {R : List Res} (k : Nat) (hf : Find W (.sl s xs T) R) (h2 : k ≤ xs.length)
  (hk : Go c n l (.sl (cut3 s k) (xs.take k) T :: R) φ) : Go c n l W φ :=
 st_ghost (fun w hw => by
  have hw := hw.perm hf.perm
  obtain ⟨g1, g2⟩ := sl_cut3 (hw.holds _ (List.mem_cons_self ..)) h2
  exact hw.upd g2 (Ext.refl _ _) g1) hk
theorem run_append_new {w : World} {t E ty : TypeId} {by' cap : Nat} {z y : Value} {base : Option Addr} {xs ys : List Value} (ht : P.underlying t = some (.slice E)) (hz : zrOf P E = some z) (hs : szOf P E = some 1) (hb : byOf P E = some by') (h1 : z.oneCell' = true)
    (hX : Rd w (.slice base xs.length cap) xs) (hY : Rd w y ys) (hroom : ¬ xs.length + ys.length ≤ cap) (hbd : (xs.length + ys.length) * by' ≤ 140737488355328) (h63 : xs.length + ys.length < 9223372036854775808) :
    ∃ s' w', (Builtin.append_ #[t, t] ty #[.slice base xs.length cap, y]).run P w = .ok s' w' ∧ (Res.sl s' (xs ++ ys) E).holds w' ∧ Ext [] w w' ∧
      (Res.sl s' (xs ++ ys) E).fp = [w.heap.size] := by
  obtain ⟨i, hi, hz', hs', hb'⟩ := info_of hz hs hb
  obtain ⟨a1, cap1, hye, hc1, hn1, hsp1⟩ := hY.shape
  have hlenY : ∀ w, (Builtin.lenOf y).run P w = .ok ys.length w := fun w => by rw [hye]; rfl
  have hfY := fun k => run_first (P := P) (hY.drew k) (Nat.le_refl ys.length)
  have hz0 : ∀ w, (zeroValue E).run P w = .ok z w := run_zero hz
  have hty : ∀ w, (underlying t).run P w = .ok (.slice E) w := run_underlying ht
  have hti : ∀ w, (typeInfo E).run P w = .ok i w := fun w => by simp [typeInfo, hi]
  have h63i : ¬ (9223372036854775807 < ((xs.length : Int) + (ys.length : Int))) := by omega
  have hfit := growslice_fits (need := xs.length + ys.length) (old := cap) (bytes := by') (by omega) hbd
  have h48 : ¬ (281474976710656 < Builtin.nextslicecap (xs.length + ys.length) cap * i.bytes) := by rw [hb']; omega
  have hfX := fun k => run_first (P := P) (hX.drew k) (Nat.le_refl xs.length)
  have hcut : xs.length + ys.length ≤ grownCap w (xs.length + ys.length) cap E := by
    simp only [grownCap, Question.cut]; omega
  have hzc : Builtin.zeroCells z.cells (grownCap w (xs.length + ys.length) cap E - (xs.length + ys.length)) = (List.replicate (grownCap w (xs.length + ys.length) cap E - (xs.length + ys.length)) z).toArray := by
    apply Array.ext
    · simp [Builtin.zeroCells, cells1 h1]
    · intro j h1' h2'
      simp [Builtin.zeroCells, cells1 h1, Nat.mod_one]
  refine ⟨.slice (some ⟨w.heap.size, 0, none⟩) (xs.length + ys.length) (grownCap w (xs.length + ys.length) cap E),
    { w with drawn := w.drawn + 1, heap := w.heap.push (.cells (xs ++ ys ++ List.replicate (grownCap w (xs.length + ys.length) cap E - (xs.length + ys.length)) z).toArray E) }, ?_, ?_, ?_, rfl⟩
  · have hfX' : (Builtin.firstCells 1 xs.length (Value.slice base xs.length cap)).run P w.drew = .ok xs.toArray w.drew := by
      have := hfX (w.drawn + 1); simpa using this
    have hfY' : (Builtin.firstCells 1 ys.length y).run P w.drew = .ok ys.toArray w.drew := by
      have := hfY (w.drawn + 1); simpa using this
    have hcells : xs.toArray ++ ys.toArray ++ Builtin.zeroCells z.cells (grownCap w (xs.length + ys.length) cap E - (xs.length + ys.length)) =
        (xs ++ ys ++ List.replicate (grownCap w (xs.length + ys.length) cap E - (xs.length + ys.length)) z).toArray := by rw [hzc]; simp
    have hres : (Builtin.append_ #[t, t] ty #[Value.slice base xs.length cap, y]).run P w =
        .ok (.slice (some ⟨w.heap.size, 0, none⟩) (xs.length + ys.length) (grownCap w (xs.length + ys.length) cap E))
          (w.drew.alloc (.cells (xs.toArray ++ ys.toArray ++ Builtin.zeroCells z.cells (grownCap w (xs.length + ys.length) cap E - (xs.length + ys.length))) E)) := by
      simp [Builtin.append_, hty, run_sizeOf hs, hlenY, hroom, h63i, h48, hti, Question.forced, hfX', hfY', hz0, newRow, grownCap, -List.append_toArray]
    rw [hcells] at hres
    exact hres
  · refine .inr ⟨w.heap.size, 0, grownCap w (xs.length + ys.length) cap E, [], List.replicate (grownCap w (xs.length + ys.length) cap E - (xs.length + ys.length)) z, (0, 0), by simp, by simpa using hcut, ?_, rfl, ?_, by simp⟩
    · simp; omega
    · simp
  · exact ⟨rfl, rfl, rfl, by simp, fun k hk _ => by
      show (w.heap.push _)[k]? = _
      rw [Array.getElem?_push, if_neg (by omega)]⟩
theorem st_append_cut {x y : Operand} {s y0 : Value} {kk : IntKind} {xs ys : List Nat} {t E : TypeId} {by' : Nat} (hx : ev l x = some (cut3 s xs.length)) (hy : ev l y = some y0) (hs0 : RdW c W s (xs.map (N kk))) (hr : RdW c W y0 (ys.map (N kk)))
  (ht : P.underlying t = some (.slice E)) (hz : zrOf P E = some (N kk 0)) (hs : szOf P E = some 1) (hb : byOf P E = some by') (hy0 : 0 < ys.length)
  (hbd : (xs.length + ys.length) * by' ≤ 140737488355328) (h63 : xs.length + ys.length < 9223372036854775808) (hn : Nat.blt d n = true)
  (hk : ∀ s', Go c n ((d, s') :: l) (.sl s' ((xs ++ ys).map (N kk)) E :: W) (wpList P ops Q rest)) :
  Go c n l W (wpList P ops Q (⟨some d, .call { callee := .builtin .append, args := #[x, y], argTypes := #[t, t] }, T, pos, after, none⟩ :: rest)) :=
 st_op rfl rfl hn (Φ := fun u V => V = .sl u ((xs ++ ys).map (N kk)) E :: W)
  (fun a w ha hw => by
   have hY := hr w hw
   have hX := (hs0 w hw).cut3 (k := xs.length) (by simp)
   obtain ⟨a0, cap0, he0, _⟩ := (hs0 w hw).shape
   subst he0
   rw [List.take_of_length_le (by simp)] at hX
   have hlm : (xs.map (N kk)).length = xs.length := by simp
   simp only [cut3] at hX hx
   generalize (if xs.length = 0 then a0 else a0.map (·.add 0)) = bs at hX hx
   have hX2 : Rd w (.slice bs (xs.map (N kk)).length xs.length) (xs.map (N kk)) := by rw [hlm]; exact hX
   obtain ⟨s', w', h2, h3, h4, h5⟩ := run_append_new (P := P) (ty := T) ht hz hs hb rfl hX2 hY (by simp; omega) (by simpa using hbd) (by simpa using h63)
   rw [hlm] at h2
   rw [← List.map_append] at h3 h5
   refine ⟨s', w', _, by simp [execOp, ha.ev hx, ha.ev hy, resolve, invoke, builtin, h2], ?_, rfl⟩
   have h6 := hw.ext0 h4
   have hlt := hw.lt
   refine ⟨h6.ext, ?_, ?_, ?_⟩
   ·intro r hr
    rcases List.mem_cons.1 hr with rfl | hr
    ·exact h3
    ·exact h6.holds r hr
   ·intro b hb
    simp only [fps, List.flatMap_cons, h5, List.mem_append, List.mem_singleton] at hb
    rcases hb with rfl | hb
    ·exact .inl hw.ext.size
    ·exact h6.own b hb
   ·simp only [fps, List.flatMap_cons, h5]
    refine List.nodup_append.2 ⟨by simp, h6.nd, fun p hp q hq => ?_⟩
    simp only [List.mem_singleton] at hp; subst hp
    have := hlt q hq; omega)
  (fun u V hV => by subst hV; exact hk u)
end
end Go.Proofs.YtbpmbdlgmmabcaaGreat.L
namespace Go.Proofs.YtbpmbdlgmmabcaaGreat.L
open Go Go.Proofs
set_option maxRecDepth 100000
attribute [local irreducible] Code.wp wpList Af bodyPost L.Go
open Sha
attribute [local simp] sum_len
def tg (d : List Nat) : List Nat := d ++ [d.length % 256]
def xh (m d : List Nat) (n : Nat) : List Nat := List.replicate 64 0 ++ m ++ [n / 256 % 256, n % 256, 0] ++ tg d
def xf (m d : List Nat) (n : Nat) : List Nat := Sha.sum (xh m d n)
def xl (a b : List Nat) : List Nat := List.zipWith (· ^^^ ·) a b
def Xk (m d : List Nat) (n : Nat) : Nat → List Nat
 | 0 => List.replicate 32 0
 | i + 1 => Sha.sum (xl (Xk m d n i) (xf m d n) ++ [(i + 1) % 256] ++ tg d)
def xk (m d : List Nat) (n : Nat) : Nat → List Nat
 | 0 => []
 | i + 1 => xk m d n i ++ Xk m d n (i + 1)
def xpand (m d : List Nat) (n : Nat) : List Nat := (xk m d n ((n + 31) / 32)).take n
theorem tg_def (d : List Nat) : tg d = d ++ [d.length % 256] := rfl
theorem tg_len (d : List Nat) : (tg d).length = d.length + 1 := by simp [tg]
theorem tg_lt {d : List Nat} (h : Lt 256 d) : Lt 256 (tg d) := Lt.app h (Lt.one (Nat.mod_lt _ (by decide)))
theorem xh_def (m d : List Nat) (n : Nat) : xh m d n = List.replicate 64 0 ++ m ++ [n / 256 % 256, n % 256, 0] ++ tg d := rfl
theorem xh_lt {m d : List Nat} (n : Nat) (hm : Lt 256 m) (hd : Lt 256 d) : Lt 256 (xh m d n) := by
 refine Lt.app (Lt.app (Lt.app ?_ hm) ?_) (tg_lt hd)
 ·intro x hx; rw [List.eq_of_mem_replicate hx]; decide
 ·intro x hx
  simp only [List.mem_cons, List.not_mem_nil, or_false] at hx
  rcases hx with rfl | rfl | rfl
  ·exact Nat.mod_lt _ (by decide)
  ·exact Nat.mod_lt _ (by decide)
  ·decide
theorem xh_len (m d : List Nat) (n : Nat) : (xh m d n).length = m.length + d.length + 68 := by simp [xh, tg_len]; omega
theorem xf_def (m d : List Nat) (n : Nat) : xf m d n = Sha.sum (xh m d n) := rfl
theorem xf_len (m d : List Nat) (n : Nat) : (xf m d n).length = 32 := sum_len _
theorem xf_lt (m d : List Nat) (n : Nat) : Lt 256 (xf m d n) := sum_lt _
theorem xl_len {a b : List Nat} (ha : a.length = 32) (hb : b.length = 32) : (xl a b).length = 32 := by simp [xl, ha, hb]
theorem xl_lt {a b : List Nat} (ha : Lt 256 a) (hb : Lt 256 b) : Lt 256 (xl a b) := by
 intro x hx
 simp only [xl] at hx
 obtain ⟨i, hi, rfl⟩ := List.mem_iff_getElem.1 hx
 rw [List.getElem_zipWith]
 exact Nat.xor_lt_two_pow (n := 8) (ha _ (List.getElem_mem ..)) (hb _ (List.getElem_mem ..))
theorem xl_get {a b : List Nat} (ha : a.length = 32) (hb : b.length = 32) {i : Nat} (h : i < 32) : (xl a b).getD i 0 = a.getD i 0 ^^^ b.getD i 0 := by
 have h1 : i < a.length := by omega
 have h2 : i < b.length := by omega
 simp [xl, List.getD_eq_getElem?_getD, List.getElem?_zipWith, h1, h2]
theorem xl_comm (a b : List Nat) : xl a b = xl b a := by
 unfold xl; rw [List.zipWith_comm]; congr 1; funext x y; exact Nat.xor_comm _ _
theorem Xk_0 (m d : List Nat) (n : Nat) : Xk m d n 0 = List.replicate 32 0 := rfl
theorem Xk_succ (m d : List Nat) (n i : Nat) : Xk m d n (i + 1) = Sha.sum (xl (Xk m d n i) (xf m d n) ++ [(i + 1) % 256] ++ tg d) := rfl
theorem Xk_len (m d : List Nat) (n i : Nat) : (Xk m d n i).length = 32 := by
 cases i with
 | zero => simp [Xk]
 | succ i => exact sum_len _
theorem Xk_lt (m d : List Nat) (n i : Nat) : Lt 256 (Xk m d n i) := by
 cases i with
 | zero => intro x hx; rw [Xk_0] at hx; rw [List.eq_of_mem_replicate hx]; decide
 | succ i => exact sum_lt _
theorem xk_0 (m d : List Nat) (n : Nat) : xk m d n 0 = [] := rfl
theorem xk_succ (m d : List Nat) (n i : Nat) : xk m d n (i + 1) = xk m d n i ++ Xk m d n (i + 1) := rfl
theorem xk_len (m d : List Nat) (n i : Nat) : (xk m d n i).length = 32 * i := by
 induction i with
 | zero => rfl
 | succ i ih => simp only [xk, List.length_append, ih, Xk_len]; omega
theorem xk_lt (m d : List Nat) (n i : Nat) : Lt 256 (xk m d n i) := by
 induction i with
 | zero => intro x hx; simp [xk] at hx
 | succ i ih => exact Lt.app ih (Xk_lt _ _ _ _)
theorem xpand_def (m d : List Nat) (n : Nat) : xpand m d n = (xk m d n ((n + 31) / 32)).take n := rfl
theorem xpand_len (m d : List Nat) (n : Nat) : (xpand m d n).length = n := by simp [xpand, xk_len]; omega
theorem xpand_lt (m d : List Nat) (n : Nat) : Lt 256 (xpand m d n) := fun x hx => xk_lt _ _ _ _ x (List.mem_of_mem_take hx)
attribute [irreducible] tg xh xf xl Xk xk xpand
end Go.Proofs.YtbpmbdlgmmabcaaGreat.L
namespace Go.Proofs.YtbpmbdlgmmabcaaGreat.L
open Go Go.Proofs
set_option maxRecDepth 100000
attribute [local irreducible] Code.wp wpList Af bodyPost L.Go
open Sha
attribute [local simp] sum_len
theorem flat4 (p q r s : Value) (xs ys zs us : List Nat) : flat [(p, xs), (q, ys), (r, zs), (s, us)] = xs ++ ys ++ zs ++ us := by unfold flat; simp
theorem y_28 {S1 a b : Prop} (s1 : S1) (k : b) (h : S1 → Rm b → a := by intro s1 k;refine st_callV (by rfl) (by rfl) (by rfl) s1 (RdW.own (by repeat first|apply Find.here|apply Find.there)) (by rfl) ?_;exact k.h) : a := h s1 ⟨k⟩
theorem xsum_spec (s : Value) (ps : List (Value × List Nat)) (hb : Lt 256 (flat ps)) (hl : (flat ps).length < 4294967296) (hpl : ps.length < 4294967296) :
  Spec Tryz.prog 56 [s] (fun w => Rd w s (ps.map (·.1)) ∧ ∀ p ∈ ps, Rd w p.1 (p.2.map (N .u8))) [] (IsV (LV .u8 (Sha.sum (flat ps)))) := by
 refine mk_spec Tryz.func56 rfl rfl rfl fun w hr0 => ?_
 have hr := RdC.mk0 hr0.1
 have hrp : ∀ p ∈ ps, RdC ⟨w, fps []⟩ p.1 (p.2.map (N .u8)) := fun p hp => RdC.mk0 (hr0.2 p hp)
 have hsl := sum_len (flat ps)
 repeat (first|(refine y_22 ?_;intro _)|(refine st_call (by rfl) (by rfl) (by rfl) (concat_spec s ps hl hpl) .nil (fun w hw => ⟨RdW.old hr w hw, fun p hp => RdW.old (hrp p hp) w hw⟩) (by rfl) ?_; rintro v _ rfl)|refine y_28 (sum_spec _ (flat ps) hb hl) ?_|refine Z01 ?_|refine Z03 ?_|refine Z04 ?_|refine Z05 ?_|refine Z06 ?_|refine Z07 ?_|refine Z08 ?_|refine Z09 ?_|refine Z10 ?_|refine Z11 ?_|refine Z12 ?_|refine Z13 ?_|refine Z14 ?_|refine Z29 ?_|refine Z30 ?_|refine Z31 ?_|refine Z32 ?_|refine Z82 fun _ => ?_)
 refine Zec fun _ hw => post_of hw SubW.nil ⟨?_, rfl⟩
 rfl
theorem y_29 {a b : Prop} (k : b) (h : Rm b → a := by intro k;(first|refine Z01 ?_|refine Z02 ?_|refine Z03 ?_|refine Z04 ?_|refine Z05 ?_|refine Z06 ?_|refine Z07 ?_|refine Z08 ?_|refine Z09 ?_|refine Z10 ?_|refine Z11 ?_|refine Z12 ?_|refine Z13 ?_|refine Z14 ?_|refine Z15 ?_|refine Z17 ?_|refine Z18 ?_|refine Z20 ?_|refine Z21 ?_|refine Z22 ?_|refine Z23 ?_|refine Z24 ?_|refine Z25 ?_|refine Z26 ?_|refine Z27 ?_|refine Z28 ?_|refine Z29 ?_|refine Z30 ?_|refine Z31 ?_|refine Z32 ?_|refine Z39 ?_|refine Z42 ?_|refine Z44 ?_|refine Z45 ?_|refine Z49 ?_|refine Z50 ?_|refine Z51 ?_|refine Z52 ?_|refine Z53 ?_|refine Z58 ?_|refine Z59 ?_|refine Z62 ?_|refine Z63 ?_|refine Z64 ?_|refine Z67 ?_|refine Z70 ?_|refine Z74 ?_|refine Z80 ?_);exact k.h) : a := h ⟨k⟩
set_option maxHeartbeats 4000000 in
theorem xexpand_ok (s1 s2 : Value) (m d : List Nat) (n : Nat) (hm : Lt 256 m) (hd : Lt 256 d) (hl1 : m.length < 1073741824) (h1 : 1 ≤ d.length) (h2 : d.length ≤ 255) (hn1 : 1 ≤ n) (hn : n ≤ 8160) :
  Spec Tryz.prog 22 [s1, s2, N .i64 n] (fun w => Rd w s1 (m.map (N .u8)) ∧ Rd w s2 (d.map (N .u8))) [] (fun v W => ∃ x, v = .tuple [x, N .i64 0].toArray ∧ W = [.sl x ((xpand m d n).map (N .u8)) 5]) := by
 refine mk_spec Tryz.func22 rfl rfl rfl fun w hr => ?_
 have hr1 := RdC.mk0 hr.1
 have hr2 := RdC.mk0 hr.2
 have hs1o := hr.1.one
 have htl := tg_len d
 have htb := tg_lt hd
 have hhl := xh_len m d n
 have hhb := xh_lt n hm hd
 have hfl := xf_len m d n
 have hfb := xf_lt m d n
 have hC : ∀ p q r s : Value, flat [(p, List.replicate 64 0), (q, m), (r, [n / 256 % 256, n % 256, 0]), (s, tg d)] = xh m d n := fun p q r s => by rw [flat4, xh_def]
 have hCb : ∀ p q r s : Value, Lt 256 (flat [(p, List.replicate 64 0), (q, m), (r, [n / 256 % 256, n % 256, 0]), (s, tg d)]) := fun p q r s => by rw [hC]; exact hhb
 have hCl : ∀ p q r s : Value, (flat [(p, List.replicate 64 0), (q, m), (r, [n / 256 % 256, n % 256, 0]), (s, tg d)]).length < 4294967296 := fun p q r s => by rw [hC, hhl]; omega
 have hC3 : ∀ (p q r s : Value) (xs ys zs us : List Nat), [(p, xs), (q, ys), (r, zs), (s, us)].length < 4294967296 := fun p q r s xs ys zs us => by simp
 have hsh : n >>> 8 = n / 256 := Nat.shiftRight_eq_div_pow n 8
 repeat (first|refine y_25 ?_|refine st_slice3 (k := d.length) (by rfl) (by rfl) (by rfl) (RdW.old hr2) (by rfl) (by rfl) (by simp) (by rfl) ?_|(refine st_append_cut (kk := .u8) (xs := d) (ys := [d.length % 256]) (by rfl) (by rfl) (RdW.old hr2) (RdW.own (by repeat first|apply Find.here|apply Find.there)) (by rfl) (by rfl) (by rfl) (by rfl) (by simp) (by simp; omega) (by simp; omega) (by rfl) fun _ => ?_)|rw [← tg_def]|rw [hsh]|refine st_buildSliceN (vs := [n / 256 % 256, n % 256, 0]) (kk := .u8) (by rfl) (by rfl) (by rfl) (by rfl) (by rfl) (by rfl) (by rfl) (by rfl) fun _ => ?_|(refine st_fact (fun w hw => (RdW.own (xs := (List.replicate 64 0).map (N .u8)) (by repeat first|apply Find.here|apply Find.there) w hw).one) fun hv1 => ?_; refine st_fact (fun w hw => (RdW.own (xs := [n / 256 % 256, n % 256, 0].map (N .u8)) (by repeat first|apply Find.here|apply Find.there) w hw).one) fun hv2 => ?_; refine st_fact (fun w hw => (RdW.own (xs := (tg d).map (N .u8)) (by repeat first|apply Find.here|apply Find.there) w hw).one) fun hv3 => ?_; refine st_buildSlice (E := 22) (vs := [_, s1, _, _]) (by rfl) (by rfl) (by rfl) (by rfl) (by rfl) (by rfl) (by rfl) (by simp [hv1, hv2, hv3, hs1o]) (by rfl) (by rfl) fun _ => ?_)|(refine st_callV (by rfl) (by rfl) (by rfl) (xsum_spec _ [(_, List.replicate 64 0), (s1, m), (_, [n / 256 % 256, n % 256, 0]), (_, tg d)] (hCb _ _ _ _) (hCl _ _ _ _) (hC3 _ _ _ _ _ _ _ _)) (fun w hw => ⟨RdW.own (by repeat first|apply Find.here|apply Find.there) w hw, by intro p hp; simp only [List.mem_cons, List.not_mem_nil, or_false] at hp; rcases hp with rfl | rfl | rfl | rfl; exact RdW.own (by repeat first|apply Find.here|apply Find.there) w hw; exact RdW.old hr1 w hw; exact RdW.own (by repeat first|apply Find.here|apply Find.there) w hw; exact RdW.own (by repeat first|apply Find.here|apply Find.there) w hw⟩) (by rfl) ?_; rw [hC, ← xf_def])|(refine y_22 ?_;intro _)|refine y_29 ?_|refine Z82 fun _ => ?_|refine Z83 fun _ => ?_|refine Z84 fun _ => ?_|refine Z85 fun _ => ?_)
 rename_i tv a41 a48 a50 b9 b11
 refine st_own_nil 5 ?_
 refine st_loop (ι := Nat × Value) (fun q => q.1 ≤ (n + 31) / 32) (fun q => [(0, s1), (1, s2), (2, N .i64 n), (8, tv), (9, pt b9 0), (10, q.2), (11, pt b11 0), (12, N .i64 (q.1 + 1))])
  (fun q => [.blk b11 (LV .u8 (Xk m d n q.1)) 64, .sl q.2 ((xk m d n q.1).map (N .u8)) 5, .blk b9 (LV .u8 (xf m d n)) 64, .sl tv ((tg d).map (N .u8)) 5]) (fun q => (n + 31) / 32 - q.1) (0, .slice none 0 0) (by simp) (by repeat (first|apply subL.nil|refine subL.cons (by rfl) ?_)) (by simp only [xk_0, Xk_0]; exact (by repeat (first|apply SubW.nil|refine y_8 ?_))) ?_
 rintro ⟨i, v⟩ hi
 simp only at hi ⊢
 have hol := xk_len m d n i
 have hXl := Xk_len m d n i
 have hXb := Xk_lt m d n i
 have hzl := xl_len hXl hfl
 have hzb := xl_lt hXb hfb
 have hal : (xl (Xk m d n i) (xf m d n)).length = (Xk m d n i).length := by rw [hzl, hXl]
 repeat (first|refine y_29 ?_|refine Z82 fun _ => ?_|refine Z83 fun _ => ?_|refine Z84 fun _ => ?_|refine Z85 fun _ => ?_)
 refine st_cond (by rfl) (fun h => ?_) (fun h => ?_)
 ·rw [hol] at h
  repeat (first|refine y_29 ?_|refine Z82 fun _ => ?_|refine Z83 fun _ => ?_|refine Z84 fun _ => ?_|refine Z85 fun _ => ?_)
  refine st_loop (ι := Nat) (fun k => k ≤ 32) (fun k => [(0, s1), (1, s2), (2, N .i64 n), (8, tv), (9, pt b9 0), (10, v), (11, pt b11 0), (12, N .i64 (i + 1)), (58, N .i64 k)])
   (fun k => [.blk b11 (LV .u8 (Sha.mixT (xl (Xk m d n i) (xf m d n)) (Xk m d n i) k)) 64, .sl v ((xk m d n i).map (N .u8)) 5, .blk b9 (LV .u8 (xf m d n)) 64, .sl tv ((tg d).map (N .u8)) 5]) (fun k => 32 - k) 0 (by omega) (by repeat (first|apply subL.nil|refine subL.cons (by rfl) ?_)) (by rw [Sha.mixT_0]; exact (by repeat (first|apply SubW.nil|refine y_8 ?_))) ?_
  intro k hk
  have hml := Sha.mixT_len hal k
  rw [hXl] at hml
  repeat (first|refine y_29 ?_|refine Z82 fun _ => ?_|refine Z83 fun _ => ?_|refine Z84 fun _ => ?_|refine Z85 fun _ => ?_)
  refine st_cond (by rfl) (fun h => ?_) (fun h => ?_)
  ·have hg := Sha.mixT_getD hal (i := k) (by omega)
   have hx := xl_get hXl hfl h
   repeat (first|refine y_29 ?_|refine Z82 fun _ => ?_|refine Z83 fun _ => ?_|refine Z84 fun _ => ?_|refine Z85 fun _ => ?_)
   refine st_draw1 (by rfl) ?_
   repeat (first|(refine Zqf (by intro _ _ _;(first|refine Z01 ?_|refine Z02 ?_|refine Z15 ?_|refine Z17 ?_|refine Z18 ?_|refine Z20 ?_|refine Z21 ?_|refine Z22 ?_|refine Z23 ?_|refine Z39 ?_|refine Z42 ?_|refine Z44 ?_|refine Z45 ?_|refine Z49 ?_|refine Z50 ?_|refine Z58 ?_|refine Z59 ?_|refine Z62 ?_|refine Z63 ?_|refine Z64 ?_|refine Z70 ?_|refine Z74 ?_|refine Z80 ?_);exact Zq) ?_)|(refine Zqp (by intro _ _ _;(first|refine y_9 ?_);exact Zq) ?_)|refine y_185 ?_|refine Zqn ?_)
   refine Zq0 ?_ (by kernel_rfl)
   repeat (first|refine y_29 ?_|refine Z82 fun _ => ?_|refine Z83 fun _ => ?_|refine Z84 fun _ => ?_|refine Z85 fun _ => ?_)
   rw [hg, Nat.mod_eq_of_lt (hXb.getD (by decide) k), Nat.mod_eq_of_lt (hfb.getD (by decide) k), ← hx, Sha.mix_take hal (by omega)]
   exact st_round (k + 1) (by omega) (by omega) (by repeat (first|apply subL.nil|refine subL.cons (by rfl) ?_)) (by repeat (first|apply SubW.nil|refine y_8 ?_))
  ·have hk32 : k = 32 := by omega
   subst hk32
   have hma := Sha.mixT_all hal
   rw [hXl] at hma
   rw [hma]
   have hG : ∀ p q r : Value, flat [(p, xl (Xk m d n i) (xf m d n)), (q, [(i + 1) % 256]), (r, tg d)] = xl (Xk m d n i) (xf m d n) ++ [(i + 1) % 256] ++ tg d := fun p q r => flat3 p q r _ _ _
   have hGb : ∀ p q r : Value, Lt 256 (flat [(p, xl (Xk m d n i) (xf m d n)), (q, [(i + 1) % 256]), (r, tg d)]) := fun p q r => by rw [hG]; exact Lt.app (Lt.app hzb (Lt.one (Nat.mod_lt _ (by decide)))) htb
   have hGl : ∀ p q r : Value, (flat [(p, xl (Xk m d n i) (xf m d n)), (q, [(i + 1) % 256]), (r, tg d)]).length < 4294967296 := fun p q r => by rw [hG]; simp; omega
   have hG3 : ∀ (p q r : Value) (xs ys zs : List Nat), [(p, xs), (q, ys), (r, zs)].length < 4294967296 := fun p q r xs ys zs => by simp
   have hXs := Xk_succ m d n i
   have hks := xk_succ m d n i
   have hXl' := Xk_len m d n (i + 1)
   have hcut : List.drop 0 (List.take 32 (Xk m d n (i + 1))) = Xk m d n (i + 1) := by rw [List.drop_zero, List.take_of_length_le (by omega)]
   repeat (first|rw [hcut]|rw [← hks]|(refine st_fact (fun w hw => (RdW.own (xs := [(i + 1) % 256].map (N .u8)) (by repeat first|apply Find.here|apply Find.there) w hw).one) fun hv1 => ?_; refine st_fact (fun w hw => (RdW.own (xs := (tg d).map (N .u8)) (by repeat first|apply Find.here|apply Find.there) w hw).one) fun hv2 => ?_; refine st_buildSlice (E := 22) (vs := [subA b11 32 0 32, _, _]) (by rfl) (by rfl) (by rfl) (by rfl) (by rfl) (by rfl) (by rfl) (by simp [hv1, hv2, subA_one]) (by rfl) (by rfl) fun _ => ?_)|(refine st_callV (by rfl) (by rfl) (by rfl) (xsum_spec _ [(subA b11 32 0 32, xl (Xk m d n i) (xf m d n)), (_, [(i + 1) % 256]), (_, tg d)] (hGb _ _ _) (hGl _ _ _) (hG3 _ _ _ _ _ _)) (fun w hw => ⟨RdW.own (by repeat first|apply Find.here|apply Find.there) w hw, by intro p hp; simp only [List.mem_cons, List.not_mem_nil, or_false] at hp; rcases hp with rfl | rfl | rfl; exact RdW.arrAll (m := 32) (by repeat first|apply Find.here|apply Find.there) hzl w hw; exact RdW.own (by repeat first|apply Find.here|apply Find.there) w hw; exact RdW.own (by repeat first|apply Find.here|apply Find.there) w hw⟩) (by rfl) ?_; rw [hG, ← hXs])|refine y_29 ?_|refine Z82 fun _ => ?_|refine Z83 fun _ => ?_|refine Z84 fun _ => ?_|refine Z85 fun _ => ?_)
   rename_i v'
   exact st_round (i + 1, v') (by simp only; omega) (by simp only; omega) (by repeat (first|apply subL.nil|refine subL.cons (by rfl) ?_)) (by repeat (first|apply SubW.nil|refine y_8 ?_))
 ·rw [hol] at h
  have hie : i = (n + 31) / 32 := by omega
  subst hie
  repeat (first|(refine st_slice3 (k := n) (by rfl) (by rfl) (by rfl) (RdW.own (by repeat first|apply Find.here|apply Find.there)) (by rfl) (by rfl) (by rw [List.length_map, hol]; omega) (by rfl) ?_)|refine y_29 ?_|refine Z82 fun _ => ?_|refine Z83 fun _ => ?_|refine Z84 fun _ => ?_|refine Z85 fun _ => ?_)
  refine st_resl3 (s := v) n (by repeat first|apply Find.here|apply Find.there) (by rw [List.length_map, hol]; omega) ?_
  rw [← List.map_take, ← xpand_def]
  exact Ze2 fun _ hw => post_of hw (Wout := [.sl (cut3 v n) ((xpand m d n).map (N .u8)) 5]) (by exact (by repeat (first|apply SubW.nil|refine y_8 ?_))) ⟨_, rfl, rfl⟩
theorem y_30 {a b : Prop} (k : b) (h : Rm b → a := by intro k;refine st_cmp (r := true) (by rfl) (by rfl) (cmpN_t (by first | (simp only [cmpP]; done) | (simp only [cmpP]; omega))) (by rfl) ?_;exact k.h) : a := h ⟨k⟩
theorem xexpand_dst (s1 s2 : Value) (d : List Nat) (n : Int) (h : d.length < 1 ∨ 255 < d.length) : Spec Tryz.prog 22 [s1, s2, .int .i64 n] (fun w => Rd w s2 (d.map (N .u8))) [] (IsV (.tuple [.slice none 0 0, N .i64 170].toArray)) := by
 refine mk_spec Tryz.func22 rfl rfl rfl fun w hr => ?_
 have hr2 := RdC.mk0 hr
 by_cases h0 : d.length < 1
 ·repeat (first|refine y_30 ?_|refine Z01 ?_|refine Z02 ?_|refine Z03 ?_|refine Z04 ?_|refine Z05 ?_|refine Z06 ?_|refine Z07 ?_|refine Z08 ?_|refine Z09 ?_|refine Z10 ?_|refine Z11 ?_|refine Z12 ?_|refine Z13 ?_|refine Z14 ?_|refine Z15 ?_|refine Z17 ?_|refine Z18 ?_|refine Z20 ?_|refine Z21 ?_|refine Z22 ?_|refine Z23 ?_|refine Z24 ?_|refine Z25 ?_|refine Z26 ?_|refine Z27 ?_|refine Z28 ?_|refine Z29 ?_|refine Z30 ?_|refine Z31 ?_|refine Z32 ?_|refine Z39 ?_|refine Z42 ?_|refine Z44 ?_|refine Z45 ?_|refine Z49 ?_|refine Z50 ?_|refine Z51 ?_|refine Z52 ?_|refine Z53 ?_|refine Z58 ?_|refine Z59 ?_|refine Z62 ?_|refine Z63 ?_|refine Z64 ?_|refine Z67 ?_|refine Z70 ?_|refine Z74 ?_|refine Z80 ?_|refine Z82 fun _ => ?_|refine Z83 fun _ => ?_|refine Z84 fun _ => ?_|refine Z85 fun _ => ?_)
  exact Ze2 fun _ hw => post_of hw SubW.nil ⟨rfl, rfl⟩
 ·have h1 : 255 < d.length := by omega
  clear h
  repeat (first|refine y_25 ?_|refine y_30 ?_|refine Z01 ?_|refine Z02 ?_|refine Z03 ?_|refine Z04 ?_|refine Z05 ?_|refine Z06 ?_|refine Z07 ?_|refine Z08 ?_|refine Z09 ?_|refine Z10 ?_|refine Z11 ?_|refine Z12 ?_|refine Z13 ?_|refine Z14 ?_|refine Z15 ?_|refine Z17 ?_|refine Z18 ?_|refine Z20 ?_|refine Z21 ?_|refine Z22 ?_|refine Z23 ?_|refine Z24 ?_|refine Z25 ?_|refine Z26 ?_|refine Z27 ?_|refine Z28 ?_|refine Z29 ?_|refine Z30 ?_|refine Z31 ?_|refine Z32 ?_|refine Z39 ?_|refine Z42 ?_|refine Z44 ?_|refine Z45 ?_|refine Z49 ?_|refine Z50 ?_|refine Z51 ?_|refine Z52 ?_|refine Z53 ?_|refine Z58 ?_|refine Z59 ?_|refine Z62 ?_|refine Z63 ?_|refine Z64 ?_|refine Z67 ?_|refine Z70 ?_|refine Z74 ?_|refine Z80 ?_|refine Z82 fun _ => ?_|refine Z83 fun _ => ?_|refine Z84 fun _ => ?_|refine Z85 fun _ => ?_)
  exact Ze2 fun _ hw => post_of hw SubW.nil ⟨rfl, rfl⟩
end Go.Proofs.YtbpmbdlgmmabcaaGreat.L
namespace Go.Proofs.YtbpmbdlgmmabcaaGreat.Num
def val (B : Nat) : List Nat → Nat
 | [] => 0
 | x :: r => x + B * val B r
def dig (B : Nat) : Nat → Nat → List Nat
 | 0, _ => []
 | n + 1, v => v % B :: dig B n (v / B)
def Lt (m : Nat) (xs : List Nat) : Prop := ∀ x ∈ xs, x < m
section
variable {B : Nat}
theorem dig_len (n v : Nat) : (dig B n v).length = n := by
 induction n generalizing v with
 | zero => rfl
 | succ n ih => simp [dig, ih]
theorem dig_lt (hB : 0 < B) (n v : Nat) : Lt B (dig B n v) := by
 induction n generalizing v with
 | zero => intro x hx; simp [dig] at hx
 | succ n ih =>
  intro x hx
  simp only [dig, List.mem_cons] at hx
  rcases hx with rfl | hx
  ·exact Nat.mod_lt _ hB
  ·exact ih _ x hx
theorem mod_pow_succ (v n : Nat) : v % B ^ (n + 1) = v % B + B * (v / B % B ^ n) := by
 rw [Nat.pow_succ, Nat.mul_comm, Nat.mod_mul]
theorem mod_pow_succ' (v n : Nat) : v % B ^ (n + 1) = v % B ^ n + B ^ n * (v / B ^ n % B) := by
 rw [Nat.pow_succ, Nat.mod_mul]
theorem val_dig (n v : Nat) : val B (dig B n v) = v % B ^ n := by
 induction n generalizing v with
 | zero => simp [dig, val, Nat.mod_one]
 | succ n ih => simp only [dig, val, ih, mod_pow_succ]
theorem val_cons (x : Nat) (r : List Nat) : val B (x :: r) = x + B * val B r := rfl
theorem Lt.nil (m : Nat) : Lt m [] := by intro x hx; cases hx
theorem Lt.cons {m x : Nat} {r : List Nat} (h : x < m) (hr : Lt m r) : Lt m (x :: r) := by
 intro y hy
 rcases List.mem_cons.1 hy with rfl | hy
 ·exact h
 ·exact hr y hy
theorem Lt.tail {m x : Nat} {r : List Nat} (h : Lt m (x :: r)) : Lt m r := fun y hy => h y (List.mem_cons_of_mem _ hy)
theorem Lt.head {m x : Nat} {r : List Nat} (h : Lt m (x :: r)) : x < m := h x (List.mem_cons_self ..)
theorem Lt.append {m : Nat} {xs ys : List Nat} (h : Lt m xs) (k : Lt m ys) : Lt m (xs ++ ys) := fun x hx => by
 rcases List.mem_append.1 hx with hx | hx
 ·exact h x hx
 ·exact k x hx
theorem Lt.take {m : Nat} {xs : List Nat} (h : Lt m xs) (i : Nat) : Lt m (xs.take i) := fun x hx => h x (List.mem_of_mem_take hx)
theorem Lt.drop {m : Nat} {xs : List Nat} (h : Lt m xs) (i : Nat) : Lt m (xs.drop i) := fun x hx => h x (List.mem_of_mem_drop hx)
theorem Lt.getD {m : Nat} {xs : List Nat} (h : Lt m xs) (hm : 0 < m) (i : Nat) : xs.getD i 0 < m := by
 rw [List.getD_eq_getElem?_getD]
 cases hi : xs[i]? with
 | none => exact hm
 | some v => exact h v (List.mem_of_getElem? hi)
theorem val_lt (_ : 0 < B) {xs : List Nat} (h : Lt B xs) : val B xs < B ^ xs.length := by
 induction xs with
 | nil => simp [val]
 | cons x r ih =>
  have h1 := ih h.tail
  have h2 := h.head
  have h3 : B * (val B r + 1) ≤ B * B ^ r.length := Nat.mul_le_mul_left _ h1
  simp only [val_cons, List.length_cons, Nat.pow_succ]
  rw [Nat.mul_comm (B ^ r.length)]
  rw [Nat.mul_add] at h3
  omega
theorem dig_val {xs : List Nat} (h : Lt B xs) : dig B xs.length (val B xs) = xs := by
 induction xs with
 | nil => rfl
 | cons x r ih =>
  have h2 := h.head
  have hB : 0 < B := by omega
  have e1 : (x + B * val B r) % B = x := by rw [Nat.add_mul_mod_self_left, Nat.mod_eq_of_lt h2]
  have e2 : (x + B * val B r) / B = val B r := by rw [Nat.add_mul_div_left _ _ hB, Nat.div_eq_of_lt h2]; omega
  simp only [val_cons, List.length_cons, dig, e1, e2, ih h.tail]
theorem dig_mod (n m v : Nat) (h : n ≤ m) : dig B n (v % B ^ m) = dig B n v := by
 induction n generalizing v m with
 | zero => rfl
 | succ n ih =>
  obtain ⟨k, rfl⟩ : ∃ k, m = k + 1 := ⟨m - 1, by omega⟩
  simp only [dig]
  have e1 : v % B ^ (k + 1) % B = v % B := by rw [Nat.pow_succ]; exact Nat.mod_mul_left_mod _ _ _
  have e2 : v % B ^ (k + 1) / B = v / B % B ^ k := by
   rw [Nat.pow_succ, Nat.mul_comm, Nat.mod_mul_right_div_self]
  rw [e1, e2, ih _ _ (by omega)]
theorem val_append (xs ys : List Nat) : val B (xs ++ ys) = val B xs + B ^ xs.length * val B ys := by
 induction xs with
 | nil => simp [val]
 | cons x r ih => simp only [List.cons_append, val_cons, ih, List.length_cons, Nat.pow_succ, Nat.mul_add, Nat.add_assoc]; congr 2; rw [Nat.mul_comm (B ^ r.length) B, Nat.mul_assoc]
theorem val_rep0 (n : Nat) : val B (List.replicate n 0) = 0 := by
 induction n with
 | zero => rfl
 | succ n ih => simp [List.replicate_succ, val, ih]
theorem dig_add (n m v : Nat) : dig B (n + m) v = dig B n v ++ dig B m (v / B ^ n) := by
 induction n generalizing v with
 | zero => simp [dig]
 | succ n ih => rw [Nat.add_right_comm]; simp only [dig, ih, List.cons_append, Nat.pow_succ]; rw [Nat.div_div_eq_div_mul, Nat.mul_comm B]
theorem dig_snoc (n v : Nat) : dig B (n + 1) v = dig B n v ++ [v / B ^ n % B] := by rw [dig_add]; simp [dig]
theorem dig_zero (n : Nat) : dig B n 0 = List.replicate n 0 := by
 induction n with
 | zero => rfl
 | succ n ih => simp [dig, ih, List.replicate_succ]
theorem getD_val {xs : List Nat} (h : Lt B xs) (i : Nat) : xs.getD i 0 = val B xs / B ^ i % B := by
 induction xs generalizing i with
 | nil => simp [val]
 | cons x r ih =>
  have h2 := h.head
  have hB : 0 < B := by omega
  have e2 : (x + B * val B r) / B = val B r := by rw [Nat.add_mul_div_left _ _ hB, Nat.div_eq_of_lt h2]; omega
  cases i with
  | zero => simp only [List.getD_cons_zero, val_cons, Nat.pow_zero, Nat.div_one, Nat.add_mul_mod_self_left, Nat.mod_eq_of_lt h2]
  | succ i => rw [List.getD_cons_succ, ih h.tail, val_cons, Nat.pow_succ, Nat.mul_comm (B ^ i), ← Nat.div_div_eq_div_mul, e2]
theorem getD_dig (n v i : Nat) (h : i < n) : (dig B n v).getD i 0 = v / B ^ i % B := by
 induction n generalizing v i with
 | zero => omega
 | succ n ih =>
  cases i with
  | zero => simp [dig]
  | succ i => rw [dig, List.getD_cons_succ, ih _ _ (by omega), Nat.pow_succ, Nat.mul_comm (B ^ i), Nat.div_div_eq_div_mul]
theorem getD_out {xs : List Nat} {i : Nat} (h : xs.length ≤ i) : xs.getD i 0 = 0 := by
 rw [List.getD_eq_getElem?_getD, List.getElem?_eq_none h]; rfl
theorem val_take {xs : List Nat} (h : Lt B xs) (i : Nat) : val B (xs.take i) = val B xs % B ^ i := by
 induction xs generalizing i with
 | nil => simp [val]
 | cons x r ih =>
  have h2 := h.head
  have hB : 0 < B := by omega
  have e2 : (x + B * val B r) / B = val B r := by rw [Nat.add_mul_div_left _ _ hB, Nat.div_eq_of_lt h2]; omega
  cases i with
  | zero => simp [val, Nat.mod_one]
  | succ i =>
   rw [List.take_succ_cons, val_cons, ih h.tail, val_cons, mod_pow_succ, e2, Nat.add_mul_mod_self_left, Nat.mod_eq_of_lt h2]
theorem val_drop {xs : List Nat} (h : Lt B xs) (i : Nat) : val B (xs.drop i) = val B xs / B ^ i := by
 induction xs generalizing i with
 | nil => simp [val]
 | cons x r ih =>
  have h2 := h.head
  have hB : 0 < B := by omega
  have e2 : (x + B * val B r) / B = val B r := by rw [Nat.add_mul_div_left _ _ hB, Nat.div_eq_of_lt h2]; omega
  cases i with
  | zero => simp
  | succ i => rw [List.drop_succ_cons, ih h.tail, val_cons, Nat.pow_succ, Nat.mul_comm (B ^ i), ← Nat.div_div_eq_div_mul, e2]
theorem val_inj {xs ys : List Nat} (h : Lt B xs) (k : Lt B ys) (hl : xs.length = ys.length) (hv : val B xs = val B ys) : xs = ys := by
 rw [← dig_val h, ← dig_val k, hl, hv]
theorem val_set {xs : List Nat} (h : Lt B xs) (i y : Nat) (hi : i < xs.length) : val B (xs.set i y) + B ^ i * xs.getD i 0 = val B xs + B ^ i * y := by
 induction xs generalizing i with
 | nil => simp at hi
 | cons x r ih =>
  cases i with
  | zero => simp [val]; omega
  | succ i =>
   have := ih h.tail i (by simpa using hi)
   simp only [List.set_cons_succ, val_cons, List.getD_cons_succ, Nat.pow_succ]
   have e : ∀ z, B ^ i * B * z = B * (B ^ i * z) := fun z => by rw [Nat.mul_comm (B ^ i), Nat.mul_assoc]
   have h3 : B * (val B (r.set i y) + B ^ i * r.getD i 0) = B * (val B r + B ^ i * y) := by rw [this]
   rw [Nat.mul_add, Nat.mul_add] at h3
   rw [e, e]; omega
theorem Lt.set {m : Nat} {xs : List Nat} (h : Lt m xs) {y : Nat} (hy : y < m) (i : Nat) : Lt m (xs.set i y) := fun x hx => by
 rcases List.mem_or_eq_of_mem_set hx with hx | rfl
 ·exact h x hx
 ·exact hy
end
def W : Nat := 18446744073709551616
theorem W_pos : 0 < W := by decide
@[irreducible] def V (xs : List Nat) : Nat := val W xs
@[irreducible] def D (n v : Nat) : List Nat := dig W n v
theorem V_def (xs : List Nat) : V xs = val W xs := by unfold V; rfl
theorem D_def (n v : Nat) : D n v = dig W n v := by unfold D; rfl
theorem D_len (n v : Nat) : (D n v).length = n := by rw [D_def]; exact dig_len _ _
theorem D_lt (n v : Nat) : Lt 18446744073709551616 (D n v) := by rw [D_def]; exact dig_lt W_pos _ _
theorem V_D (n v : Nat) : V (D n v) = v % W ^ n := by rw [V_def, D_def]; exact val_dig _ _
theorem V_D' {n v : Nat} (h : v < W ^ n) : V (D n v) = v := by rw [V_D, Nat.mod_eq_of_lt h]
theorem D_V {xs : List Nat} (h : Lt 18446744073709551616 xs) : D xs.length (V xs) = xs := by rw [V_def, D_def]; exact dig_val h
theorem V_lt {xs : List Nat} (h : Lt 18446744073709551616 xs) : V xs < W ^ xs.length := by rw [V_def]; exact val_lt W_pos h
theorem V_nil : V [] = 0 := by rw [V_def]; rfl
theorem V_one (x : Nat) : V [x] = x := by rw [V_def]; simp [val]
theorem D_mod (n v : Nat) : D n (v % W ^ n) = D n v := by rw [D_def, D_def]; exact dig_mod _ _ _ (Nat.le_refl _)
theorem D_inj {n v v' : Nat} (h : D n v = D n v') : v % W ^ n = v' % W ^ n := by rw [← V_D, h, V_D]
theorem D_snoc (n v : Nat) : D (n + 1) v = D n v ++ [v / W ^ n % W] := by rw [D_def, D_def]; exact dig_snoc _ _
theorem D_0 (v : Nat) : D 0 v = [] := by rw [D_def]; rfl
theorem D_zero (n : Nat) : D n 0 = List.replicate n 0 := by rw [D_def]; exact dig_zero n
theorem D_add (n m v : Nat) : D (n + m) v = D n v ++ D m (v / W ^ n) := by simp only [D_def]; exact dig_add _ _ _
theorem V_append (xs ys : List Nat) : V (xs ++ ys) = V xs + W ^ xs.length * V ys := by simp only [V_def]; exact val_append _ _
theorem V_getD {xs : List Nat} (h : Lt 18446744073709551616 xs) (i : Nat) : xs.getD i 0 = V xs / W ^ i % W := by rw [V_def]; exact getD_val h i
theorem D_getD (n v i : Nat) (h : i < n) : (D n v).getD i 0 = v / W ^ i % W := by rw [D_def]; exact getD_dig n v i h
theorem V_take {xs : List Nat} (h : Lt 18446744073709551616 xs) (i : Nat) : V (xs.take i) = V xs % W ^ i := by simp only [V_def]; exact val_take h i
theorem V_drop {xs : List Nat} (h : Lt 18446744073709551616 xs) (i : Nat) : V (xs.drop i) = V xs / W ^ i := by simp only [V_def]; exact val_drop h i
theorem V_rep0 (n : Nat) : V (List.replicate n 0) = 0 := by rw [V_def]; exact val_rep0 n
theorem V_set {xs : List Nat} (h : Lt 18446744073709551616 xs) (i y : Nat) (hi : i < xs.length) : V (xs.set i y) + W ^ i * xs.getD i 0 = V xs + W ^ i * y := by simp only [V_def]; exact val_set h i y hi
theorem V_inj {xs ys : List Nat} (h : Lt 18446744073709551616 xs) (k : Lt 18446744073709551616 ys) (hl : xs.length = ys.length) (hv : V xs = V ys) : xs = ys := by
 simp only [V_def] at hv; exact val_inj h k hl hv
theorem W_mod_succ (v n : Nat) : v % W ^ (n + 1) = v % W ^ n + W ^ n * (v / W ^ n % W) := mod_pow_succ' v n
theorem W_pow_pos (n : Nat) : 0 < W ^ n := Nat.pow_pos W_pos
theorem W_le {m n : Nat} (h : m ≤ n) : W ^ m ≤ W ^ n := Nat.pow_le_pow_right W_pos h
end Go.Proofs.YtbpmbdlgmmabcaaGreat.Num
namespace Go.Proofs.YtbpmbdlgmmabcaaGreat.Num
theorem split_p (A p : Nat) : A % p + p * (A / p) = A := Nat.mod_add_div A p
theorem add_digit (A B i : Nat) : (A + B) / W ^ i % W = (A / W ^ i % W + B / W ^ i % W + (A % W ^ i + B % W ^ i) / W ^ i) % W := by
 have hp := W_pow_pos i
 generalize W ^ i = p at *
 have hA := split_p A p
 have hB := split_p B p
 have e : A + B = (A % p + B % p) + p * (A / p + B / p) := by rw [Nat.mul_add]; omega
 conv => lhs; rw [e, Nat.add_mul_div_left _ _ hp]
 generalize A / p = x
 generalize B / p = y
 generalize (A % p + B % p) / p = c
 simp only [W]; omega
theorem add_carry (A B i : Nat) : (A % W ^ (i + 1) + B % W ^ (i + 1)) / W ^ (i + 1) = (A / W ^ i % W + B / W ^ i % W + (A % W ^ i + B % W ^ i) / W ^ i) / W := by
 rw [W_mod_succ, W_mod_succ, Nat.pow_succ, ← Nat.div_div_eq_div_mul]
 have hp := W_pow_pos i
 generalize W ^ i = p at *
 have e : A % p + p * (A / p % W) + (B % p + p * (B / p % W)) = (A % p + B % p) + p * (A / p % W + B / p % W) := by rw [Nat.mul_add]; omega
 rw [e, Nat.add_mul_div_left _ _ hp, Nat.add_comm ((A % p + B % p) / p)]
theorem add_step (A B i : Nat) : D (i + 1) (A + B) = D i (A + B) ++ [(A / W ^ i % W + B / W ^ i % W + (A % W ^ i + B % W ^ i) / W ^ i) % W] := by
 rw [D_snoc, add_digit]
def bw (A B i : Nat) : Nat := if A % W ^ i < B % W ^ i then 1 else 0
def sb (A B i : Nat) : Nat := A % W ^ i + W ^ i - B % W ^ i
theorem bw_le (A B i : Nat) : bw A B i ≤ 1 := by unfold bw; split <;> omega
theorem bw_0 (A B : Nat) : bw A B 0 = 0 := by simp [bw, Nat.mod_one]
theorem sub_carry (A B i : Nat) : bw A B (i + 1) = if A / W ^ i % W < B / W ^ i % W + bw A B i then 1 else 0 := by
 unfold bw
 rw [W_mod_succ, W_mod_succ]
 have hp := W_pow_pos i
 generalize W ^ i = p at *
 have h1 := Nat.mod_lt A hp
 have h2 := Nat.mod_lt B hp
 generalize A / p % W = x
 generalize B / p % W = y
 generalize A % p = a at *
 generalize B % p = b at *
 rcases Nat.lt_trichotomy x y with h | h | h
 ·have := Nat.mul_le_mul_left p (show x + 1 ≤ y from h)
  rw [Nat.mul_add] at this
  rw [if_pos (show a + p * x < b + p * y by omega), if_pos (by split <;> omega)]
 ·subst h
  by_cases hab : a < b
  ·rw [if_pos (by omega), if_pos (by rw [if_pos hab]; omega)]
  ·rw [if_neg (by omega), if_neg (by rw [if_neg hab]; omega)]
 ·have := Nat.mul_le_mul_left p (show y + 1 ≤ x from h)
  rw [Nat.mul_add] at this
  rw [if_neg (show ¬ a + p * x < b + p * y by omega), if_neg (by split <;> omega)]
theorem sub_step (A B i : Nat) : D (i + 1) (sb A B (i + 1)) = D i (sb A B i) ++ [(A / W ^ i % W + 18446744073709551616 - B / W ^ i % W - bw A B i) % W] := by
 have hp := W_pow_pos i
 have h1 := Nat.mod_lt A hp
 have h2 := Nat.mod_lt B hp
 have hx : A / W ^ i % W < W := Nat.mod_lt _ W_pos
 have hy : B / W ^ i % W < W := Nat.mod_lt _ W_pos
 have hW : W = 18446744073709551616 := rfl
 have e : sb A B (i + 1) = sb A B i + W ^ i * (A / W ^ i % W + W - B / W ^ i % W - 1) := by
  unfold sb
  rw [W_mod_succ, W_mod_succ, Nat.pow_succ]
  generalize W ^ i = p at *
  generalize A / p % W = x at *
  generalize B / p % W = y at *
  have e2 : p * (x + W - y - 1) + p * y + p = p * x + p * W := by
   rw [← Nat.mul_add, ← Nat.mul_succ, ← Nat.mul_add]; congr 1; omega
  omega
 rw [D_snoc, e]
 have e3 : D i (sb A B i + W ^ i * (A / W ^ i % W + W - B / W ^ i % W - 1)) = D i (sb A B i) := by
  rw [← D_mod, Nat.add_mul_mod_self_left, D_mod]
 rw [e3, Nat.add_mul_div_left _ _ hp]
 have e4 : sb A B i / W ^ i = 1 - bw A B i := by
  unfold sb bw
  by_cases hab : A % W ^ i < B % W ^ i
  ·rw [if_pos hab, Nat.div_eq_of_lt (by omega)]
  ·rw [if_neg hab]
   generalize W ^ i = p at *
   generalize A % p = a at *
   generalize B % p = b at *
   rw [show a + p - b = (a - b) + p * 1 by omega, Nat.add_mul_div_left _ _ hp, Nat.div_eq_of_lt (by omega)]
 rw [e4]
 have := bw_le A B i
 congr 2
 generalize A / W ^ i % W = x at *
 generalize B / W ^ i % W = y at *
 generalize bw A B i = b at *
 rw [hW] at *
 rw [show 1 - b + (x + 18446744073709551616 - y - 1) = x + 18446744073709551616 - y - b by omega]
def crun (g : Nat → Nat → Nat → Nat × Nat) (xs ys : List Nat) : Nat → List Nat × Nat
 | 0 => ([], 0)
 | i + 1 => ((crun g xs ys i).1 ++ [(g (xs.getD i 0) (ys.getD i 0) (crun g xs ys i).2).1], (g (xs.getD i 0) (ys.getD i 0) (crun g xs ys i).2).2)
theorem crun_len (g : Nat → Nat → Nat → Nat × Nat) (xs ys : List Nat) (i : Nat) : (crun g xs ys i).1.length = i := by
 induction i with
 | zero => rfl
 | succ i ih => simp [crun, ih]
theorem crun_0 (g : Nat → Nat → Nat → Nat × Nat) (xs ys : List Nat) : crun g xs ys 0 = ([], 0) := rfl
theorem crun_fst (g : Nat → Nat → Nat → Nat × Nat) (xs ys : List Nat) (i : Nat) : (crun g xs ys (i + 1)).1 = (crun g xs ys i).1 ++ [(g (xs.getD i 0) (ys.getD i 0) (crun g xs ys i).2).1] := rfl
theorem crun_snd (g : Nat → Nat → Nat → Nat × Nat) (xs ys : List Nat) (i : Nat) : (crun g xs ys (i + 1)).2 = (g (xs.getD i 0) (ys.getD i 0) (crun g xs ys i).2).2 := rfl
theorem crun_le {g : Nat → Nat → Nat → Nat × Nat} (hg : ∀ x y c, x < 18446744073709551616 → y < 18446744073709551616 → c ≤ 1 → (g x y c).2 ≤ 1) {xs ys : List Nat} (hx : Lt 18446744073709551616 xs) (hy : Lt 18446744073709551616 ys) (i : Nat) : (crun g xs ys i).2 ≤ 1 := by
 induction i with
 | zero => exact Nat.zero_le _
 | succ i ih => exact hg _ _ _ (hx.getD (by decide) i) (hy.getD (by decide) i) ih
def addg (x y c : Nat) : Nat × Nat := ((x + y + c) % 18446744073709551616, (x + y + c) / 18446744073709551616)
def subg (x y c : Nat) : Nat × Nat := ((x + 18446744073709551616 - y - c) % 18446744073709551616, if x < y + c then 1 else 0)
theorem addg_le (x y c : Nat) (hx : x < 18446744073709551616) (hy : y < 18446744073709551616) (hc : c ≤ 1) : (addg x y c).2 ≤ 1 := by
 simp only [addg]; omega
theorem subg_le (x y c : Nat) (_ : x < 18446744073709551616) (_ : y < 18446744073709551616) (_ : c ≤ 1) : (subg x y c).2 ≤ 1 := by
 simp only [subg]; split <;> omega
theorem crun_add {xs ys : List Nat} (hx : Lt 18446744073709551616 xs) (hy : Lt 18446744073709551616 ys) (i : Nat) :
  crun addg xs ys i = (D i (V xs + V ys), (V xs % W ^ i + V ys % W ^ i) / W ^ i) := by
 induction i with
 | zero => simp [crun, D_0, Nat.mod_one]
 | succ i ih =>
  have e1 := crun_fst addg xs ys i
  have e2 := crun_snd addg xs ys i
  rw [ih] at e1 e2
  rw [add_step, add_carry]
  refine Prod.ext ?_ ?_
  ·rw [e1, V_getD hx, V_getD hy]; rfl
  ·rw [e2, V_getD hx, V_getD hy]; rfl
theorem crun_sub {xs ys : List Nat} (hx : Lt 18446744073709551616 xs) (hy : Lt 18446744073709551616 ys) (i : Nat) :
  crun subg xs ys i = (D i (sb (V xs) (V ys) i), bw (V xs) (V ys) i) := by
 induction i with
 | zero => simp [crun, D_0, bw_0]
 | succ i ih =>
  have e1 := crun_fst subg xs ys i
  have e2 := crun_snd subg xs ys i
  rw [ih] at e1 e2
  rw [sub_step, sub_carry]
  refine Prod.ext ?_ ?_
  ·rw [e1, V_getD hx, V_getD hy]; rfl
  ·rw [e2, V_getD hx, V_getD hy]; rfl
theorem V_lt_le {xs : List Nat} (h : Lt 18446744073709551616 xs) {n : Nat} (hn : xs.length ≤ n) : V xs < W ^ n := Nat.lt_of_lt_of_le (V_lt h) (W_le hn)
theorem crun_add_end {xs ys : List Nat} (hx : Lt 18446744073709551616 xs) (hy : Lt 18446744073709551616 ys) {n : Nat} (h1 : xs.length ≤ n) (h2 : ys.length ≤ n) :
  crun addg xs ys n = (D n (V xs + V ys), (V xs + V ys) / W ^ n) := by
 rw [crun_add hx hy, Nat.mod_eq_of_lt (V_lt_le hx h1), Nat.mod_eq_of_lt (V_lt_le hy h2)]
def sbn (n A B : Nat) : Nat := A + W ^ n - B
def bwn (A B : Nat) : Nat := if A < B then 1 else 0
theorem crun_sub_end {xs ys : List Nat} (hx : Lt 18446744073709551616 xs) (hy : Lt 18446744073709551616 ys) {n : Nat} (h1 : xs.length ≤ n) (h2 : ys.length ≤ n) :
  crun subg xs ys n = (D n (sbn n (V xs) (V ys)), bwn (V xs) (V ys)) := by
 rw [crun_sub hx hy]; unfold sb bw sbn bwn
 rw [Nat.mod_eq_of_lt (V_lt_le hx h1), Nat.mod_eq_of_lt (V_lt_le hy h2)]
theorem crun_set (g : Nat → Nat → Nat → Nat × Nat) (xs ys : List Nat) (i n : Nat) (h : i < n) (y : Nat) : ((crun g xs ys i).1 ++ List.replicate (n - i) 0).set i y = (crun g xs ys i).1 ++ [y] ++ List.replicate (n - (i + 1)) 0 := by
 have hl := crun_len g xs ys i
 rw [List.set_append_right _ _ (by omega), hl, Nat.sub_self, show n - i = (n - (i + 1)) + 1 by omega, List.replicate_succ, List.set_cons_zero, List.append_assoc]; rfl
attribute [irreducible] crun
def ord3 (A B : Nat) : Int := if A < B then -1 else if A = B then 0 else 1
theorem ord3_lt {A B : Nat} (h : A < B) : ord3 A B = -1 := if_pos h
theorem ord3_eq {A B : Nat} (h : A = B) : ord3 A B = 0 := by unfold ord3; rw [if_neg (by omega), if_pos h]
theorem ord3_gt {A B : Nat} (h : B < A) : ord3 A B = 1 := by unfold ord3; rw [if_neg (by omega), if_neg (by omega)]
theorem div_top (A j : Nat) : A / W ^ j = W * (A / W ^ (j + 1)) + A / W ^ j % W := by
 rw [Nat.pow_succ, ← Nat.div_div_eq_div_mul]; exact (Nat.div_add_mod _ _).symm
theorem ord_same {A B j : Nat} (h : A / W ^ (j + 1) = B / W ^ (j + 1)) (hd : A / W ^ j % W = B / W ^ j % W) : A / W ^ j = B / W ^ j := by
 rw [div_top A, div_top B, h, hd]
theorem ord_less {A B j : Nat} (h : A / W ^ (j + 1) = B / W ^ (j + 1)) (hd : A / W ^ j % W < B / W ^ j % W) : A < B := by
 have h1 : A / W ^ j < B / W ^ j := by rw [div_top A, div_top B, h]; omega
 rcases Nat.lt_or_ge A B with h2 | h2
 ·exact h2
 ·have := Nat.div_le_div_right (c := W ^ j) h2; omega
theorem mul_bound {x y : Nat} (hx : x < 18446744073709551616) (hy : y < 18446744073709551616) : x * y ≤ 340282366920938463426481119284349108225 :=
 Nat.mul_le_mul (show x ≤ 18446744073709551615 by omega) (show y ≤ 18446744073709551615 by omega)
theorem mul64_hi (x y : Nat) (hx : x < 18446744073709551616) (hy : y < 18446744073709551616) :
  (x % 4294967296) * (y % 4294967296) < 18446744073709551616 ∧
  (x / 4294967296) * (y % 4294967296) + (x % 4294967296) * (y % 4294967296) / 4294967296 < 18446744073709551616 ∧
  ((x / 4294967296) * (y % 4294967296) + (x % 4294967296) * (y % 4294967296) / 4294967296) % 4294967296 + (x % 4294967296) * (y / 4294967296) < 18446744073709551616 ∧
  (x / 4294967296) * (y / 4294967296) + ((x / 4294967296) * (y % 4294967296) + (x % 4294967296) * (y % 4294967296) / 4294967296) / 4294967296 +
   (((x / 4294967296) * (y % 4294967296) + (x % 4294967296) * (y % 4294967296) / 4294967296) % 4294967296 + (x % 4294967296) * (y / 4294967296)) / 4294967296 = x * y / 18446744073709551616 := by
 have hx1 : x / 4294967296 ≤ 4294967295 := by omega
 have hx0 : x % 4294967296 ≤ 4294967295 := by omega
 have hy1 : y / 4294967296 ≤ 4294967295 := by omega
 have hy0 : y % 4294967296 ≤ 4294967295 := by omega
 have e : x * y = x / 4294967296 * (y / 4294967296) * 18446744073709551616 + (x / 4294967296 * (y % 4294967296) + x % 4294967296 * (y / 4294967296)) * 4294967296 + x % 4294967296 * (y % 4294967296) := by
  have h1 : x = x / 4294967296 * 4294967296 + x % 4294967296 := by omega
  have h2 : y = y / 4294967296 * 4294967296 + y % 4294967296 := by omega
  generalize x / 4294967296 = p at *
  generalize x % 4294967296 = q at *
  generalize y / 4294967296 = r at *
  generalize y % 4294967296 = s at *
  subst h1; subst h2
  grind
 have ha := Nat.mul_le_mul hx1 hy1
 have hb := Nat.mul_le_mul hx1 hy0
 have hc := Nat.mul_le_mul hx0 hy1
 have hd := Nat.mul_le_mul hx0 hy0
 rw [e]
 generalize x / 4294967296 * (y / 4294967296) = a at *
 generalize x / 4294967296 * (y % 4294967296) = b at *
 generalize x % 4294967296 * (y / 4294967296) = c at *
 generalize x % 4294967296 * (y % 4294967296) = d at *
 refine ⟨by omega, by omega, by omega, by omega⟩
theorem mul_word {p c s : Nat} (hp : p < 18446744073709551616) (hc : c < 18446744073709551616) (hs : s ≤ 340282366920938463426481119284349108225) :
  (p + (s % 18446744073709551616 + c) % 18446744073709551616) % 18446744073709551616 + 18446744073709551616 * ((((s / 18446744073709551616 + (s % 18446744073709551616 + c) / 18446744073709551616) % 18446744073709551616) +
   (p + (s % 18446744073709551616 + c) % 18446744073709551616) / 18446744073709551616) % 18446744073709551616) = p + s + c ∧
  (((s / 18446744073709551616 + (s % 18446744073709551616 + c) / 18446744073709551616) % 18446744073709551616) + (p + (s % 18446744073709551616 + c) % 18446744073709551616) / 18446744073709551616) % 18446744073709551616 < 18446744073709551616 := by
 omega
end Go.Proofs.YtbpmbdlgmmabcaaGreat.Num
namespace Go.Proofs.YtbpmbdlgmmabcaaGreat.Num
theorem mul64_mod {a b d e H : Nat} (h1 : e < 18446744073709551616) (h2 : b + e / 4294967296 < 18446744073709551616) (h3 : (b + e / 4294967296) % 4294967296 + d < 18446744073709551616)
  (h4 : a + (b + e / 4294967296) / 4294967296 + ((b + e / 4294967296) % 4294967296 + d) / 4294967296 = H) (h5 : H < 18446744073709551616) :
  ((a % 18446744073709551616 + (b % 18446744073709551616 + e % 18446744073709551616 / 4294967296) % 18446744073709551616 / 4294967296) % 18446744073709551616 +
   ((b % 18446744073709551616 + e % 18446744073709551616 / 4294967296) % 18446744073709551616 % 4294967296 + d % 18446744073709551616) % 18446744073709551616 / 4294967296) % 18446744073709551616 = H := by
 have hb : b < 18446744073709551616 := Nat.lt_of_le_of_lt (Nat.le_add_right _ _) h2
 have hd : d < 18446744073709551616 := Nat.lt_of_le_of_lt (Nat.le_add_left _ _) h3
 have h6 : a + (b + e / 4294967296) / 4294967296 < 18446744073709551616 := Nat.lt_of_le_of_lt (Nat.le_add_right _ _) (h4 ▸ h5)
 have ha : a < 18446744073709551616 := Nat.lt_of_le_of_lt (Nat.le_add_right _ _) h6
 rw [Nat.mod_eq_of_lt h1, Nat.mod_eq_of_lt hb, Nat.mod_eq_of_lt h2, Nat.mod_eq_of_lt hd, Nat.mod_eq_of_lt h3, Nat.mod_eq_of_lt ha, Nat.mod_eq_of_lt h6, h4, Nat.mod_eq_of_lt h5]
def bb : Nat := 4294967296
theorem qhat_ge {u u1 v1 v0 : Nat} (hv1 : 0 < v1) (h1 : u1 < 4294967296) : (u * 4294967296 + u1) / (v1 * 4294967296 + v0) ≤ u / v1 := by
 rw [Nat.le_div_iff_mul_le hv1]
 have h := Nat.div_mul_le_self (u * 4294967296 + u1) (v1 * 4294967296 + v0)
 generalize (u * 4294967296 + u1) / (v1 * 4294967296 + v0) = q at *
 rw [Nat.mul_add q, ← Nat.mul_assoc q v1] at h
 omega
theorem qkey {A B r u u1 : Nat} (h : A + r = u) (h2 : r * 4294967296 + u1 < B) : u * 4294967296 + u1 < A * 4294967296 + B := by
 subst h; rw [Nat.add_mul, Nat.add_assoc]; exact Nat.add_lt_add_left h2 _
theorem qhat_step {u u1 v1 v0 q r : Nat} (hu : u < v1 * 4294967296 + v0) (hqr : q * v1 + r = u) (h1 : u1 < 4294967296) (hc : 4294967296 ≤ q ∨ r * 4294967296 + u1 < q * v0) :
  (u * 4294967296 + u1) / (v1 * 4294967296 + v0) < q := by
 have hp : 0 < v1 * 4294967296 + v0 := by omega
 rw [Nat.div_lt_iff_lt_mul hp]
 rcases hc with hc | hc
 ·have h2 := Nat.mul_le_mul_right (v1 * 4294967296 + v0) hc
  have h3 := Nat.mul_le_mul_left 4294967296 (show u + 1 ≤ v1 * 4294967296 + v0 from hu)
  omega
 ·rw [Nat.mul_add q, ← Nat.mul_assoc q v1]
  exact qkey hqr hc
theorem qhat_stop {u u1 v1 v0 q r : Nat} (hp : 0 < v1 * 4294967296 + v0) (hqr : q * v1 + r = u) (hc : q * v0 ≤ r * 4294967296 + u1) (hq : (u * 4294967296 + u1) / (v1 * 4294967296 + v0) ≤ q) :
  q = (u * 4294967296 + u1) / (v1 * 4294967296 + v0) := by
 refine Nat.le_antisymm ?_ hq
 rw [Nat.le_div_iff_mul_le hp, Nat.mul_add q, ← Nat.mul_assoc q v1]
 omega
theorem qhat_break {u u1 v1 v0 q r : Nat} (hv0 : v0 < 4294967296) (hu : u < v1 * 4294967296 + v0) (hqr : q * v1 + r = u) (hr : 4294967296 ≤ r) : q * v0 ≤ r * 4294967296 + u1 := by
 have hq : q ≤ 4294967296 := by
  rcases Nat.lt_or_ge 4294967296 q with h | h
  ·exfalso
   have h2 := Nat.mul_le_mul_right v1 (show 4294967297 ≤ q from h)
   omega
  ·exact h
 have h3 : q * v0 ≤ 4294967296 * 4294967296 := Nat.mul_le_mul hq (by omega)
 have h4 : 4294967296 * 4294967296 ≤ r * 4294967296 := Nat.mul_le_mul_right _ hr
 omega
theorem qhat_lt {u u1 y : Nat} (hu : u < y) (h1 : u1 < 4294967296) : (u * 4294967296 + u1) / y < 4294967296 := by
 rw [Nat.div_lt_iff_lt_mul (by omega)]
 have := Nat.mul_le_mul_left 4294967296 (show u + 1 ≤ y from hu)
 omega
theorem div_two {u u1 u0 y : Nat} (hy : 0 < y) :
  ((u * 4294967296 + u1) / y) * 4294967296 + (((u * 4294967296 + u1) % y) * 4294967296 + u0) / y = (u * 18446744073709551616 + (u1 * 4294967296 + u0)) / y ∧
  (((u * 4294967296 + u1) % y) * 4294967296 + u0) % y = (u * 18446744073709551616 + (u1 * 4294967296 + u0)) % y := by
 have h1 := Nat.div_add_mod (u * 4294967296 + u1) y
 have h2 := Nat.div_add_mod (((u * 4294967296 + u1) % y) * 4294967296 + u0) y
 have h3 := Nat.mod_lt (((u * 4294967296 + u1) % y) * 4294967296 + u0) hy
 obtain ⟨a, ha⟩ : ∃ a, a = (u * 4294967296 + u1) / y := ⟨_, rfl⟩
 obtain ⟨b, hb⟩ : ∃ b, b = (u * 4294967296 + u1) % y := ⟨_, rfl⟩
 rw [← ha, ← hb] at h1
 rw [← hb] at h2 h3
 rw [← ha, ← hb]
 obtain ⟨d, hd⟩ : ∃ d, d = (b * 4294967296 + u0) / y := ⟨_, rfl⟩
 obtain ⟨e, he⟩ : ∃ e, e = (b * 4294967296 + u0) % y := ⟨_, rfl⟩
 rw [← hd, ← he] at h2
 rw [← he] at h3
 rw [← hd, ← he]
 have e1 : u * 18446744073709551616 + (u1 * 4294967296 + u0) = y * (a * 4294967296 + d) + e := by
  rw [Nat.mul_add y, ← Nat.mul_assoc y a]
  omega
 rw [e1]
 have e2 : (y * (a * 4294967296 + d) + e) / y = a * 4294967296 + d := by rw [Nat.mul_add_div hy, Nat.div_eq_of_lt h3, Nat.add_zero]
 have e3 : (y * (a * 4294967296 + d) + e) % y = e := by rw [Nat.mul_add_mod y, Nat.mod_eq_of_lt h3]
 exact ⟨e2.symm, e3.symm⟩
theorem norm_div {hi lo y s : Nat} (hy : hi < y) (hlo : lo < 18446744073709551616) (hs : s ≤ 64) :
  (hi * 2 ^ s + lo / 2 ^ (64 - s)) * 18446744073709551616 + lo * 2 ^ s % 18446744073709551616 = (hi * 18446744073709551616 + lo) * 2 ^ s ∧ hi * 2 ^ s + lo / 2 ^ (64 - s) < y * 2 ^ s := by
 have hW : (18446744073709551616 : Nat) = 2 ^ (64 - s) * 2 ^ s := by rw [← Nat.pow_add, show 64 - s + s = 64 by omega]
 have hq : lo * 2 ^ s / 18446744073709551616 = lo / 2 ^ (64 - s) := by rw [hW, Nat.mul_div_mul_right _ _ (Nat.two_pow_pos s)]
 have hd := Nat.div_add_mod (lo * 2 ^ s) 18446744073709551616
 rw [hq] at hd
 have hl : lo / 2 ^ (64 - s) < 2 ^ s := by
  rw [Nat.div_lt_iff_lt_mul (Nat.two_pow_pos _), Nat.mul_comm, ← hW]; exact hlo
 have hm := Nat.mul_le_mul_right (2 ^ s) (show hi + 1 ≤ y from hy)
 rw [Nat.add_mul, Nat.one_mul] at hm
 refine ⟨?_, by omega⟩
 rw [Nat.add_mul, Nat.add_mul (hi * 18446744073709551616), show hi * 18446744073709551616 * 2 ^ s = hi * 2 ^ s * 18446744073709551616 by rw [Nat.mul_assoc, Nat.mul_comm 18446744073709551616, Nat.mul_assoc], Nat.add_assoc, Nat.mul_comm (lo / 2 ^ (64 - s)), hd]
theorem or_plus {a b s : Nat} (hb : b < 2 ^ s) : a * 2 ^ s ||| b = a * 2 ^ s + b := by
 rw [Nat.mul_comm, Nat.two_pow_add_eq_or_of_lt hb]
theorem wrap_sub {a b c d : Nat} (h : a + b = c + d) (hd : d < 18446744073709551616) :
  ((a % 18446744073709551616 + b) % 18446744073709551616 + (18446744073709551616 - c % 18446744073709551616 % 18446744073709551616)) % 18446744073709551616 = d := by
 have e1 : (a % 18446744073709551616 + b) % 18446744073709551616 = (a + b) % 18446744073709551616 := by omega
 rw [e1, h]; omega
theorem wrap_sub1 {a c d : Nat} (h : a = c + d) (hd : d < 18446744073709551616) :
  (a + (18446744073709551616 - c % 18446744073709551616 % 18446744073709551616)) % 18446744073709551616 = d := by
 subst h; omega
theorem wrap_dec {q : Nat} (h : 0 < q) (hq : q < 18446744073709551616) : (q + (18446744073709551616 - 1 % 18446744073709551616)) % 18446744073709551616 = q - 1 := by omega
theorem div_rem_eq (a b : Nat) : a = a / b * b + a % b := by rw [Nat.mul_comm]; exact (Nat.div_add_mod a b).symm
def bl (x : Nat) : Nat := if x = 0 then 0 else x.log2 + 1
theorem bl_spec (x : Nat) (h : 0 < x) : x < 2 ^ bl x ∧ 2 ^ (bl x - 1) ≤ x ∧ 0 < bl x := by
 unfold bl
 rw [if_neg (by omega)]
 exact ⟨Nat.lt_log2_self, by simpa using Nat.log2_self_le (by omega), by omega⟩
theorem bl_shift (x k : Nat) (h : 2 ^ k ≤ x) : bl x = k + bl (x >>> k) := by
 have hp : 0 < 2 ^ k := Nat.two_pow_pos k
 have hq : 0 < x / 2 ^ k := Nat.div_pos h hp
 have hx : x ≠ 0 := by omega
 rw [Nat.shiftRight_eq_div_pow]
 unfold bl
 rw [if_neg hx, if_neg (by omega)]
 have h1 := Nat.log2_self_le (show x / 2 ^ k ≠ 0 by omega)
 have h2 : x / 2 ^ k < 2 ^ ((x / 2 ^ k).log2 + 1) := Nat.lt_log2_self
 have e : x.log2 = (x / 2 ^ k).log2 + k := (Nat.log2_eq_iff hx).2
  ⟨by rw [Nat.pow_add]; exact (Nat.le_div_iff_mul_le hp).1 h1, by rw [show (x / 2 ^ k).log2 + k + 1 = ((x / 2 ^ k).log2 + 1) + k by omega, Nat.pow_add]; exact (Nat.div_lt_iff_lt_mul hp).1 h2⟩
 omega
theorem bl_le (x k : Nat) (h : x < 2 ^ k) : bl x ≤ k := by
 unfold bl
 split
 ·omega
 ·rename_i h0
  have := (Nat.log2_lt h0).2 h
  omega
attribute [irreducible] bl
theorem qM_le_two {X M a b t n : Nat} (hM : M < t * W ^ n) (hX : (a * W + b) * W ^ n ≤ X) : (a * W + b) / t * M ≤ X := by
 refine Nat.le_trans ?_ hX
 refine Nat.le_trans (Nat.mul_le_mul_left _ (Nat.le_of_lt hM)) ?_
 rw [← Nat.mul_assoc]
 exact Nat.mul_le_mul_right _ (Nat.div_mul_le_self _ _)
theorem two_words (X n : Nat) : ((X / W ^ (n + 1) % W) * W + X / W ^ n % W) * W ^ n ≤ X := by
 have h : (X / W ^ (n + 1) % W) * W + X / W ^ n % W ≤ X / W ^ n := by
  have e : X / W ^ (n + 1) = X / W ^ n / W := by rw [Nat.pow_succ, Nat.div_div_eq_div_mul]
  rw [e]
  generalize X / W ^ n = z
  simp only [W]
  omega
 exact Nat.le_trans (Nat.mul_le_mul_right _ h) (Nat.div_mul_le_self _ _)
theorem top_word {M n : Nat} (hM : M < W ^ (n + 1)) : M < (M / W ^ n % W + 1) * W ^ n := by
 have hp := W_pow_pos n
 have h1 : M / W ^ n < W := by
  rw [Nat.div_lt_iff_lt_mul hp]
  rw [Nat.pow_succ, Nat.mul_comm] at hM; exact hM
 rw [Nat.mod_eq_of_lt h1]
 have := Nat.lt_div_mul_add hp (a := M)
 rw [Nat.add_mul, Nat.one_mul]; exact this
theorem mod_sub {X M q : Nat} (h : q * M ≤ X) : (X - q * M) % M = X % M := by
 have e : X = (X - q * M) + M * q := by rw [Nat.mul_comm M q]; omega
 conv => rhs; rw [e]
 rw [Nat.add_mul_mod_self_left]
theorem mulw_carry (q M i : Nat) : (q * (M / W ^ i % W)) + (q * (M % W ^ i)) / W ^ i = q * (M % W ^ (i + 1)) / W ^ i := by
 rw [W_mod_succ, Nat.mul_add, show q * (W ^ i * (M / W ^ i % W)) = W ^ i * (q * (M / W ^ i % W)) by rw [← Nat.mul_assoc, Nat.mul_comm q, Nat.mul_assoc], Nat.add_mul_div_left _ _ (W_pow_pos i)]
 omega
theorem mulw_next (q M i : Nat) : q * (M % W ^ (i + 1)) / W ^ (i + 1) = ((q * (M / W ^ i % W)) + (q * (M % W ^ i)) / W ^ i) / W := by
 rw [mulw_carry, Nat.pow_succ, ← Nat.div_div_eq_div_mul]
theorem mulw_word (q M i : Nat) : (q * M) / W ^ i % W = ((q * (M / W ^ i % W)) + (q * (M % W ^ i)) / W ^ i) % W := by
 have hp := W_pow_pos i
 have e : q * M = q * (M % W ^ i) + W ^ i * (q * (M / W ^ i)) := by
  have := split_p M (W ^ i)
  conv => lhs; rw [← this]
  rw [Nat.mul_add, ← Nat.mul_assoc, Nat.mul_comm q (W ^ i), Nat.mul_assoc]
 rw [e, Nat.add_mul_div_left _ _ hp, Nat.add_comm]
 rw [Nat.add_mod, Nat.mul_mod, ← Nat.mod_mod (M / W ^ i) W, ← Nat.mul_mod, ← Nat.add_mod]
 simp
theorem mulw_lt (q M i : Nat) (hq : q < W) : q * (M % W ^ i) / W ^ i < W := by
 rw [Nat.div_lt_iff_lt_mul (W_pow_pos i)]
 exact Nat.mul_lt_mul_of_lt_of_le hq (Nat.le_of_lt (Nat.mod_lt _ (W_pow_pos i))) (W_pow_pos i)
theorem mul_inner {vP vP' p new c c' x y wi wk T bk : Nat} (h1 : vP' + wi * wk * p = vP + wi * wk * new) (h2 : new + W * c' = p + x * y + c) (h3 : vP + wi * wk * c = T + x * wi * bk) :
  vP' + wi * (wk * W) * c' = T + x * wi * (bk + wk * y) := by
 have e1 : wi * wk * new + wi * wk * (W * c') = wi * wk * p + wi * wk * (x * y) + wi * wk * c := by rw [← Nat.mul_add, h2, Nat.mul_add, Nat.mul_add]
 have e2 : wi * wk * (x * y) = x * wi * (wk * y) := by ac_rfl
 have e3 : wi * wk * (W * c') = wi * (wk * W) * c' := by ac_rfl
 rw [Nat.mul_add (x * wi)]
 rw [e2, e3] at e1
 generalize wi * wk * p = a1 at *
 generalize wi * wk * new = a2 at *
 generalize wi * wk * c = a3 at *
 generalize x * wi * bk = a4 at *
 generalize x * wi * (wk * y) = a5 at *
 generalize wi * (wk * W) * c' = a6 at *
 omega
theorem mul_outer (A B i : Nat) : A % W ^ i * B + A / W ^ i % W * W ^ i * B = A % W ^ (i + 1) * B := by
 rw [W_mod_succ, Nat.add_mul, Nat.mul_comm (W ^ i)]
theorem set_mid {P : List Nat} {i m : Nat} (h : P.length = i) (hm : 0 < m) (c : Nat) : (P ++ List.replicate m 0).set i c = (P ++ [c]) ++ List.replicate (m - 1) 0 := by
 rw [List.set_append_right _ _ (by omega), h, Nat.sub_self]
 obtain ⟨k, rfl⟩ : ∃ k, m = k + 1 := ⟨m - 1, by omega⟩
 simp [List.replicate_succ]
theorem set_low {P : List Nat} {i m : Nat} (h : i < P.length) (c : Nat) : (P ++ List.replicate m 0).set i c = P.set i c ++ List.replicate m 0 := by
 rw [List.set_append_left _ _ h]
theorem getD_low {P Q : List Nat} {i : Nat} (h : i < P.length) : (P ++ Q).getD i 0 = P.getD i 0 := by
 rw [List.getD_eq_getElem?_getD, List.getD_eq_getElem?_getD, List.getElem?_append_left h]
theorem V_snoc {P : List Nat} {i : Nat} (h : P.length = i) (c : Nat) : V (P ++ [c]) = V P + W ^ i * c := by rw [V_append, V_one, h]
theorem D_of_V {P : List Nat} {n v : Nat} (h : Lt 18446744073709551616 P) (hl : P.length = n) (hv : V P = v) : P = D n v := by
 rw [← hv, ← hl, D_V h]
theorem take_word {X q M i L : Nat} {ls : List Nat} (hls : Lt 18446744073709551616 ls) (_ : ls.length = L) (hX : V ls = X) (_ : i < L) : (D i (sb X (q * M) i) ++ ls.drop i).getD i 0 = X / W ^ i % W := by
 have h := D_len i (sb X (q * M) i)
 rw [List.getD_eq_getElem?_getD, List.getElem?_append_right (by omega), h, Nat.sub_self, List.getElem?_drop, Nat.add_zero, ← List.getD_eq_getElem?_getD, V_getD hls, hX]
theorem take_set {X Y i L y : Nat} {ls : List Nat} (hl : ls.length = L) (hi : i < L) (hy : y = (X / W ^ i % W + 18446744073709551616 - Y / W ^ i % W - bw X Y i) % 18446744073709551616) :
  (D i (sb X Y i) ++ ls.drop i).set i y = D (i + 1) (sb X Y (i + 1)) ++ ls.drop (i + 1) := by
 have h := D_len i (sb X Y i)
 rw [List.set_append_right _ _ (by omega), h, Nat.sub_self, List.drop_eq_getElem_cons (by omega), List.set_cons_zero, sub_step, hy, List.append_assoc]; rfl
theorem take_end {X Y L : Nat} (h : Y ≤ X) (hX : X < W ^ L) : D L (sb X Y L) = D L (X - Y) := by
 unfold sb
 rw [Nat.mod_eq_of_lt hX, Nat.mod_eq_of_lt (by omega), show X + W ^ L - Y = (X - Y) + W ^ L by omega, ← D_mod, Nat.add_mod_right, D_mod]
theorem shift_val {ls : List Nat} {L a : Nat} (_ : ls.length = L + 1) (h : Lt 18446744073709551616 ls) (hv : V ls < W ^ L) : V (a :: ls.take L) = a + W * V ls := by
 rw [V_def, val_cons, ← V_def, V_take h, Nat.mod_eq_of_lt hv]
theorem mod_step (A M i : Nat) : (A / W ^ i % W + W * (A / W ^ (i + 1) % M)) % M = A / W ^ i % M := by
 conv => rhs; rw [div_top A i]
 rw [Nat.add_comm, Nat.add_mod, Nat.mul_mod, Nat.mod_mod, ← Nat.mul_mod, ← Nat.add_mod]
theorem quo_lt {a b t : Nat} (ha : a < t) (hb : b < 18446744073709551616) : (a * 18446744073709551616 + b) / t < 18446744073709551616 := by
 rw [Nat.div_lt_iff_lt_mul (by omega)]
 have := Nat.mul_le_mul_left 18446744073709551616 (show a + 1 ≤ t from ha)
 omega
theorem ge_top {ms : List Nat} (hm : Lt 18446744073709551616 ms) {n : Nat} (ht : ms.getD (n - 1) 0 ≠ 0) : W ^ (n - 1) ≤ V ms := by
 have h := V_getD hm (n - 1)
 rcases Nat.lt_or_ge (V ms) (W ^ (n - 1)) with h1 | h1
 ·rw [Nat.div_eq_of_lt h1] at h; exact absurd (by simpa using h) ht
 ·exact h1
end Go.Proofs.YtbpmbdlgmmabcaaGreat.Num
namespace Go.Proofs.YtbpmbdlgmmabcaaGreat.Num
theorem W_2 : W = 2 ^ 64 := by decide
theorem word_bit (A i : Nat) : ((A / W ^ (i / 64) % W) >>> (i % 64)) % 2 = A / 2 ^ i % 2 := by
 have hk := Nat.div_add_mod i 64
 have hr : i % 64 < 64 := Nat.mod_lt _ (by decide)
 have e1 : A / 2 ^ i = A / W ^ (i / 64) / 2 ^ (i % 64) := by
  conv => lhs; rw [← hk, Nat.pow_add, Nat.pow_mul, ← W_2, ← Nat.div_div_eq_div_mul]
 rw [e1]
 generalize A / W ^ (i / 64) = z
 rw [Nat.shiftRight_eq_div_pow]
 have e3 : W = 2 ^ (i % 64) * (2 * 2 ^ (63 - i % 64)) := by
  rw [W_2, ← Nat.pow_succ', ← Nat.pow_add, show i % 64 + (63 - i % 64 + 1) = 64 by omega]
 rw [e3, Nat.mod_mul_right_div_self, Nat.mod_mul_right_mod]
theorem bit_step (A i : Nat) : A / 2 ^ i = 2 * (A / 2 ^ (i + 1)) + A / 2 ^ i % 2 := by
 have := Nat.div_add_mod (A / 2 ^ i) 2
 rw [Nat.div_div_eq_div_mul, ← Nat.pow_succ] at this
 exact this.symm
end Go.Proofs.YtbpmbdlgmmabcaaGreat.Num
namespace Go.Proofs.YtbpmbdlgmmabcaaGreat.Num
theorem W_256 : W = 256 ^ 8 := by decide
def octs (A n : Nat) : List Nat := (List.range n).map fun i => A / 256 ^ (n - 1 - i) % 256
theorem octs_len (A n : Nat) : (octs A n).length = n := by simp [octs]
def bval (bs : List Nat) : Nat := val 256 bs.reverse
theorem bval_lt {bs : List Nat} (h : Lt 256 bs) : bval bs < 256 ^ bs.length := by
 have : Lt 256 bs.reverse := fun x hx => h x (List.mem_reverse.1 hx)
 have := val_lt (by decide) this
 simpa [bval] using this
theorem bval_digit {bs : List Nat} (h : Lt 256 bs) {i : Nat} (hi : i < bs.length) : bval bs / 256 ^ (bs.length - 1 - i) % 256 = bs.getD i 0 := by
 have h' : Lt 256 bs.reverse := fun x hx => h x (List.mem_reverse.1 hx)
 have := getD_val h' (bs.length - 1 - i)
 rw [bval, ← this, List.getD_eq_getElem?_getD, List.getD_eq_getElem?_getD, List.getElem?_reverse (by omega), show bs.length - 1 - (bs.length - 1 - i) = i by omega]
attribute [irreducible] octs bval
def hi8 (Y k : Nat) : Nat := Y - Y % 256 ^ k
theorem hi8_step (Y k : Nat) : hi8 Y k = hi8 Y (k + 1) + 256 ^ k * (Y / 256 ^ k % 256) := by
 unfold hi8
 have h := mod_pow_succ' (B := 256) Y k
 have h1 := Nat.mod_le Y (256 ^ (k + 1))
 rw [h] at h1 ⊢
 omega
theorem hi8_all {Y n : Nat} (h : Y < 256 ^ n) : hi8 Y n = 0 := by unfold hi8; rw [Nat.mod_eq_of_lt h]; omega
theorem hi8_0 (Y : Nat) : hi8 Y 0 = Y := by simp [hi8, Nat.mod_one]
theorem hi8_mul (Y k : Nat) : hi8 Y k = 256 ^ k * (Y / 256 ^ k) := by
 unfold hi8
 have := split_p Y (256 ^ k)
 omega
theorem put_byte (Y k n : Nat) (hY : hi8 Y k < W ^ n) (hk : k < 8 * n) :
  let w := hi8 Y (k + 1) / W ^ (k / 8) % W
  let x := Y / 256 ^ k % 256
  (w ||| (x <<< (8 * (k % 8)) % 18446744073709551616)) = w + x * 256 ^ (k % 8) ∧ w + x * 256 ^ (k % 8) < W ∧
  D n (hi8 Y k) = (D n (hi8 Y (k + 1))).set (k / 8) (w + x * 256 ^ (k % 8)) := by
 intro w x
 have hkd := Nat.div_add_mod k 8
 have hr : k % 8 < 8 := Nat.mod_lt _ (by decide)
 have hx : x < 256 := Nat.mod_lt _ (by decide)
 have e2 : 2 ^ (8 * (k % 8)) = 256 ^ (k % 8) := by rw [Nat.pow_mul]
 have hw : w = 256 ^ (k % 8 + 1) * (Y / 256 ^ (k + 1) % 256 ^ (7 - k % 8)) := by
  show hi8 Y (k + 1) / W ^ (k / 8) % W = _
  rw [hi8_mul]
  have e3 : 256 ^ (k + 1) = W ^ (k / 8) * 256 ^ (k % 8 + 1) := by
   rw [W_256, ← Nat.pow_mul, ← Nat.pow_add, show 8 * (k / 8) + (k % 8 + 1) = k + 1 by omega]
  have e4 : 256 ^ (k + 1) * (Y / 256 ^ (k + 1)) / W ^ (k / 8) = 256 ^ (k % 8 + 1) * (Y / 256 ^ (k + 1)) := by
   conv => lhs; rw [show 256 ^ (k + 1) * (Y / 256 ^ (k + 1)) = W ^ (k / 8) * (256 ^ (k % 8 + 1) * (Y / 256 ^ (k + 1))) by rw [← Nat.mul_assoc, ← e3]]
   exact Nat.mul_div_cancel_left _ (W_pow_pos _)
  rw [e4]
  have e5 : W = 256 ^ (k % 8 + 1) * 256 ^ (7 - k % 8) := by rw [W_256, ← Nat.pow_add, show k % 8 + 1 + (7 - k % 8) = 8 by omega]
  rw [e5, Nat.mul_mod_mul_left]
 have hlt : w + x * 256 ^ (k % 8) < W := by
  have h1 : Y / 256 ^ (k + 1) % 256 ^ (7 - k % 8) + 1 ≤ 256 ^ (7 - k % 8) := Nat.mod_lt _ (Nat.pow_pos (by decide))
  have h2 := Nat.mul_le_mul_left (256 ^ (k % 8 + 1)) h1
  have e5 : 256 ^ (k % 8 + 1) * 256 ^ (7 - k % 8) = W := by rw [W_256, ← Nat.pow_add, show k % 8 + 1 + (7 - k % 8) = 8 by omega]
  rw [e5, Nat.mul_add, ← hw, Nat.mul_one] at h2
  have h3 := Nat.mul_le_mul_right (256 ^ (k % 8)) (show x + 1 ≤ 256 from hx)
  rw [Nat.add_mul, Nat.one_mul, ← Nat.pow_succ'] at h3
  have h4 : 0 < 256 ^ (k % 8) := Nat.pow_pos (by decide)
  have h5 : k % 8 + 1 = (k % 8).succ := rfl
  rw [h5] at h2
  omega
 have hsl : x * 256 ^ (k % 8) < 256 ^ (k % 8 + 1) := by
  rw [Nat.pow_succ, Nat.mul_comm]; exact Nat.mul_lt_mul_of_pos_left hx (Nat.pow_pos (by decide))
 refine ⟨?_, hlt, ?_⟩
 ·have hxl : x * 256 ^ (k % 8) < 18446744073709551616 := Nat.lt_of_le_of_lt (Nat.le_add_left _ _) hlt
  rw [Nat.shiftLeft_eq, e2, Nat.mod_eq_of_lt hxl, hw]
  have e6 : 256 ^ (k % 8 + 1) = 2 ^ (8 * (k % 8 + 1)) := by rw [Nat.pow_mul]
  rw [e6] at hsl ⊢
  rw [Nat.two_pow_add_eq_or_of_lt hsl]
 ·have hle : hi8 Y (k + 1) < W ^ n := Nat.lt_of_le_of_lt (by rw [hi8_step Y k]; exact Nat.le_add_right _ _) hY
  refine V_inj (D_lt _ _) ((D_lt _ _).set hlt _) (by simp [D_len]) ?_
  have hvs := V_set (D_lt n (hi8 Y (k + 1))) (k / 8) (w + x * 256 ^ (k % 8)) (by rw [D_len]; omega)
  rw [D_getD _ _ _ (by omega), V_D' hle] at hvs
  rw [V_D' hY, hi8_step Y k]
  have e7 : W ^ (k / 8) * (x * 256 ^ (k % 8)) = 256 ^ k * x := by
   rw [W_256, ← Nat.pow_mul, Nat.mul_comm x, ← Nat.mul_assoc, ← Nat.pow_add, hkd]
  have e10 : W ^ (k / 8) * (w + x * 256 ^ (k % 8)) = W ^ (k / 8) * w + 256 ^ k * x := by rw [Nat.mul_add, e7]
  have e8 : W ^ (k / 8) * (hi8 Y (k + 1) / W ^ (k / 8) % W) = W ^ (k / 8) * w := rfl
  rw [e10, e8] at hvs
  have e9 : hi8 Y (k + 1) + 256 ^ k * (Y / 256 ^ k % 256) = hi8 Y (k + 1) + 256 ^ k * x := rfl
  rw [e9]
  generalize W ^ (k / 8) * w = p1 at *
  generalize 256 ^ k * x = p2 at *
  omega
end Go.Proofs.YtbpmbdlgmmabcaaGreat.Num
namespace Go.Proofs.YtbpmbdlgmmabcaaGreat.L
open Go
section
variable {P : Program} {c : Cx} {n : Nat} {l : Sl} {W : List Res} {B Q : Exit → Act → World → Prop}
theorem st_scope0 {x : Code} (h : Go c n l W (x.wp P (Af P (Exit.noGoto B) []))) : Go c n l W ((Code.scope x).wp P (Af P B [])) :=
 fun a w ha hw => wp_scope_straight (wp_mono (h a w ha hw) fun e a w hq => by cases e <;> exact hq)
theorem st_ng_ret (h : Go c n l W (Q .ret)) : Go c n l W (Exit.noGoto Q .ret) := h
variable {ops : Array Oper} {rest : List Oper} {d : Nat} {T : TypeId} {pos : String} {after : Array Edge}
theorem st_udiv {k : IntKind} {m : Nat} {x y : Operand} {a0 b0 : Nat} {xt yt : TypeId} (hx : ev l x = some (N k a0)) (hy : ev l y = some (N k b0)) (hm : ub k = some m) (h0 : 0 < b0) (hb : a0 < m)
  (hn : Nat.blt d n = true) (hk : Go c n ((d, N k (a0 / b0)) :: l) W (wpList P ops Q rest)) :
  Go c n l W (wpList P ops Q (⟨some d, .binOp .quo xt x y yt, T, pos, after, none⟩ :: rest)) :=
 st_val rfl rfl hn (fun a w ha _ => by
  have e : (a0 : Int).tdiv b0 = ((a0 / b0 : Nat) : Int) := by rw [Int.tdiv_eq_ediv_of_nonneg (by omega)]; simp
  have hq : a0 / b0 ≤ a0 := Nat.div_le_self _ _
  have h : k.wrap ((a0 : Int) / (b0 : Int)) = (a0 : Int) / b0 := by
   have := ub_wrap_nat hm (a0 / b0)
   rw [Nat.mod_eq_of_lt (by omega)] at this
   simpa using this
  have hz' : ¬ (b0 = 0) := by omega
  simp [execOp, ha.ev hx, ha.ev hy, eqGuard, binOp, Op.intDiv, hz', e, h]) hk
theorem st_umod {k : IntKind} {x y : Operand} {a0 b0 : Nat} {xt yt : TypeId} (hx : ev l x = some (N k a0)) (hy : ev l y = some (N k b0)) (h0 : 0 < b0)
  (hn : Nat.blt d n = true) (hk : Go c n ((d, N k (a0 % b0)) :: l) W (wpList P ops Q rest)) :
  Go c n l W (wpList P ops Q (⟨some d, .binOp .rem xt x y yt, T, pos, after, none⟩ :: rest)) :=
 st_val rfl rfl hn (fun a w ha _ => by
  have e : (a0 : Int).tmod b0 = ((a0 % b0 : Nat) : Int) := by rw [Int.tmod_eq_emod_of_nonneg (by omega)]; simp
  have hz' : ¬ (b0 = 0) := by omega
  simp [execOp, ha.ev hx, ha.ev hy, eqGuard, binOp, Op.intDiv, hz', e]) hk
theorem st_index_tab {x y : Operand} {s : ByteArray} {k : IntKind} {i : Nat} {t : TypeId} (f : Nat → Nat) (hx : ev l x = some (.string s)) (hy : ev l y = some (N k i)) (ht : P.underlying t = some .string) (hi : i < 256) (hs : s.size = 256)
  (hv : (List.range 256).all (fun j => (s.data.getD j 0).toNat == f j) = true) (hn : Nat.blt d n = true) (hk : Go c n ((d, N .u8 (f i)) :: l) W (wpList P ops Q rest)) :
  Go c n l W (wpList P ops Q (⟨some d, .index t x y, T, pos, after, none⟩ :: rest)) :=
 st_val rfl rfl hn (fun a w ha _ => by
  have h := run_index_string (P := P) w t s k (Int.ofNat i) ht
  have h1 : (0 : Int) ≤ Int.ofNat i ∧ Int.ofNat i < s.size := ⟨Int.natCast_nonneg i, by rw [hs]; show (i : Int) < 256; omega⟩
  rw [dif_pos h1] at h
  have hf := List.all_eq_true.1 hv i (List.mem_range.2 hi)
  have e : (s[(Int.ofNat i).toNat]'(by have := h1.2; rw [hs] at this ⊢; simp at this ⊢; omega)).toNat = f i := by
   rw [← eq_of_beq hf]
   have hd : i < s.data.size := by have : s.data.size = s.size := rfl; omega
   rw [Array.getD_eq_getD_getElem?, Array.getElem?_eq_getElem hd]; rfl
  simp only [execOp, ha.ev hx, ha.ev hy, Sem.run_bind, h, Result.andThen_ok, e]; rfl) hk
theorem st_ng_normal (h : Go c n l W (Q .normal)) : Go c n l W (Exit.noGoto Q .normal) := h
end
end Go.Proofs.YtbpmbdlgmmabcaaGreat.L
namespace Go.Proofs.YtbpmbdlgmmabcaaGreat.L
open Go
theorem RdC.subC {c : Cx} {s : Value} {k : IntKind} {ys : List Nat} {lo hi : Nat} (h : RdC c s (ys.map (N k))) (h1 : lo ≤ hi) (h2 : hi ≤ ys.length) : RdC c (L.sub s lo hi) (((ys.take hi).drop lo).map (N k)) := by
 have hs := h.rd.sub (lo := lo) (hi := hi) h1 (by simpa using h2)
 have e : ((ys.map (N k)).take hi).drop lo = ((ys.take hi).drop lo).map (N k) := by rw [← List.map_take, ← List.map_drop]
 rw [e] at hs
 refine ⟨hs, fun i hi' => ?_⟩
 obtain ⟨a, cap, hse, hc, hn, hsp⟩ := h.rd.shape
 have hl : ((ys.take hi).drop lo).length = hi - lo := by simp; omega
 rw [List.length_map, hl] at hi'
 simp only [List.length_map] at hc hn hse
 have ho := h.out (lo + i) (by simp; omega)
 subst hse
 cases a with
 | none => have := (hn rfl).1; simp at this; subst this; simp at h2; omega
 | some a0 =>
  have hne : ¬ cap = lo := by omega
  have hb : ∀ (x : Addr) (j : Nat), (x.add j).block = x.block := fun x j => by unfold Addr.add; split <;> rfl
  simp only [ea, hb] at ho
  simp only [L.sub, if_neg hne, Option.map_some, ea, hb]
  exact ho
section
variable {P : Program} {c : Cx} {n : Nat} {l : Sl} {W : List Res} {B : Exit → Act → World → Prop} {k : List Fr}
theorem st_block_join {ι : Type} {id : Nat} {x : Code} (I : ι → Prop) (lm : ι → Sl) (Wm : ι → List Res)
  (h1 : Go c n l W (x.wp P (Af P B (.blk id :: .inv (Met c n I lm Wm) :: k))))
  (h2 : ∀ j, I j → Go c n (lm j) (Wm j) (Af P B k .normal)) : Go c n l W ((Code.block id x).wp P (Af P B k)) :=
 fun a w ha hw => wp_block (wp_mono (h1 a w ha hw) fun e a w hq => by
  have key : ∀ a w, Met c n I lm Wm a w → Af P B k .normal a w := fun a w ⟨j, hj, hA, hW⟩ => h2 j hj a w hA hW
  cases e with
  | exit id' =>
   simp only [Exit.inBlock]
   split
   ·rename_i h; exact key _ _ (hq.1 h)
   ·rename_i h; exact hq.2 h
  | normal => exact key _ _ hq
  | _ => exact hq)
variable {ops : Array Oper} {Q : Exit → Act → World → Prop} {rest : List Oper} {d : Nat} {T : TypeId} {pos : String} {after : Array Edge}
theorem st_copy_self {x y : Operand} {s : Value} {xs : List Value} {lo : Nat} {dT sT E U : TypeId} {R : List Res} (hx : ev l x = some (sub s lo xs.length)) (hy : ev l y = some s) (hf : Find W (.sl s xs U) R) (hlo : lo < xs.length)
  (ht : P.underlying dT = some (.slice E)) (hs : szOf P E = some 1) (hys : ∀ v ∈ xs, v.oneCell' = true) (hn : Nat.blt d n = true)
  (hk : Go c n ((d, N .i64 (xs.length - lo)) :: l) (.sl s (xs.take lo ++ xs.take (xs.length - lo)) U :: R) (wpList P ops Q rest)) :
  Go c n l W (wpList P ops Q (⟨some d, .call { callee := .builtin .copy, args := #[x, y], argTypes := #[dT, sT] }, T, pos, after, none⟩ :: rest)) :=
 st_op rfl rfl hn (Φ := fun u V => u = N .i64 (xs.length - lo) ∧ V = .sl s (xs.take lo ++ xs.take (xs.length - lo)) U :: R)
  (fun a w ha hw => by
   have hY := RdW.own (c := c) hf w hw
   have hw := hw.perm hf.perm
   rcases hw.holds _ (List.mem_cons_self ..) with ⟨rfl, rfl⟩ | ⟨b, off, cap, pre, post, fz, hs'⟩
   ·simp at hlo
   ·obtain ⟨rfl, g1, g2, g3, g4, g5⟩ := hs'
    have hfY := run_first (P := P) hY (k := xs.length - lo) (by omega)
    have hne : ¬ cap = lo := by omega
    have hfz : ¬ fz.1 < fz.2 ∨ (pre ++ xs ++ post).length ≤ fz.1 := by
     by_cases hf : fz.1 < fz.2
     ·exact .inr (g5 (by omega))
     ·exact .inl hf
    have hst : ∀ (vs : List Value) (i0 : Nat) (cur : List Value) (w : World), w.heap[b]? = some (.cells cur.toArray U fz) → cur.length = (pre ++ xs ++ post).length → off + lo + i0 + vs.length ≤ cur.length → (∀ v ∈ vs, v.oneCell' = true) →
      (storeCells ⟨b, off + lo, none⟩ vs i0).run P w = .ok () (w.setRow b (cur.take (off + lo + i0) ++ vs ++ cur.drop (off + lo + i0 + vs.length)).toArray) := by
     intro vs
     induction vs with
     | nil =>
      intro i0 cur w hh hl hle h1v
      simp only [List.append_nil, List.length_nil, Nat.add_zero, List.take_append_drop]
      rw [setRow_self w b _ U fz hh]; rfl
     | cons v r ih =>
      intro i0 cur w hh hl hle h1v
      simp only [List.length_cons] at hle
      have hlt : off + lo + i0 < cur.length := by omega
      have hcell : w.cell? ⟨b, off + lo + i0, none⟩ = some cur[off + lo + i0] := by simp [World.cell?, hh, hlt]
      have hfro : w.frozen? ⟨b, off + lo + i0, none⟩ = false := by
       simp only [World.frozen?, hh]
       rcases hfz with h | h
       ·simp; omega
       ·simp; omega
      have hs1 : (store ((⟨b, off + lo, none⟩ : Addr).add i0) v).run P w = .ok () (w.setRow b (cur.set (off + lo + i0) v).toArray) := by
       rw [add_pt, run_store P w _ v _ (h1v v (by simp)), hcell]
       simp [hfro, setCell_eq_setRow w b _ cur.toArray U fz v hh]
      have hr := ih (i0 + 1) (cur.set (off + lo + i0) v) (w.setRow b (cur.set (off + lo + i0) v).toArray) (setRow_heap w b _ _ U fz hh) (by simpa using hl) (by simp; omega) (fun u hu => h1v u (by simp [hu]))
      have e := list_seg_step cur (off + lo + i0) v r (by omega)
      simp only [storeCells, Sem.run_bind, hs1, Result.andThen_ok, hr, setRow_setRow]
      congr 3
    have htl : (xs.take (xs.length - lo)).length = xs.length - lo := by simp
    have hst' := hst (xs.take (xs.length - lo)) 0 (pre ++ xs ++ post) w g4 rfl (by rw [htl]; simp; omega) (fun v hv => hys v (List.mem_of_mem_take hv))
    rw [htl] at hst'
    have hcur : (pre ++ xs ++ post).take (off + lo + 0) ++ xs.take (xs.length - lo) ++ (pre ++ xs ++ post).drop (off + lo + 0 + (xs.length - lo)) = pre ++ (xs.take lo ++ xs.take (xs.length - lo)) ++ post := by
     subst g3
     rw [show pre.length + lo + 0 + (xs.length - lo) = (pre ++ xs).length by simp; omega, List.drop_left' rfl, Nat.add_zero, List.append_assoc pre xs, List.take_append, List.take_of_length_le (by omega), Nat.add_sub_cancel_left, List.take_append_of_le_length (by omega)]
     simp
    rw [hcur] at hst'
    have hl2 : (xs.take lo ++ xs.take (xs.length - lo)).length = xs.length := by simp; omega
    refine ⟨_, _, _, ?_, satW_setRow hw (r' := .sl (.slice (some ⟨b, off, none⟩) xs.length cap) (xs.take lo ++ xs.take (xs.length - lo)) U) rfl rfl g4 (fun w' h => .inr ⟨b, off, cap, pre, post, fz, by rw [hl2], by rw [hl2]; exact g1, by rw [hl2]; exact g2, g3, h, fun hf => by have := g5 (by omega); simp only [List.length_append, hl2] at this ⊢; exact this⟩), rfl, rfl⟩
    have hlenY : (Builtin.lenOf (Value.slice (some ⟨b, off, none⟩) xs.length cap)).run P w = .ok xs.length w := rfl
    have hmin : min xs.length (xs.length - lo) = xs.length - lo := by omega
    simp [execOp, ha.ev hx, ha.ev hy, resolve, invoke, builtin, Builtin.copy_, run_underlying ht, run_sizeOf hs, hlenY, sub, hne, add_pt, hmin, hfY, hst', goInt])
  (fun u V ⟨hu, hV⟩ => by subst hu; subst hV; exact hk)
theorem st_copy_selfN {x y : Operand} {s : Value} {kk : IntKind} {xs : List Nat} {lo : Nat} {dT sT E U : TypeId} {R : List Res} (hx : ev l x = some (sub s lo xs.length)) (hy : ev l y = some s) (hf : Find W (.sl s (xs.map (N kk)) U) R) (hlo : lo < xs.length)
  (ht : P.underlying dT = some (.slice E)) (hs : szOf P E = some 1) (hn : Nat.blt d n = true)
  (hk : Go c n ((d, N .i64 (xs.length - lo)) :: l) (.sl s ((xs.take lo ++ xs.take (xs.length - lo)).map (N kk)) U :: R) (wpList P ops Q rest)) :
  Go c n l W (wpList P ops Q (⟨some d, .call { callee := .builtin .copy, args := #[x, y], argTypes := #[dT, sT] }, T, pos, after, none⟩ :: rest)) :=
 st_copy_self (xs := xs.map (N kk)) (lo := lo) (by simpa using hx) hy hf (by simpa using hlo) ht hs (by simp [Value.oneCell']) hn (by simpa [List.map_take] using hk)
end
end Go.Proofs.YtbpmbdlgmmabcaaGreat.L
namespace Go.Proofs.YtbpmbdlgmmabcaaGreat.L
open Go Go.Proofs
set_option maxRecDepth 100000
attribute [local irreducible] Code.wp wpList Af bodyPost L.Go
open Num
theorem add64X (x y c : Nat) (hc : c ≤ 1) : ExtV Tryz.prog 110 [N .u64 x, N .u64 y, N .u64 c] (.tuple [N .u64 ((x + y + c) % 18446744073709551616), N .u64 ((x + y + c) / 18446744073709551616)].toArray) :=
 ext_add64 Tryz.func110 (by kernel_rfl) (by kernel_rfl) (by kernel_rfl) (by kernel_rfl) x y c hc
theorem sub64X (x y c : Nat) (hc : c ≤ 1) : ExtV Tryz.prog 115 [N .u64 x, N .u64 y, N .u64 c] (.tuple [N .u64 ((x + 18446744073709551616 - y - c) % 18446744073709551616), N .u64 (if x < y + c then 1 else 0)].toArray) :=
 ext_sub64 Tryz.func115 (by kernel_rfl) (by kernel_rfl) (by kernel_rfl) (by kernel_rfl) x y c hc
theorem add64X0 (x y : Nat) : ExtV Tryz.prog 110 [N .u64 x, N .u64 y, N .u64 0] (.tuple [N .u64 ((x + y) % 18446744073709551616), N .u64 ((x + y) / 18446744073709551616)].toArray) := add64X x y 0 (by decide)
theorem and32 (x : Nat) : x % 18446744073709551616 &&& 4294967295 % 18446744073709551616 = x % 4294967296 := by
 have := Nat.and_two_pow_sub_one_eq_mod (x % 18446744073709551616) 32
 rw [show (4294967295 : Nat) % 18446744073709551616 = 2 ^ 32 - 1 from rfl, this]; omega
theorem shr32 (x : Nat) : x >>> 32 = x / 4294967296 := Nat.shiftRight_eq_div_pow x 32
set_option maxHeartbeats 1000000 in
theorem mul64_spec (x y : Nat) (hx : x < 18446744073709551616) (hy : y < 18446744073709551616) :
  Spec Tryz.prog 123 [N .u64 x, N .u64 y] NoPre [] (IsV (.tuple [N .u64 (x * y / 18446744073709551616), N .u64 (x * y % 18446744073709551616)].toArray)) := by
 refine mk_spec Tryz.func123 rfl rfl rfl fun w _ => ?_
 obtain ⟨h1, h2, h3, h4⟩ := mul64_hi x y hx hy
 have hxm : x % 18446744073709551616 = x := Nat.mod_eq_of_lt hx
 have hym : y % 18446744073709551616 = y := Nat.mod_eq_of_lt hy
 repeat (first|refine Z01 ?_|refine Z02 ?_|refine Z03 ?_|refine Z04 ?_|refine Z05 ?_|refine Z06 ?_|refine Z07 ?_|refine Z08 ?_|refine Z09 ?_|refine Z10 ?_|refine Z11 ?_|refine Z12 ?_|refine Z13 ?_|refine Z14 ?_|refine Z33 ?_|refine Z35 ?_|refine Z40 ?_|refine Z42 ?_)
 refine Ze2 fun _ hw => post_of hw SubW.nil ⟨?_, rfl⟩
 refine congrArg (fun z => Value.tuple [N .u64 z, N .u64 (x * y % 18446744073709551616)].toArray) ?_
 simp only [and32, shr32]
 have h5 : x * y / 18446744073709551616 < 18446744073709551616 := by have := mul_bound hx hy; omega
 exact mul64_mod h1 h2 h3 h4 h5
theorem y_31 {a b : Prop} (k : b) (h : Rm b → a := by intro k;(first|refine Z01 ?_|refine Z02 ?_|refine Z03 ?_|refine Z04 ?_|refine Z05 ?_|refine Z06 ?_|refine Z07 ?_|refine Z08 ?_|refine Z09 ?_|refine Z10 ?_|refine Z11 ?_|refine Z12 ?_|refine Z13 ?_|refine Z14 ?_|refine Z17 ?_|refine Z18 ?_|refine Z20 ?_|refine Z21 ?_|refine Z22 ?_|refine Z23 ?_|refine Z24 ?_|refine Z25 ?_|refine Z26 ?_|refine Z27 ?_|refine Z28 ?_|refine Z58 ?_|refine Z59 ?_|refine Z67 ?_);exact k.h) : a := h ⟨k⟩
theorem at_spec (s : Value) (xs : List Nat) (i : Nat) (_ : xs.length < 4294967296) :
  Spec Tryz.prog 132 [s, N .i64 i] (fun w => Rd w s (xs.map (N .u64))) [] (IsV (N .u64 (xs.getD i 0))) := by
 refine mk_spec Tryz.func132 rfl rfl rfl fun w hr => ?_
 have hr := RdC.mk0 hr
 repeat (first|refine y_31 ?_)
 refine st_cond (by rfl) (fun h => ?_) (fun h => ?_)
 ·repeat (first|refine y_31 ?_)
  refine Ze1 fun _ hw => post_of hw SubW.nil ⟨?_, rfl⟩
  rfl
 ·repeat (first|refine y_31 ?_)
  refine Ze1 fun _ hw => post_of hw SubW.nil ⟨?_, rfl⟩
  rw [getD_out (by omega)]
end Go.Proofs.YtbpmbdlgmmabcaaGreat.L
namespace Go.Proofs.YtbpmbdlgmmabcaaGreat.L
open Go Go.Proofs
set_option maxRecDepth 100000
attribute [local irreducible] Code.wp wpList Af bodyPost L.Go
open Num
attribute [local irreducible] W
theorem y_32 {a b : Prop} (k : b) (h : Rm b → a := by intro k;(first|refine Z01 ?_|refine Z02 ?_|refine Z03 ?_|refine Z04 ?_|refine Z05 ?_|refine Z06 ?_|refine Z07 ?_|refine Z08 ?_|refine Z09 ?_|refine Z10 ?_|refine Z11 ?_|refine Z12 ?_|refine Z13 ?_|refine Z14 ?_|refine Z16 ?_|refine Z17 ?_|refine Z18 ?_|refine Z20 ?_|refine Z21 ?_|refine Z58 ?_|refine Z59 ?_|refine Z60 ?_|refine Z71 ?_);exact k.h) : a := h ⟨k⟩
set_option maxHeartbeats 1000000 in
theorem cmp_spec (s t : Value) (xs ys : List Nat) (hx : Lt 18446744073709551616 xs) (hy : Lt 18446744073709551616 ys) (hl1 : xs.length < 16777216) (hl2 : ys.length < 16777216) :
  Spec Tryz.prog 113 [s, t] (fun w => Rd w s (xs.map (N .u64)) ∧ Rd w t (ys.map (N .u64))) [] (IsV (.int .i64 (ord3 (V xs) (V ys)))) := by
 refine mk_spec Tryz.func113 rfl rfl rfl fun w hr => ?_
 have hr1 := RdC.mk0 hr.1
 have hr2 := RdC.mk0 hr.2
 repeat (first|refine st_scope0 ?_|refine st_label ?_|refine Z01 ?_|refine Z02 ?_|refine Z03 ?_|refine Z04 ?_|refine Z05 ?_|refine Z06 ?_|refine Z07 ?_|refine Z08 ?_|refine Z09 ?_|refine Z10 ?_|refine Z11 ?_|refine Z12 ?_|refine Z13 ?_|refine Z14 ?_|refine Z16 ?_|refine Z17 ?_|refine Z18 ?_|refine Z20 ?_|refine Z21 ?_|refine Z58 ?_|refine Z59 ?_|refine Z60 ?_|refine Z71 ?_)
 obtain ⟨n, hn⟩ : ∃ n, n = max xs.length ys.length := ⟨_, rfl⟩
 rw [← hn]
 have hA : V xs < W ^ n := V_lt_le hx (by omega)
 have hB : V ys < W ^ n := V_lt_le hy (by omega)
 refine st_loop (ι := Nat) (fun j => j ≤ n ∧ V xs / W ^ j = V ys / W ^ j) (fun j => [(0, s), (1, t), (5, .int .i64 ((j : Int) - 1))]) (fun j => []) (fun j => j) n ⟨Nat.le_refl _, by rw [Nat.div_eq_of_lt hA, Nat.div_eq_of_lt hB]⟩ (by repeat (first|apply subL.nil|refine subL.cons (by rfl) ?_)) (by repeat (first|apply SubW.nil|refine y_8 ?_)) ?_
 rintro j ⟨hj, he⟩
 repeat (first|refine y_32 ?_)
 refine st_cond (by rfl) (fun h => ?_) (fun h => ?_)
 ·have h0 : (0 : Int) ≤ (j : Int) - 1 := h
  obtain ⟨i, rfl⟩ : ∃ i, j = i + 1 := ⟨j - 1, by omega⟩
  rw [show ((i + 1 : Nat) : Int) - 1 = Int.ofNat i by simp]
  repeat (first|refine st_callV (by rfl) (by rfl) (by rfl) (at_spec s xs i (by omega)) (RdW.old hr1) (by rfl) ?_|refine st_callV (by rfl) (by rfl) (by rfl) (at_spec t ys i (by omega)) (RdW.old hr2) (by rfl) ?_|refine y_32 ?_)
  rw [V_getD hx, V_getD hy]
  refine st_cond (by rfl) (fun h1 => ?_) (fun h1 => ?_)
  ·repeat (first|refine y_32 ?_)
   refine st_round i ⟨by omega, ord_same he h1⟩ (by omega) ?_ (by repeat (first|apply SubW.nil|refine y_8 ?_))
   rw [show ((i : Int) - 1) = Int.ofNat i - Int.ofNat 1 from rfl]
   exact (by repeat (first|apply subL.nil|refine subL.cons (by rfl) ?_))
  ·repeat (first|refine y_32 ?_)
   refine st_cond (by rfl) (fun h2 => ?_) (fun h2 => ?_)
   ·repeat (first|with_reducible refine st_ng_ret ?_|refine y_32 ?_)
    refine Ze1 fun _ hw => post_of hw SubW.nil ⟨?_, rfl⟩
    rw [ord3_lt (ord_less he h2)]
   ·repeat (first|with_reducible refine st_ng_ret ?_|refine y_32 ?_)
    refine Ze1 fun _ hw => post_of hw SubW.nil ⟨?_, rfl⟩
    rw [ord3_gt (ord_less he.symm (by omega))]; rfl
 ·have h0 : ¬ (0 : Int) ≤ (j : Int) - 1 := h
  have hj0 : j = 0 := by omega
  subst hj0
  repeat (first|with_reducible refine st_ng_ret ?_|refine y_32 ?_)
  refine Ze1 fun _ hw => post_of hw SubW.nil ⟨?_, rfl⟩
  rw [ord3_eq (by simpa using he)]; rfl
end Go.Proofs.YtbpmbdlgmmabcaaGreat.L
namespace Go.Proofs.YtbpmbdlgmmabcaaGreat.L
open Go Go.Proofs
set_option maxRecDepth 100000
attribute [local irreducible] Code.wp wpList Af bodyPost L.Go
open Num
attribute [local simp] D_len octs_len
theorem words_fit {bs : List Nat} (h : Lt 256 bs) : bval bs < Num.W ^ ((bs.length + 7) / 8) := by
 refine Nat.lt_of_lt_of_le (bval_lt h) ?_
 rw [W_256, ← Nat.pow_mul]
 exact Nat.pow_le_pow_right (by decide) (by omega)
theorem hi8_le (Y k : Nat) : hi8 Y k ≤ Y := by unfold hi8; omega
theorem y_33 {a b : Prop} (k : b) (h : Rm b → a := by intro k;(first|refine Z01 ?_|refine Z02 ?_|refine Z03 ?_|refine Z04 ?_|refine Z05 ?_|refine Z06 ?_|refine Z07 ?_|refine Z08 ?_|refine Z09 ?_|refine Z10 ?_|refine Z11 ?_|refine Z12 ?_|refine Z13 ?_|refine Z14 ?_|refine Z15 ?_|refine Z16 ?_|refine Z17 ?_|refine Z18 ?_|refine Z20 ?_|refine Z21 ?_|refine Z22 ?_|refine Z23 ?_|refine Z24 ?_|refine Z25 ?_|refine Z26 ?_|refine Z27 ?_|refine Z28 ?_|refine Z29 ?_|refine Z30 ?_|refine Z31 ?_|refine Z32 ?_|refine Z36 ?_|refine Z37 ?_|refine Z38 ?_|refine Z41 ?_|refine Z43 ?_|refine Z44 ?_|refine Z45 ?_|refine Z58 ?_|refine Z59 ?_|refine Z67 ?_|refine Z70 ?_|refine Z71 ?_|refine Z74 ?_|refine Z80 ?_);exact k.h) : a := h ⟨k⟩
theorem y_34 {a b : Prop} (k : b) (h : Rm b → a := by intro k;(first|refine Z24 ?_|refine Z25 ?_|refine Z26 ?_|refine Z27 ?_|refine Z28 ?_|refine Z67 ?_|refine Z23 ?_|refine Z20 ?_|refine Z21 ?_);exact k.h) : a := h ⟨k⟩
theorem y_190 {a b : Prop} (k : b) (h : Rm b → a := by intro k;refine Zqp (by intro _ _ _;(first|refine y_34 ?_);exact Zq) ?_;exact k.h) : a := h ⟨k⟩
set_option maxHeartbeats 1000000 in
theorem words_spec (s : Value) (bs : List Nat) (hb : Lt 256 bs) (hl : bs.length < 16777216) :
  Spec Tryz.prog 24 [s] (fun w => Rd w s (bs.map (N .u8))) [] (fun v Wr => Wr = [.sl v ((D ((bs.length + 7) / 8) (bval bs)).map (N .u64)) 25]) := by
 refine mk_spec Tryz.func24 rfl rfl rfl fun w hr => ?_
 have hr := RdC.mk0 hr
 have hfit := words_fit hb
 obtain ⟨n, hn⟩ : ∃ n, n = (bs.length + 7) / 8 := ⟨_, rfl⟩
 rw [← hn] at hfit
 repeat (first|refine y_33 ?_|refine Z83 fun _ => ?_)
 rename_i u
 rw [← hn]
 refine st_loop (ι := Nat) (fun i => i ≤ bs.length) (fun i => [(0, s), (3, u), (12, s), (13, N .i64 bs.length), (14, N .i64 i)]) (fun i => [.sl u ((D n (hi8 (bval bs) (bs.length - i))).map (N .u64)) 25]) (fun i => bs.length - i) 0 (by omega) (by repeat (first|apply subL.nil|refine subL.cons (by rfl) ?_)) (by rw [Nat.sub_zero, hi8_all (bval_lt hb), D_zero]; exact (by repeat (first|apply SubW.nil|refine y_8 ?_))) ?_
 intro i hi
 have hDl := D_len n (hi8 (bval bs) (bs.length - i))
 repeat (first|refine y_33 ?_|refine Z83 fun _ => ?_)
 refine st_cond (by rfl) (fun h => ?_) (fun h => ?_)
 ·obtain ⟨k, hk⟩ : ∃ k, k = bs.length - 1 - i := ⟨_, rfl⟩
  have hk1 : bs.length - i = k + 1 := by omega
  rw [hk1] at hDl ⊢
  have hbi := hb.getD (by decide) i
  have hdig := bval_digit hb h
  rw [← hk] at hdig
  obtain ⟨p1, p2, p3⟩ := put_byte (bval bs) k n (Nat.lt_of_le_of_lt (hi8_le _ _) hfit) (by omega)
  rw [hdig] at p1 p2 p3
  have hwd := D_getD n (hi8 (bval bs) (k + 1)) (k / 8) (by omega)
  have hkl : k / 8 < n := by omega
  have hxm : bs.getD i 0 % 18446744073709551616 = bs.getD i 0 := Nat.mod_eq_of_lt (by omega)
  have p1' : hi8 (bval bs) (k + 1) / Num.W ^ (k / 8) % Num.W % 18446744073709551616 ||| (bs.getD i 0 % 18446744073709551616) <<< (8 * (k % 8)) % 18446744073709551616 % 18446744073709551616 = hi8 (bval bs) (k + 1) / Num.W ^ (k / 8) % Num.W + bs.getD i 0 * 256 ^ (k % 8) := by
   rw [hxm, Nat.mod_mod, Nat.mod_eq_of_lt (a := hi8 (bval bs) (k + 1) / Num.W ^ (k / 8) % Num.W) (b := 18446744073709551616) (show _ < 18446744073709551616 from Nat.mod_lt _ W_pos)]; exact p1
  repeat (first|rw [← hk]|refine y_33 ?_|refine Z83 fun _ => ?_)
  refine st_draw1 (by rfl) ?_
  repeat (first|(refine Zqf (by intro _ _ _;(first|refine Z01 ?_|refine Z02 ?_|refine Z15 ?_|refine Z16 ?_|refine Z17 ?_|refine Z18 ?_|refine Z20 ?_|refine Z21 ?_|refine Z22 ?_|refine Z23 ?_|refine Z36 ?_|refine Z37 ?_|refine Z38 ?_|refine Z41 ?_|refine Z43 ?_|refine Z44 ?_|refine Z45 ?_|refine Z58 ?_|refine Z59 ?_|refine Z70 ?_|refine Z71 ?_|refine Z74 ?_|refine Z80 ?_);exact Zq) ?_)|refine y_190 ?_|refine y_185 ?_|refine Zqn ?_)
  refine Zq0 ?_ (by kernel_rfl)
  rw [hwd, p1', ← p3]
  repeat (first|refine y_33 ?_|refine Z83 fun _ => ?_)
  refine st_round (i + 1) (by omega) (by omega) (by repeat (first|apply subL.nil|refine subL.cons (by rfl) ?_)) ?_
  rw [show bs.length - (i + 1) = k by omega]
  exact (by repeat (first|apply SubW.nil|refine y_8 ?_))
 ·have hie : i = bs.length := by omega
  subst hie
  rw [Nat.sub_self, hi8_0]
  repeat (first|refine y_33 ?_|refine Z83 fun _ => ?_)
  refine Ze1 fun _ hw => post_of hw (Wout := [.sl u ((D n (bval bs)).map (N .u64)) 25]) ?_ rfl
  exact (by repeat (first|apply SubW.nil|refine y_8 ?_))
end Go.Proofs.YtbpmbdlgmmabcaaGreat.L
namespace Go.Proofs.YtbpmbdlgmmabcaaGreat.Num
theorem mod_pq {a b p q : Nat} (h : a < p) : (a + p * b) % (p * q) = a + p * (b % q) := by
 rw [Nat.mod_mul, Nat.add_mul_mod_self_left, Nat.mod_eq_of_lt h, Nat.add_mul_div_left _ _ (Nat.lt_of_le_of_lt (Nat.zero_le _) h), Nat.div_eq_of_lt h, Nat.zero_add]
theorem shift_word {w : Nat} (hw : w ≤ 63) (X i : Nat) :
  ((X / W ^ i % W) >>> w + (X / W ^ (i + 1) % W) <<< (64 - w) % 18446744073709551616) % 18446744073709551616 = X / 2 ^ w / W ^ i % W := by
 have e1 : X / 2 ^ w / W ^ i = X / W ^ i / 2 ^ w := by rw [Nat.div_div_eq_div_mul, Nat.mul_comm, ← Nat.div_div_eq_div_mul]
 have e2 : X / W ^ (i + 1) = X / W ^ i / W := by rw [Nat.pow_succ, Nat.div_div_eq_div_mul]
 rw [e1, e2, Nat.shiftRight_eq_div_pow, Nat.shiftLeft_eq]
 generalize X / W ^ i = Y
 have hW : W = 2 ^ w * 2 ^ (64 - w) := by rw [← Nat.pow_add, W_2, show w + (64 - w) = 64 by omega]
 have hW' : (18446744073709551616 : Nat) = 2 ^ (64 - w) * 2 ^ w := by rw [← Nat.pow_add, show 64 - w + w = 64 by omega]
 have hY := Nat.mod_add_div Y W
 have ha := Nat.two_pow_pos w
 have hb := Nat.two_pow_pos (64 - w)
 have h3 : Y / W % W * 2 ^ (64 - w) % 18446744073709551616 = 2 ^ (64 - w) * (Y / W % 2 ^ w) := by
  rw [hW', Nat.mul_comm (Y / W % W), Nat.mul_mod_mul_left, hW, Nat.mod_mul_right_mod]
 have h4 : Y / 2 ^ w = Y % W / 2 ^ w + 2 ^ (64 - w) * (Y / W) := by
  conv => lhs; rw [← hY]
  rw [hW, Nat.mul_assoc, Nat.add_mul_div_left _ _ ha, ← hW]
 have h5 : Y % W / 2 ^ w < 2 ^ (64 - w) := by
  refine Nat.div_lt_of_lt_mul ?_
  rw [← hW]; exact Nat.mod_lt _ W_pos
 have h6 : Y / 2 ^ w % W = Y % W / 2 ^ w + 2 ^ (64 - w) * (Y / W % 2 ^ w) := by
  rw [h4]
  have := mod_pq (b := Y / W) (q := 2 ^ w) h5
  rwa [Nat.mul_comm (2 ^ (64 - w)) (2 ^ w), ← hW] at this
 rw [h3, h6]
 refine Nat.mod_eq_of_lt ?_
 have h7 : Y / W % 2 ^ w < 2 ^ w := Nat.mod_lt _ ha
 have h8 := Nat.mul_le_mul_left (2 ^ (64 - w)) (show Y / W % 2 ^ w + 1 ≤ 2 ^ w from h7)
 rw [← hW', Nat.mul_add] at h8
 omega
end Go.Proofs.YtbpmbdlgmmabcaaGreat.Num
