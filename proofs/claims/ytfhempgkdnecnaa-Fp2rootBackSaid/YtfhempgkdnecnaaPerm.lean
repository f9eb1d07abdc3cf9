/- Regions whose order is open and that make new memory, in the small program logic: walked in an order of one's own. No condition. -/
import Derived.Test.YtfhempgkdnecnaaAny
namespace Go.Proofs.Ytfhempgkdnecnaa.L
open Go

abbrev En := List (Nat × Kd)
def bitA (anc : List Nat) (j i : Nat) : Bool := Nat.testBit (anc.getD j 0) i
def ordOK (os : List Oper) (anc : List Nat) (x y : Nat × Kd) : Bool :=
  (match os[x.1]?, os[y.1]? with
   | some o, some p => !clash os.toArray o p || bitA anc y.1 x.1
   | _, _ => false) && (!memClash x.2 y.2 || bitA anc y.1 x.1) && !Nat.beq x.1 y.1
def allPairs {α : Type} (R : α → α → Bool) : List α → Bool
  | [] => true
  | x :: r => r.all (R x) && allPairs R r
theorem allPairs_spec {α : Type} {R : α → α → Bool} : ∀ {l : List α}, allPairs R l = true → ∀ {i j : Nat} {x y : α}, i < j → l[i]? = some x → l[j]? = some y → R x y = true
  | [], _, i, j, x, y, _, hx, _ => by simp at hx
  | z :: r, h, i, j, x, y, hij, hx, hy => by
    simp only [allPairs, Bool.and_eq_true] at h
    cases j with
    | zero => omega
    | succ j =>
      have hy' : r[j]? = some y := by simpa using hy
      cases i with
      | zero =>
        simp at hx; subst hx
        exact List.all_eq_true.1 h.1 y (List.mem_of_getElem? hy')
      | succ i => exact allPairs_spec h.2 (i := i) (j := j) (by omega) (by simpa using hx) hy'
def chkP (os : List Oper) (E : En) : Bool := ancOK os 0 (mkAnc os []) && allPairs (ordOK os (mkAnc os [])) E
def descP (os : List Oper) (i : Nat) (rest : List Nat) (E : En) : Bool :=
  rest.all (fun j => bitA (mkAnc os []) j i) && (List.range os.length).all (fun j => Nat.beq j i || rest.any (Nat.beq j) || E.any (fun e => Nat.beq e.1 j))
def fullP (os : List Oper) (E : En) : Bool := (List.range os.length).all (fun j => E.any (fun e => Nat.beq e.1 j))
def newP (i : Nat) (E : En) : Bool := !E.any (fun e => Nat.beq e.1 i)

section
variable (P : Program) (c : Cx) (n : Nat)
def OpN (W : List Res) (Φ : Option (Nat × Value) → List Res → Prop) (lr : Sl) (o : Oper) : Prop :=
  ∀ w0 m, SatW c W w0 → Go ⟨w0, fps W⟩ n (lr ++ m) W (wpList P #[] (fun e a w => e = .normal ∧ ∃ u W', Φ u W' ∧ SatA n (u.toList ++ (lr ++ m)) a ∧ SatW ⟨w0, fps W⟩ W' w) [o])
end

inductive QF (P : Program) (c : Cx) (n : Nat) (os : List Oper) (K : Act → World → Prop) : En → List Res → Sl → List Nat → Prop
  | fin {E : En} {W : List Res} {l : Sl} (hc : chkP os E = true) (hf : fullP os E = true) (hk : Go c n l W K) : QF P c n os K E W l []
  | val {E : En} {W : List Res} {l : Sl} {i d : Nat} {o : Oper} {v : Value} {rest : List Nat} (kd : Kd) (hk : kd.isEff = false) (hi : newP i E = true) (ho : os[i]? = some o) (hd : o.dst = some d) (hn : Nat.blt d n = true)
      (hg : gSays os.toArray l o = some true) (h : OpV P c n (pinW kd W) (pinW kd W) (restr os.toArray o l) (noG o) (some (d, v)))
      (hr : QF P c n os K (E ++ [(i, kd)]) W ((d, v) :: l) rest) : QF P c n os K E W l (i :: rest)
  | no {E : En} {W : List Res} {l : Sl} {i d : Nat} {o : Oper} {rest : List Nat} (hi : newP i E = true) (ho : os[i]? = some o) (hd : o.dst = some d) (hn : Nat.blt d n = true)
      (hg : gSays os.toArray l o = some false) (hr : QF P c n os K (E ++ [(i, .free)]) W ((d, undef) :: l) rest) : QF P c n os K E W l (i :: rest)
  | nd {E : En} {W : List Res} {l : Sl} {i : Nat} {o : Oper} {rest : List Nat} {Φ : Option (Nat × Value) → List Res → Prop} (hi : newP i E = true) (ho : os[i]? = some o)
      (hc : chkP os (E ++ [(i, .eff)]) = true) (hdesc : descP os i rest E = true) (hΦ : ∀ u W', Φ u W' → o.dst = u.map (·.1) ∧ ∀ d, o.dst = some d → Nat.blt d n = true)
      (hg : gSays os.toArray l o = some true) (h : OpN P c n W Φ (restr os.toArray o l) (noG o))
      (hr : ∀ u W', Φ u W' → QF P c n os K (E ++ [(i, .eff)]) W' (u.toList ++ l) rest) : QF P c n os K E W l (i :: rest)

/-! ## Any order -/
theorem cur_append : ∀ (us vs : Pu) (D : Nat → Bool) (i : Nat) (l : Sl), cur (us ++ vs) D i l = cur vs D (i + us.length) (cur us D i l)
  | [], vs, D, i, l => by simp [cur]
  | u :: r, vs, D, i, l => by
    simp only [List.cons_append, cur, List.length_cons]
    rw [cur_append r vs D (i + 1)]
    congr 1; omega
theorem cur_congr : ∀ (us : Pu) (D D' : Nat → Bool) (i : Nat) (l : Sl), (∀ j, j < us.length → D (i + j) = D' (i + j)) → cur us D i l = cur us D' i l
  | [], D, D', i, l, _ => rfl
  | u :: r, D, D', i, l, h => by
    simp only [cur]
    have h0 := h 0 (by simp)
    simp only [Nat.add_zero] at h0
    rw [h0, cur_congr r D D' (i + 1) _ (fun j hj => by have := h (j + 1) (by simpa using hj); rw [show i + 1 + j = i + (j + 1) by omega]; exact this)]

def dn (L : Array Bool) (E : En) (k : Nat) : Bool := match E[k]? with
  | some e => L.getD e.1 false
  | none => false

section
variable {P : Program} {c : Cx} {n : Nat} {os : List Oper} {Q : Exit → Act → World → Prop}

structure InvP (P : Program) (c : Cx) (n : Nat) (os : List Oper) (l0 : Sl) (E : En) (us : Pu) (W : List Res) (l : Sl) (L : Array Bool) (a : Act) (w : World) : Prop where
  size : L.size = os.length
  clo : ∀ i j, L.getD i false = true → Nat.testBit ((mkAnc os []).getD i 0) j = true → L.getD j false = true
  sub : ∀ i, L.getD i false = true → ∃ (k : Nat) (e : Nat × Kd), E[k]? = some e ∧ e.1 = i
  len : us.length = E.length
  fr : SatA n (cur us (dn L E) 0 l0) a
  wd : SatW c W w
  txt : l = cur us (fun _ => true) 0 l0
  ents : ∀ (k : Nat) (e : Nat × Kd) (u : Option (Nat × Value)), E[k]? = some e → us[k]? = some u → ∃ o, os[e.1]? = some o ∧ o.dst = u.map (·.1) ∧ (∀ d, o.dst = some d → Nat.blt d n = true) ∧
    (L.getD e.1 false = true ∨ (gSays os.toArray (cur (us.take k) (fun _ => true) 0 l0) o = some true ∧ e.2.isEff = false ∧ OpV P c n (pinW e.2 W) (pinW e.2 W) (restr os.toArray o (cur (us.take k) (fun _ => true) 0 l0)) (noG o) u) ∨
      (gSays os.toArray (cur (us.take k) (fun _ => true) 0 l0) o = some false ∧ ∃ d, u = some (d, undef)))

theorem ready_spec {L : Array Bool} {i : Nat} (hL : L.size = os.length) (hi : i ∈ Region.ready .any os.toArray L) : ∃ o, os[i]? = some o ∧ L.getD i false = false ∧ i < os.length ∧ ∀ d ∈ depsOf o, L.getD d false = true := by
  simp only [Region.ready, List.size_toArray, List.mem_filter, List.mem_range, Bool.and_eq_true, Bool.not_eq_true'] at hi
  obtain ⟨hlt, hnl, hdeps⟩ := hi
  obtain ⟨o, ho⟩ : ∃ o, os[i]? = some o := ⟨os[i], by simp [hlt]⟩
  refine ⟨o, ho, ?_, hlt, fun d hd => ?_⟩
  · rw [Array.getD_eq_getD_getElem?] at hnl ⊢
    rw [Array.getElem?_eq_getElem (by omega)] at hnl ⊢
    simpa using hnl
  · have ho' : os.toArray[i]? = some o := by simpa using ho
    rw [ho'] at hdeps
    simp only [Option.map_some, Option.getD_some] at hdeps
    obtain ⟨e, he, rfl⟩ := List.mem_map.1 hd
    rw [List.mem_filter] at he
    have hx := Array.all_eq_true'.1 hdeps e (by simpa using he.1)
    simpa [he.2] using hx
theorem ready_nil {L : Array Bool} (hanc : ancOK os 0 (mkAnc os []) = true) (hL : L.size = os.length) (hr : Region.ready .any os.toArray L = []) : ∀ i, i < os.length → L.getD i false = true := by
  intro i
  induction i using Nat.strongRecOn with
  | _ i ih =>
    intro hi
    by_cases hd : L.getD i false = true
    · exact hd
    · exfalso
      have hd' : L.getD i true = false := by
        rw [Array.getD_eq_getD_getElem?, Array.getElem?_eq_getElem (by omega)] at hd ⊢
        simpa using hd
      have hm : i ∈ Region.ready .any os.toArray L := by
        simp only [Region.ready, List.size_toArray, List.mem_filter, List.mem_range, Bool.and_eq_true, Bool.not_eq_true']
        refine ⟨hi, hd', ?_⟩
        have ho : os[i]? = some os[i] := by simp [hi]
        have ho' : os.toArray[i]? = some os[i] := by simp [hi]
        rw [ho']
        simp only [Option.map_some, Option.getD_some]
        rw [Array.all_eq_true']
        intro e he
        by_cases hb : Region.binds .any e = true
        · have hdep : e.on ∈ depsOf os[i] := List.mem_map.2 ⟨e, List.mem_filter.2 ⟨by simpa using he, hb⟩, rfl⟩
          have hlt := (ancOK_spec hanc ho).1 _ hdep
          simp only [Nat.zero_add] at hlt
          simp [ih e.on hlt (by omega)]
        · simp [hb]
      rw [hr] at hm; cases hm
theorem ready_full {L : Array Bool} (hL : L.size = os.length) (hf : os.length - (L.toList.filter id).length = 0) : Region.ready .any os.toArray L = [] := by
  have hcount : (L.toList.filter id).length = L.toList.length := by
    have := List.length_filter_le id L.toList
    simp only [Array.length_toList] at this ⊢
    omega
  rw [List.eq_nil_iff_forall_not_mem]
  intro i hi
  obtain ⟨o, ho, hnl, hlt, _⟩ := ready_spec hL hi
  have hallt := List.length_filter_eq_length_iff.1 hcount
  have : L[i]'(by omega) = true := by
    have := hallt (L[i]'(by omega)) (by simp)
    simpa using this
  rw [Array.getD_eq_getD_getElem?, Array.getElem?_eq_getElem (by omega)] at hnl
  simp [this] at hnl
theorem set_get {L : Array Bool} {i : Nat} (hL : L.size = os.length) (hlt : i < os.length) (j : Nat) : (L.setIfInBounds i true).getD j false = if j = i then true else L.getD j false := by
  simp only [Array.getD_eq_getD_getElem?]
  by_cases hj : j = i
  · subst hj; simp [hL, hlt]
  · rw [Array.getElem?_setIfInBounds_ne (fun e => hj e.symm), if_neg hj]
theorem set_count {L : Array Bool} {i fuel : Nat} (hL : L.size = os.length) (hlt : i < os.length) (hnl : L.getD i false = false) (hf : os.length - (L.toList.filter id).length = fuel + 1) :
    os.length - ((L.setIfInBounds i true).toList.filter id).length = fuel := by
  have e : ((L.setIfInBounds i true).toList.filter id).length = (L.toList.filter id).length + 1 := by
    rw [Array.toList_setIfInBounds]
    have hli : i < L.toList.length := by simpa [hL] using hlt
    have hv : L.toList[i] = false := by
      rw [Array.getD_eq_getD_getElem?, Array.getElem?_eq_getElem (by omega)] at hnl
      simpa using hnl
    rw [List.set_eq_take_append_cons_drop, if_pos hli]
    conv => rhs; rw [← List.take_append_drop i L.toList, List.drop_eq_getElem_cons hli, hv]
    simp only [List.filter_append, List.length_append, List.filter_cons, id, if_true, List.length_cons]
    simp
    omega
  rw [e]; omega

/-- What a done set says of one that is ready: it reads what the order of one's own says. -/
theorem look_at {l0 : Sl} {E : En} {us : Pu} {W : List Res} {l : Sl} {L : Array Bool} {a : Act} {w : World} (hI : InvP P c n os l0 E us W l L a w) {i k : Nat} {o : Oper} (_ : os[i]? = some o) (hnl : L.getD i false = false)
    (hanci : ∀ j, Nat.testBit ((mkAnc os []).getD i 0) j = true → L.getD j false = true) (_ : k ≤ E.length)
    (hbef : ∀ (j : Nat) (e : Nat × Kd), E[j]? = some e → j < k → ∀ y : Oper, os[e.1]? = some y → clash os.toArray y o = true → Nat.testBit ((mkAnc os []).getD i 0) e.1 = true)
    (hbeh : ∀ (j : Nat) (e : Nat × Kd), E[j]? = some e → k ≤ j → ∀ y : Oper, os[e.1]? = some y → clash os.toArray o y = true → e.1 = i ∨ Nat.testBit ((mkAnc os []).getD e.1 0) i = true) :
    (∀ t ∈ namesOf os.toArray o, lk (cur us (dn L E) 0 l0) t = lk (cur (us.take k) (fun _ => true) 0 l0) t) ∧
    (∀ t, o.dst = some t → ∀ (j : Nat) (x : Option (Nat × Value)), us[j]? = some x → writes x t → k ≤ j → dn L E j = false) := by
  have hwr : ∀ (j : Nat) (x : Option (Nat × Value)) (t : Nat), us[j]? = some x → writes x t → ∃ (e : Nat × Kd) (y : Oper), E[j]? = some e ∧ os[e.1]? = some y ∧ y.dst = some t := by
    intro j x t hx ⟨v, hv⟩
    have hjl : j < E.length := by
      rcases Nat.lt_or_ge j us.length with h | h
      · have := hI.len; omega
      · rw [List.getElem?_eq_none h] at hx; cases hx
    obtain ⟨o', ho', hd', _⟩ := hI.ents j E[j] x (by simp [hjl]) hx
    exact ⟨E[j], o', by simp [hjl], ho', by rw [hd', hv]; rfl⟩
  have hback : ∀ j e y, E[j]? = some e → k ≤ j → os[e.1]? = some y → clash os.toArray o y = true → dn L E j = false := by
    intro j e y he hkj hy hc
    simp only [dn, he]
    rcases hbeh j e he hkj y hy hc with h | h
    · rw [h]; exact hnl
    · cases hj : L.getD e.1 false
      · rfl
      · have := hI.clo e.1 i hj h; rw [hnl] at this; cases this
  refine ⟨fun t ht => ?_, fun t hdt j x hx hw hkj => ?_⟩
  · refine lk_cur_text us _ 0 l0 t k (fun j x hx hw hji => ?_) (fun j x hx hw hij => ?_)
    · obtain ⟨e, y, he, hy, hyd⟩ := hwr j x t hx hw
      simp only [Nat.zero_add, dn, he]
      refine hanci _ (hbef j e he hji y hy ?_)
      simp only [clash, hyd, Bool.or_eq_true]
      exact .inl (.inr (List.any_eq_true.2 ⟨t, ht, Nat.beq_refl t⟩))
    · obtain ⟨e, y, he, hy, hyd⟩ := hwr j x t hx hw
      simp only [Nat.zero_add]
      refine hback j e y he hij hy ?_
      simp only [clash, hyd, Bool.or_eq_true]
      exact .inr (List.any_eq_true.2 ⟨t, ht, Nat.beq_refl t⟩)
  · obtain ⟨e, y, he, hy, hyd⟩ := hwr j x t hx hw
    refine hback j e y he hkj hy ?_
    simp only [clash, hdt, Bool.or_eq_true]
    refine .inl (.inl ?_)
    simp [inDst, hyd, Nat.beq_refl]

theorem wanted_of {ops : Array Oper} {ltxt : Sl} {a : Act} {o : Oper} {b : Bool} (hg : gSays ops ltxt o = some b)
    (hyield : ∀ j want, o.guard = some (j, want) → ∀ t, (ops[j]?).bind (·.dst) = some t → ∀ v, lk ltxt t = some v → a.tmps[t]? = some v) : Region.wanted o (yielded ops a.tmps) = b := by
  unfold gSays at hg
  unfold Region.wanted
  cases hgd : o.guard with
  | none => simp [hgd] at hg; rw [hg]
  | some jw =>
    obtain ⟨j, want⟩ := jw
    simp only [hgd] at hg ⊢
    cases hj : (ops[j]?).bind (·.dst) with
    | none => rw [hj] at hg; cases hg
    | some t =>
      simp only [hj] at hg
      cases hv : lk ltxt t with
      | none => rw [hv] at hg; cases hg
      | some v =>
        have hav := hyield j want hgd t hj v hv
        rw [hv] at hg
        unfold yielded
        rw [hj]
        cases v <;> simp at hg
        · simp [hav, hg]
        · subst hg; simp [hav]

theorem ord_clash {anc : List Nat} {x y : Nat × Kd} (h : ordOK os anc x y = true) {o p : Oper} (ho : os[x.1]? = some o) (hp : os[y.1]? = some p) (hc : clash os.toArray o p = true) : Nat.testBit (anc.getD y.1 0) x.1 = true := by
  simp only [ordOK, ho, hp, hc, Bool.not_true, Bool.false_or, Bool.and_eq_true] at h
  exact h.1.1
theorem ord_mem {anc : List Nat} {x y : Nat × Kd} (h : ordOK os anc x y = true) (hm : memClash x.2 y.2 = true) : Nat.testBit (anc.getD y.1 0) x.1 = true := by
  simp only [ordOK, hm, Bool.not_true, Bool.false_or, Bool.and_eq_true] at h
  exact h.1.2
theorem ord_ne {anc : List Nat} {x y : Nat × Kd} (h : ordOK os anc x y = true) : x.1 ≠ y.1 := by
  simp only [ordOK, Bool.and_eq_true, Bool.not_eq_true'] at h
  exact ne_beq h.2

theorem noG_wp {o : Oper} {a : Act} {w : World} {K : Act → World → Prop} {Q : Exit → Act → World → Prop} (h : (noG o).wp P a w K Q) : o.wp P a w K Q := h
theorem single_mono {ops : Array Oper} {Q Q' : Exit → Act → World → Prop} {o : Oper} {a : Act} {w : World} (h : wpList P ops Q [o] a w) (hg : o.guard = none) (hQ : ∀ e a w, Q e a w → e = .normal)
    (hm : ∀ a w, Q .normal a w → Q' .normal a w) : wpList P ops Q' [o] a w := by
  rcases wpList_single h hg with h1 | ⟨_, a0, w0, hq⟩
  · simp only [wpList]
    rw [if_pos (by simp [Region.wanted, hg])]
    left
    exact oper_wp_change h1 hm hQ
  · exact absurd (hQ _ _ _ hq) (by simp)

/-- The frame behind one operation more. -/
theorem after_op {lr : Sl} {u : Option (Nat × Value)} {base : Sl} {a a' : Act} (hA : SatA n base a) (hlr : ∀ t v, lk lr t = some v → a.tmps[t]? = some v) (hsa : SatA n (u.toList ++ (lr ++ allSl a n)) a') :
    ∀ t v, lk (u.toList ++ base) t = some v → a'.tmps[t]? = some v := by
  intro t v ht
  refine hsa.at_ t v ?_
  rw [lk_append] at ht ⊢
  cases hut : lk u.toList t with
  | some v' => rw [hut] at ht; exact ht
  | none =>
    rw [hut] at ht
    simp only at ht ⊢
    have hat' := hA.at_ t v ht
    rw [lk_append]
    cases hr : lk lr t with
    | some v' =>
      have := hlr t v' hr
      rw [this] at hat'; exact hat'
    | none =>
      have htn : t < n := by
        rcases Nat.lt_or_ge t n with h | h
        · exact h
        · rw [Array.getElem?_eq_none (by rw [hA.sz]; exact h)] at hat'; cases hat'
      exact allSl_get a n t v htn hat'

theorem clo_set {L : Array Bool} {i : Nat} (hL : L.size = os.length) (hlt : i < os.length) (hclo : ∀ i j, L.getD i false = true → Nat.testBit ((mkAnc os []).getD i 0) j = true → L.getD j false = true)
    (hanci : ∀ j, Nat.testBit ((mkAnc os []).getD i 0) j = true → L.getD j false = true) :
    ∀ p q, (L.setIfInBounds i true).getD p false = true → Nat.testBit ((mkAnc os []).getD p 0) q = true → (L.setIfInBounds i true).getD q false = true := by
  intro p q hp hq
  rw [set_get hL hlt] at hp ⊢
  by_cases hqi : q = i
  · simp [hqi]
  · rw [if_neg hqi]
    by_cases hpi : p = i
    · subst hpi; exact hanci q hq
    · rw [if_neg hpi] at hp; exact hclo p q hp hq
theorem anc_done {L : Array Bool} {i : Nat} {o : Oper} (hanc : ancOK os 0 (mkAnc os []) = true) (ho : os[i]? = some o) (hclo : ∀ i j, L.getD i false = true → Nat.testBit ((mkAnc os []).getD i 0) j = true → L.getD j false = true)
    (hdeps : ∀ d ∈ depsOf o, L.getD d false = true) : ∀ j, Nat.testBit ((mkAnc os []).getD i 0) j = true → L.getD j false = true := by
  intro j hj
  have hspec := ancOK_spec hanc ho
  simp only [Nat.zero_add] at hspec
  obtain ⟨d, hd, he⟩ := hspec.2 j hj
  rcases he with rfl | he
  · exact hdeps d hd
  · exact hclo d j (hdeps d hd) he

theorem perform {l0 : Sl} {E : En} {us : Pu} {W : List Res} {l : Sl} {L : Array Bool} {a : Act} {w : World} (hI : InvP P c n os l0 E us W l L a w) (hanc : ancOK os 0 (mkAnc os []) = true) (hpairs : allPairs (ordOK os (mkAnc os [])) E = true)
    {k : Nat} {e : Nat × Kd} (he : E[k]? = some e) {o : Oper} (ho : os[e.1]? = some o) (hnl : L.getD e.1 false = false) (hdeps : ∀ d ∈ depsOf o, L.getD d false = true) {K' : Act → World → Prop}
    (hcont : ∀ a' w', InvP P c n os l0 E us W l (L.setIfInBounds e.1 true) a' w' → K' a' w') : wpOp P os.toArray Q e.1 K' a w := by
  have hlt : e.1 < os.length := by
    rcases Nat.lt_or_ge e.1 os.length with h | h
    · exact h
    · rw [List.getElem?_eq_none h] at ho; cases ho
  have hkl : k < E.length := by
    rcases Nat.lt_or_ge k E.length with h | h
    · exact h
    · rw [List.getElem?_eq_none h] at he; cases he
  have hanci := anc_done hanc ho hI.clo hdeps
  obtain ⟨u, hu⟩ : ∃ u, us[k]? = some u := ⟨us[k]'(by have := hI.len; omega), by have := hI.len; simp [show k < us.length by omega]⟩
  obtain ⟨o', ho', hdst, hinn, hsay⟩ := hI.ents k e u he hu
  rw [ho] at ho'; cases ho'
  have hlook := look_at hI ho hnl hanci (Nat.le_of_lt hkl)
    (fun j e' he' hjk y hy hc => ord_clash (allPairs_spec hpairs hjk he' he) hy ho hc)
    (fun j e' he' hkj y hy hc => by
      rcases Nat.eq_or_lt_of_le hkj with rfl | hlt'
      · rw [he] at he'; cases he'; exact .inl rfl
      · exact .inr (ord_clash (allPairs_spec hpairs hlt' he he') ho hy hc))
  have hfr : ∀ a', (∀ t v, lk (u.toList ++ cur us (dn L E) 0 l0) t = some v → a'.tmps[t]? = some v) → a'.defers = [] → a'.tmps.size = n → SatA n (cur us (dn (L.setIfInBounds e.1 true) E) 0 l0) a' := by
    intro a' h1 h2 h3
    refine ⟨h2, h3, fun t v ht => h1 t v ?_⟩
    have hs := lk_cur_set us (dn L E) (dn (L.setIfInBounds e.1 true) E) 0 l0 t k u hu (by simp [dn, he, set_get hI.size hlt]) (by simp [dn, he, hnl])
      (fun j hj => by
        simp only [Nat.zero_add, dn]
        cases hj' : E[j]? with
        | none => rfl
        | some e' =>
          have hne : e'.1 ≠ e.1 := by
            rcases Nat.lt_or_gt_of_ne hj with h | h
            · exact ord_ne (allPairs_spec hpairs h hj' he)
            · exact fun q => ord_ne (allPairs_spec hpairs h he hj') q.symm
          simp only [set_get hI.size hlt, if_neg hne])
    by_cases hw : writes u t
    · obtain ⟨v', hv'⟩ := hw
      have hod : o.dst = some t := by rw [hdst, hv']; rfl
      have := hs.2 v' hv' (fun j x hx hw hij => by
        simp only [Nat.zero_add]
        exact hlook.2 t hod j x hx hw (Nat.le_of_lt hij))
      rw [this] at ht; cases ht
      rw [hv']; simp [lk]
    · rw [hs.1 hw] at ht
      rw [lk_put hw]; exact ht
  have hinv : ∀ a' w', SatA n (cur us (dn (L.setIfInBounds e.1 true) E) 0 l0) a' → SatW c W w' → InvP P c n os l0 E us W l (L.setIfInBounds e.1 true) a' w' := by
    intro a' w' h1 h2
    refine ⟨by simp [hI.size], clo_set hI.size hlt hI.clo hanci, fun j hj => ?_, hI.len, h1, h2, hI.txt, fun k' e' u' he' hu' => ?_⟩
    · rw [set_get hI.size hlt] at hj
      by_cases hji : j = e.1
      · exact ⟨k, e, he, hji.symm⟩
      · rw [if_neg hji] at hj; exact hI.sub j hj
    · obtain ⟨o2, h1, h2, h3, h4⟩ := hI.ents k' e' u' he' hu'
      refine ⟨o2, h1, h2, h3, ?_⟩
      rcases h4 with h4 | h4 | h4
      · left; rw [set_get hI.size hlt]; split
        · rfl
        · exact h4
      · exact .inr (.inl h4)
      · exact .inr (.inr h4)
  have hyield : ∀ j want, o.guard = some (j, want) → ∀ t, (os.toArray[j]?).bind (·.dst) = some t → ∀ v, lk (cur (us.take k) (fun _ => true) 0 l0) t = some v → a.tmps[t]? = some v := by
    intro j want hg t ht v hv
    have htn : t ∈ namesOf os.toArray o := by
      simp only [namesOf, List.mem_append, guTmp, hg]
      left; rw [ht]; simp
    exact hI.fr.at_ t v (by rw [hlook.1 t htn]; exact hv)
  unfold wpOp
  rw [show os.toArray[e.1]? = some o by simpa using ho]
  rcases hsay with hd | ⟨hg, hne, hV⟩ | ⟨hg, d, hud⟩
  · rw [hnl] at hd; cases hd
  · have hwant := wanted_of hg hyield
    simp only [hwant, if_true]
    left
    have hpinW : SatW c (pinW e.2 W) w := by
      cases hk : e.2 with
      | free => exact hI.wd.sub SubW.nil
      | pin => exact hI.wd
      | eff => exact hI.wd
    have hlr : ∀ t v, lk (restr os.toArray o (cur (us.take k) (fun _ => true) 0 l0)) t = some v → a.tmps[t]? = some v := fun t v ht => by
      obtain ⟨h1, h2⟩ := lk_restrL ht
      exact hI.fr.at_ t v (by rw [hlook.1 t h2]; exact h1)
    have hstep := hV w (allSl a n) hpinW a w ⟨hI.fr.dfr, hI.fr.sz, fun t v ht => by
      rw [lk_append] at ht
      cases hr : lk (restr os.toArray o (cur (us.take k) (fun _ => true) 0 l0)) t with
      | some v' => rw [hr] at ht; cases ht; exact hlr t v hr
      | none => rw [hr] at ht; exact allSl_lk a n t v ht⟩ ⟨Ext.refl _ _, hpinW.holds, fun b hb => .inr hb, hpinW.nd⟩
    rcases wpList_single hstep rfl with hstep | ⟨_, a0, w0, hq, _⟩
    case inr => cases hq
    refine oper_wp_change (noG_wp hstep) (fun a' w' hp => hcont a' w' (hinv a' w' ?_ ?_)) (fun e _ _ hp => hp.1)
    · obtain ⟨_, hsa, _⟩ := hp
      exact hfr a' (after_op hI.fr hlr hsa) hsa.dfr hsa.sz
    · obtain ⟨_, _, hsw⟩ := hp
      cases hk : e.2 with
      | free =>
        rw [hk] at hsw
        exact hI.wd.ext0 hsw.ext
      | pin => rw [hk] at hsw; exact satW_shift hI.wd hsw
      | eff => rw [hk] at hne; simp [Kd.isEff] at hne
  · have hnw := wanted_of hg hyield
    simp only [hnw, Bool.false_eq_true, if_false]
    have hod : o.dst = some d := by rw [hdst, hud]; rfl
    have hput := hI.fr.put (v := undef) (hinn d hod)
    rw [hod]
    exact hcont _ _ (hinv _ _ (hfr _ (fun t v ht => hput.at_ t v (by rw [hud] at ht; exact ht)) hput.dfr hput.sz) hI.wd)

theorem get_snoc {α : Type} {E : List α} {x e : α} {k : Nat} (h : (E ++ [x])[k]? = some e) : (k < E.length ∧ E[k]? = some e) ∨ (k = E.length ∧ e = x) := by
  rcases Nat.lt_or_ge k E.length with hk | hk
  · rw [List.getElem?_append_left hk] at h; exact .inl ⟨hk, h⟩
  · rw [List.getElem?_append_right hk] at h
    have : k - E.length = 0 := by
      rcases Nat.eq_zero_or_pos (k - E.length) with h0 | h0
      · exact h0
      · rw [List.getElem?_eq_none (by simp; omega)] at h; cases h
    rw [this] at h; simp at h
    exact .inr ⟨by omega, h.symm⟩

theorem new_not {E : En} {i : Nat} (h : newP i E = true) : ∀ (k : Nat) (e : Nat × Kd), E[k]? = some e → e.1 ≠ i := by
  intro k e he hei
  simp only [newP, Bool.not_eq_true', List.any_eq_false] at h
  exact h e (List.mem_of_getElem? he) (by rw [hei]; exact Nat.beq_refl i)

theorem any_order {l0 : Sl} {E : En} {W : List Res} {l : Sl} {rest : List Nat} (h : QF P c n os (Q .normal) E W l rest) : ∀ (fuel : Nat) (us : Pu) (L : Array Bool) (a : Act) (w : World),
    (os.length - (L.toList.filter id).length = fuel) → InvP P c n os l0 E us W l L a w → wpAny P .any os.toArray Q fuel L a w := by
  induction h with
  | fin hc hf hk =>
    rename_i E W l
    simp only [chkP, Bool.and_eq_true] at hc
    obtain ⟨hanc, hpairs⟩ := hc
    have hfin : ∀ (us : Pu) (L : Array Bool) (a : Act) (w : World), InvP P c n os l0 E us W l L a w → Region.ready .any os.toArray L = [] → Q .normal a w := by
      intro us L a w hI hr
      have hd := ready_nil hanc hI.size hr
      refine hk a w ?_ hI.wd
      have e := cur_congr us (dn L E) (fun _ => true) 0 l0 (fun j hj => by
        have hjl : j < E.length := by have := hI.len; omega
        obtain ⟨o, ho, _⟩ := hI.ents j E[j] (us[j]) (by simp [hjl]) (by simp [hj])
        have hlt : (E[j]).1 < os.length := by
          rcases Nat.lt_or_ge (E[j]).1 os.length with h | h
          · exact h
          · rw [List.getElem?_eq_none h] at ho; cases ho
        simp only [Nat.zero_add, dn, List.getElem?_eq_getElem hjl]
        exact hd _ hlt)
      have hA := hI.fr
      rw [e, ← hI.txt] at hA
      exact hA
    intro fuel
    induction fuel with
    | zero => intro us L a w hf hI; exact ⟨ready_full hI.size hf, hfin us L a w hI (ready_full hI.size hf)⟩
    | succ fuel ih =>
      intro us L a w hfu hI
      refine ⟨hfin us L a w hI, fun i hi => ?_⟩
      obtain ⟨o, ho, hnl, hlt, hdeps⟩ := ready_spec hI.size hi
      simp only [fullP, List.all_eq_true, List.mem_range] at hf
      obtain ⟨e, hem, hei⟩ := List.any_eq_true.1 (hf i hlt)
      obtain ⟨k, hk'⟩ := List.getElem?_of_mem hem
      have hei := Nat.eq_of_beq_eq_true hei
      subst hei
      exact perform hI hanc hpairs hk' ho hnl hdeps (fun a' w' hI' => ih us _ a' w' (set_count hI.size hlt hnl hfu) hI')
  | val kd hk hi ho hd hn hg h hr ih =>
    rename_i E W l i d o v rest
    intro fuel us L a w hfu hI
    have hnew := new_not hi
    have hnd : L.getD i false = false := by
      cases hx : L.getD i false
      · rfl
      · obtain ⟨k, e, he, hei⟩ := hI.sub i hx; exact absurd hei (hnew k e he)
    refine ih fuel (us ++ [some (d, v)]) L a w hfu ⟨hI.size, hI.clo, fun j hj => ?_, by simp [hI.len], ?_, hI.wd, ?_, fun k e u he hu => ?_⟩
    · obtain ⟨k, e, he, hej⟩ := hI.sub j hj
      exact ⟨k, e, by rw [List.getElem?_append_left]; exact he; exact (List.getElem?_eq_some_iff.1 he).1, hej⟩
    · rw [cur_append]
      have e1 : cur us (dn L (E ++ [(i, kd)])) 0 l0 = cur us (dn L E) 0 l0 := cur_congr _ _ _ _ _ (fun j hj => by
        simp only [Nat.zero_add, dn]; rw [List.getElem?_append_left (by have := hI.len; omega)])
      have e2 : dn L (E ++ [(i, kd)]) (0 + us.length) = false := by
        simp only [Nat.zero_add, dn, hI.len, List.getElem?_concat_length]; exact hnd
      simp only [cur, e2, Bool.false_eq_true, if_false, e1]; exact hI.fr
    · rw [cur_append, ← hI.txt]; simp [cur]
    · rcases get_snoc he with ⟨hkl, he'⟩ | ⟨rfl, rfl⟩
      · have hu' : us[k]? = some u := by rwa [List.getElem?_append_left (by have := hI.len; omega)] at hu
        have := hI.ents k e u he' hu'
        rw [List.take_append_of_le_length (by have := hI.len; omega)]
        exact this
      · have hu' : u = some (d, v) := by rw [← hI.len, List.getElem?_concat_length] at hu; exact (Option.some.inj hu).symm
        subst hu'
        refine ⟨o, ho, by simpa using hd, fun d' hd' => by rw [hd] at hd'; cases hd'; exact hn, .inr (.inl ?_)⟩
        rw [List.take_append_of_le_length (by have := hI.len; omega), ← hI.len, List.take_length, ← hI.txt]
        exact ⟨hg, hk, h⟩
  | no hi ho hd hn hg hr ih =>
    rename_i E W l i d o rest
    intro fuel us L a w hfu hI
    have hnew := new_not hi
    have hnd : L.getD i false = false := by
      cases hx : L.getD i false
      · rfl
      · obtain ⟨k, e, he, hei⟩ := hI.sub i hx; exact absurd hei (hnew k e he)
    refine ih fuel (us ++ [some (d, undef)]) L a w hfu ⟨hI.size, hI.clo, fun j hj => ?_, by simp [hI.len], ?_, hI.wd, ?_, fun k e u he hu => ?_⟩
    · obtain ⟨k, e, he, hej⟩ := hI.sub j hj
      exact ⟨k, e, by rw [List.getElem?_append_left]; exact he; exact (List.getElem?_eq_some_iff.1 he).1, hej⟩
    · rw [cur_append]
      have e1 : cur us (dn L (E ++ [(i, .free)])) 0 l0 = cur us (dn L E) 0 l0 := cur_congr _ _ _ _ _ (fun j hj => by
        simp only [Nat.zero_add, dn]; rw [List.getElem?_append_left (by have := hI.len; omega)])
      have e2 : dn L (E ++ [(i, .free)]) (0 + us.length) = false := by
        simp only [Nat.zero_add, dn, hI.len, List.getElem?_concat_length]; exact hnd
      simp only [cur, e2, Bool.false_eq_true, if_false, e1]; exact hI.fr
    · rw [cur_append, ← hI.txt]; simp [cur]
    · rcases get_snoc he with ⟨hkl, he'⟩ | ⟨rfl, rfl⟩
      · have hu' : us[k]? = some u := by rwa [List.getElem?_append_left (by have := hI.len; omega)] at hu
        have := hI.ents k e u he' hu'
        rw [List.take_append_of_le_length (by have := hI.len; omega)]
        exact this
      · have hu' : u = some (d, undef) := by rw [← hI.len, List.getElem?_concat_length] at hu; exact (Option.some.inj hu).symm
        subst hu'
        refine ⟨o, ho, by simpa using hd, fun d' hd' => by rw [hd] at hd'; cases hd'; exact hn, .inr (.inr ?_)⟩
        rw [List.take_append_of_le_length (by have := hI.len; omega), ← hI.len, List.take_length, ← hI.txt]
        exact ⟨hg, d, rfl⟩
  | nd hi ho hc hdesc hΦ hg h hr ih =>
    rename_i E W l i o rest Φ
    simp only [chkP, Bool.and_eq_true] at hc
    obtain ⟨hanc, hpairsX⟩ := hc
    have hnew := new_not hi
    have hget : ∀ {k e}, E[k]? = some e → (E ++ [(i, Kd.eff)])[k]? = some e := fun {k e} he => by
      rw [List.getElem?_append_left]; exact he; exact (List.getElem?_eq_some_iff.1 he).1
    have hlast : (E ++ [(i, Kd.eff)])[E.length]? = some (i, Kd.eff) := by simp
    have hpairs : allPairs (ordOK os (mkAnc os [])) E = true := by
      have : ∀ {X Y : En}, allPairs (ordOK os (mkAnc os [])) (X ++ Y) = true → allPairs (ordOK os (mkAnc os [])) X = true := by
        intro X
        induction X with
        | nil => intro Y _; rfl
        | cons x r ihx =>
          intro Y hxy
          simp only [List.cons_append, allPairs, Bool.and_eq_true, List.all_append] at hxy ⊢
          exact ⟨hxy.1.1, ihx hxy.2⟩
      exact this hpairsX
    intro fuel
    induction fuel with
    | zero =>
      intro us L a w hfu hI
      have hr0 := ready_full hI.size hfu
      have hd := ready_nil hanc hI.size hr0
      have hlt : i < os.length := (List.getElem?_eq_some_iff.1 ho).1
      obtain ⟨k, e, he, hei⟩ := hI.sub i (hd i hlt)
      exact absurd hei (hnew k e he)
    | succ fuel ihf =>
      intro us L a w hfu hI
      have hlti : i < os.length := (List.getElem?_eq_some_iff.1 ho).1
      have hnd : L.getD i false = false := by
        cases hx : L.getD i false
        · rfl
        · obtain ⟨k, e, he, hei⟩ := hI.sub i hx; exact absurd hei (hnew k e he)
      refine ⟨fun hr0 => ?_, fun j hj => ?_⟩
      · have hd := ready_nil hanc hI.size hr0
        rw [hd i hlti] at hnd; cases hnd
      obtain ⟨p, hp, hnl, hlt, hdeps⟩ := ready_spec hI.size hj
      have hanci := anc_done hanc hp hI.clo hdeps
      simp only [descP, Bool.and_eq_true, List.all_eq_true, List.mem_range, Bool.or_eq_true] at hdesc
      have hcase : j = i ∨ ∃ (k : Nat) (e : Nat × Kd), E[k]? = some e ∧ e.1 = j := by
        rcases hdesc.2 j hlt with (h1 | h1) | h1
        · exact .inl (Nat.eq_of_beq_eq_true h1)
        · obtain ⟨x, hx, hxj⟩ := List.any_eq_true.1 h1
          have hxj := Nat.eq_of_beq_eq_true hxj
          subst hxj
          have hb := hanci i (hdesc.1 j hx)
          rw [hnd] at hb; cases hb
        · obtain ⟨e, hem, hej⟩ := List.any_eq_true.1 h1
          obtain ⟨k, hk'⟩ := List.getElem?_of_mem hem
          exact .inr ⟨k, e, hk', Nat.eq_of_beq_eq_true hej⟩
      rcases hcase with rfl | ⟨k, e, hk', rfl⟩
      case inr => exact perform hI hanc hpairs hk' hp hnl hdeps (fun a' w' hI' => ihf us _ a' w' (set_count hI.size hlt hnl hfu) hI')
      -- the one that makes something new
      rw [ho] at hp; cases hp
      have hlook := look_at hI ho hnl hanci (Nat.le_refl _)
        (fun j' e' he' hjk y hy hc => ord_clash (allPairs_spec hpairsX hjk (hget he') hlast) hy ho hc)
        (fun j' e' he' hkj => by rw [List.getElem?_eq_none hkj] at he'; cases he')
      have htk : us.take E.length = us := by rw [← hI.len, List.take_length]
      rw [htk, ← hI.txt] at hlook
      have hyield : ∀ j' want, o.guard = some (j', want) → ∀ t, (os.toArray[j']?).bind (·.dst) = some t → ∀ v, lk l t = some v → a.tmps[t]? = some v := by
        intro j' want hg t ht v hv
        have htn : t ∈ namesOf os.toArray o := by
          simp only [namesOf, List.mem_append, guTmp, hg]
          left; rw [ht]; simp
        exact hI.fr.at_ t v (by rw [hlook.1 t htn]; exact hv)
      have hlr : ∀ t v, lk (restr os.toArray o l) t = some v → a.tmps[t]? = some v := fun t v ht => by
        obtain ⟨h1, h2⟩ := lk_restrL ht
        exact hI.fr.at_ t v (by rw [hlook.1 t h2]; exact h1)
      unfold wpOp
      rw [show os.toArray[j]? = some o by simpa using ho]
      have hwant := wanted_of hg hyield
      simp only [hwant, if_true]
      left
      have hstep := h w (allSl a n) hI.wd a w ⟨hI.fr.dfr, hI.fr.sz, fun t v ht => by
        rw [lk_append] at ht
        cases hr' : lk (restr os.toArray o l) t with
        | some v' => rw [hr'] at ht; cases ht; exact hlr t v hr'
        | none => rw [hr'] at ht; exact allSl_lk a n t v ht⟩ ⟨Ext.refl _ _, hI.wd.holds, fun b hb => .inr hb, hI.wd.nd⟩
      rcases wpList_single hstep rfl with hstep | ⟨_, a0, w0, hq, _⟩
      case inr => cases hq
      refine oper_wp_change (noG_wp hstep) (fun a' w' hp => ?_) (fun e _ _ hp => hp.1)
      obtain ⟨_, u, W', hu, hsa, hsw⟩ := hp
      have hL' := set_get hI.size hlt
      obtain ⟨hdst, hinn⟩ := hΦ u W' hu
      refine ih u W' hu fuel (us ++ [u]) _ a' w' (set_count hI.size hlt hnl hfu) ⟨by simp [hI.size], clo_set hI.size hlt hI.clo hanci, fun q hq => ?_, by simp [hI.len], ?_, satW_shift hI.wd hsw, ?_, fun k e u' he hu' => ?_⟩
      · rw [hL'] at hq
        by_cases hqj : q = j
        · exact ⟨E.length, (j, .eff), hlast, hqj.symm⟩
        · rw [if_neg hqj] at hq
          obtain ⟨k, e, he, hej⟩ := hI.sub q hq
          exact ⟨k, e, hget he, hej⟩
      · rw [cur_append]
        have e1 : cur us (dn (L.setIfInBounds j true) (E ++ [(j, .eff)])) 0 l0 = cur us (dn L E) 0 l0 := cur_congr _ _ _ _ _ (fun q hq => by
          have hql : q < E.length := by have := hI.len; omega
          simp only [Nat.zero_add, dn]; rw [List.getElem?_append_left hql, List.getElem?_eq_getElem hql]
          simp only [hL', if_neg (hnew q E[q] (by simp [hql]))])
        have e2 : dn (L.setIfInBounds j true) (E ++ [(j, .eff)]) (0 + us.length) = true := by
          simp only [Nat.zero_add, dn, hI.len, List.getElem?_concat_length, hL', if_true]
        simp only [cur, e2, if_true, e1]
        exact ⟨hsa.dfr, hsa.sz, after_op hI.fr hlr hsa⟩
      · rw [cur_append, ← hI.txt]; simp [cur]
      · rcases get_snoc he with ⟨hkl, he'⟩ | ⟨rfl, rfl⟩
        · have hu2 : us[k]? = some u' := by rwa [List.getElem?_append_left (by have := hI.len; omega)] at hu'
          obtain ⟨o2, h1, h2, h3, h4⟩ := hI.ents k e u' he' hu2
          rw [List.take_append_of_le_length (by have := hI.len; omega)]
          refine ⟨o2, h1, h2, h3, ?_⟩
          have hdone : L.getD e.1 false = true → (L.setIfInBounds j true).getD e.1 false = true := fun hx => by rw [hL']; split; rfl; exact hx
          rcases h4 with h4 | ⟨g1, g2, g3⟩ | h4
          · exact .inl (hdone h4)
          · cases hkd : e.2 with
            | free =>
              rw [hkd] at g3
              exact .inr (.inl ⟨g1, rfl, g3⟩)
            | pin =>
              refine .inl (hdone (hanci _ ?_))
              exact ord_mem (allPairs_spec hpairsX hkl (hget he') hlast) (by rw [hkd]; rfl)
            | eff => rw [hkd] at g2; simp [Kd.isEff] at g2
          · exact .inr (.inr h4)
        · have hu2 : u' = u := by rw [← hI.len, List.getElem?_concat_length] at hu'; exact (Option.some.inj hu').symm
          subst hu2
          refine ⟨o, ho, hdst, hinn, .inl ?_⟩
          rw [hL', if_pos rfl]

theorem st_perm {rid : Nat} {W : List Res} {l : Sl} (π : List Nat) (hm : P.follows .mixedOrders = true) (h : QF P c n os (Q .normal) [] W l π) : Go c n l W ((Code.region rid os.toArray true).wp P Q) := by
  refine st_anyB hm fun a w ha hw => any_order (l0 := l) h _ [] _ a w ?_ ⟨by simp, ?_, ?_, rfl, ha, hw, rfl, ?_⟩
  · simp
  · intro i j hi; simp [Array.getD_eq_getD_getElem?, Array.getElem?_replicate] at hi; split at hi <;> simp at hi
  · intro i hi; simp [Array.getD_eq_getD_getElem?, Array.getElem?_replicate] at hi; split at hi <;> simp at hi
  · intro k e u he; simp at he

/-! ## The steps -/
variable {K : Act → World → Prop} {E : En} {W : List Res} {l : Sl} {i d : Nat} {o : Oper} {rest : List Nat}
theorem Zpf {v : Value} (ho : os[i]? = some o) (h : OpV P c n [] [] (restr os.toArray o l) (noG o) (some (d, v))) (hr : QF P c n os K (E ++ [(i, .free)]) W ((d, v) :: l) rest)
    (hi : newP i E = true := by rfl) (hd : o.dst = some d := by rfl) (hn : Nat.blt d n = true := by rfl) (hg : gSays os.toArray l o = some true := by rfl) : QF P c n os K E W l (i :: rest) :=
  QF.val .free rfl hi ho hd hn hg h hr
theorem Zpp {v : Value} (ho : os[i]? = some o) (h : OpV P c n W W (restr os.toArray o l) (noG o) (some (d, v))) (hr : QF P c n os K (E ++ [(i, .pin)]) W ((d, v) :: l) rest)
    (hi : newP i E = true := by rfl) (hd : o.dst = some d := by rfl) (hn : Nat.blt d n = true := by rfl) (hg : gSays os.toArray l o = some true := by rfl) : QF P c n os K E W l (i :: rest) :=
  QF.val .pin rfl hi ho hd hn hg h hr
theorem Zpo (ho : os[i]? = some o) (hr : QF P c n os K (E ++ [(i, .free)]) W ((d, undef) :: l) rest)
    (hi : newP i E = true := by rfl) (hd : o.dst = some d := by rfl) (hn : Nat.blt d n = true := by rfl) (hg : gSays os.toArray l o = some false := by rfl) : QF P c n os K E W l (i :: rest) :=
  QF.no hi ho hd hn hg hr
/-- New memory, whose place is open. -/
def OpF (P : Program) (c : Cx) (n : Nat) (W : List Res) (F : Value → List Res) (d : Nat) (lr : Sl) (o : Oper) : Prop :=
  ∀ w0 m, SatW c W w0 → Go ⟨w0, fps W⟩ n (lr ++ m) W (wpList P #[] (fun e a w => e = .normal ∧ ∃ v, SatA n ((d, v) :: (lr ++ m)) a ∧ SatW ⟨w0, fps W⟩ (F v) w) [o])
theorem Zpn {F : Value → List Res} (ho : os[i]? = some o) (h : OpF P c n W F d (restr os.toArray o l) (noG o)) (hr : ∀ v, QF P c n os K (E ++ [(i, .eff)]) (F v) ((d, v) :: l) rest)
    (hi : newP i E = true := by rfl) (hd : o.dst = some d := by rfl) (hn : Nat.blt d n = true := by rfl) (hg : gSays os.toArray l o = some true := by rfl)
    (hc : chkP os (E ++ [(i, .eff)]) = true := by rfl) (hdesc : descP os i rest E = true := by rfl) : QF P c n os K E W l (i :: rest) :=
  QF.nd (Φ := fun u W' => ∃ v, u = some (d, v) ∧ W' = F v) hi ho hc hdesc (fun u W' ⟨v, hu, _⟩ => by subst hu; exact ⟨hd, fun d' hd' => by rw [hd] at hd'; cases hd'; exact hn⟩) hg
    (fun w0 m hw a w ha hw' => single_mono (h w0 m hw a w ha hw') rfl (fun _ _ _ h => h.1) fun a w ⟨h1, v, h2, h3⟩ => ⟨h1, some (d, v), F v, ⟨v, rfl, rfl⟩, h2, h3⟩)
    (fun u W' ⟨v, hu, hW⟩ => by subst hu; subst hW; exact hr v)
theorem Zpx {F : Value → List Res} {L : Sl} {v : Value} {W' : List Res} (hF : F v = W' := by rfl) :
    Go c n ((d, v) :: L) W' (wpList P #[] (fun e a w => e = .normal ∧ ∃ v, SatA n ((d, v) :: L) a ∧ SatW c (F v) w) []) :=
  fun _ _ ha hw => wpList_nil ⟨rfl, v, ha, by rw [hF]; exact hw⟩
/-- A write. -/
theorem Zps {W' : List Res} (ho : os[i]? = some o) (h : OpV P c n W W' (restr os.toArray o l) (noG o) none) (hr : QF P c n os K (E ++ [(i, .eff)]) W' l rest)
    (hi : newP i E = true := by rfl) (hd : o.dst = none := by rfl) (hg : gSays os.toArray l o = some true := by rfl)
    (hc : chkP os (E ++ [(i, .eff)]) = true := by rfl) (hdesc : descP os i rest E = true := by rfl) : QF P c n os K E W l (i :: rest) :=
  QF.nd (Φ := fun u V => u = none ∧ V = W') hi ho hc hdesc (fun u V ⟨hu, _⟩ => by subst hu; exact ⟨hd, fun d' hd' => by rw [hd] at hd'; cases hd'⟩) hg
    (fun w0 m hw a w ha hw' => single_mono (h w0 m hw a w ha hw') rfl (fun _ _ _ h => h.1) fun a w ⟨h1, h2, h3⟩ => ⟨h1, none, W', ⟨rfl, rfl⟩, h2, h3⟩)
    (fun u V ⟨hu, hV⟩ => by subst hu; subst hV; exact hr)
theorem Zp0 (hk : Go c n l W K) (hc : chkP os E = true := by rfl) (hf : fullP os E = true := by rfl) : QF P c n os K E W l [] := QF.fin hc hf hk
end
end Go.Proofs.Ytfhempgkdnecnaa.L
