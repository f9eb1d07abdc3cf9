/- What the proof of the statement about XmdNumbers stands on, part C. Conditions: as each statement says. -/
import Derived.Test.YtbjfjkmidhfgcaaXmdNumbersB
import Derived.Below
import Derived.KernelRfl
import Derived.Laws.BytesArg
import Derived.Laws.Externs
import Derived.Laws.Strings
import Derived.Laws.StructEq
import Derived.Orders
import Derived.ProofKit
import Derived.Scope
import Derived.Tactics
import Derived.Test.YtbjfjkmidhfgcaaProg
import Derived.WalkKit
namespace Go.Proofs.Ytbjfjkmidhfgcaa.L.R
open Go Go.Proofs.Ytbjfjkmidhfgcaa.L
inductive Kd where
  | free
  | pin
  | eff
  | alc
def Kd.isEff : Kd → Bool
  | .eff => true
  | .alc => true
  | _ => false
def memClash : Kd → Kd → Bool
  | .eff, .pin => true
  | .pin, .eff => true
  | _, _ => false
def pinW (kd : Kd) (W : List Res) : List Res := match kd with
  | .free => []
  | _ => W
theorem drop_all {c : Cx} {W : List Res} {w : World} : ∀ {A : List Res}, SatW c (A ++ W) w → SatW c W w
  | [], h => h
  | r :: A, h => drop_all (A := A) (SatW.drop (r := r) h)
theorem frame_all {c : Cx} {A W W' : List Res} {w w' : World} (h : SatW c (A ++ W) w) (h1 : SatW ⟨w, fps W⟩ W' w') : SatW c (A ++ W') w' := by
  have hnd0 := h.nd
  have hown := h.own
  simp only [fps, List.flatMap_append] at hnd0
  obtain ⟨n1, n2, n3⟩ := List.nodup_append.1 hnd0
  simp only [fps, List.flatMap_append, List.mem_append] at hown
  have hlt := h.lt
  simp only [fps, List.flatMap_append, List.mem_append] at hlt
  refine ⟨h.ext.trans h1.ext (fun x hx => hown x (.inr hx)), ?_, ?_, ?_⟩
  · intro r hr
    rcases List.mem_append.1 hr with hr | hr
    · refine Res.holds_congr (h.holds r (List.mem_append.2 (.inl hr))) fun b hb => ?_
      refine h1.ext.block b (Res.fp_lt (h.holds r (List.mem_append.2 (.inl hr))) b hb) fun hin => ?_
      exact n3 b (List.mem_flatMap.2 ⟨r, hr, hb⟩) b hin rfl
    · exact h1.holds r hr
  · intro b hb
    simp only [fps, List.flatMap_append, List.mem_append] at hb
    rcases hb with hb | hb
    · exact hown b (.inl hb)
    · rcases h1.own b hb with h2 | h2
      · exact .inl (Nat.le_trans h.ext.size h2)
      · exact hown b (.inr h2)
  · simp only [fps, List.flatMap_append]
    refine List.nodup_append.2 ⟨n1, h1.nd, fun x hx y hy hxy => ?_⟩
    subst hxy
    rcases h1.own x hy with h2 | h2
    · have := hlt x (.inl hx); simp only at h2; omega
    · exact n3 x hx x h2 rfl
abbrev En := List (Nat × Kd)
def bitA (anc : List Nat) (j i : Nat) : Bool := Nat.testBit (anc.getD j 0) i
def ordOK (os : List Oper) (anc : List Nat) (x y : Nat × Kd) : Bool :=
  (match os[x.1]?, os[y.1]? with
   | some o, some p => !clash os.toArray o p || bitA anc y.1 x.1
   | _, _ => false) && (!memClash x.2 y.2 || bitA anc y.1 x.1) && !Nat.beq x.1 y.1
def allPairs {α : Type} (R : α → α → Bool) : List α → Bool
  | [] => true
  | x :: r => r.all (R x) && allPairs R r
theorem allPairs_spec {α : Type} {R : α → α → Bool} : ∀ {l : List α}, allPairs R l = true → ∀ {i j : Nat} {x y : α}, i < j → l[i]? = some x → l[j]? = some y → R x y = true
  | [], _, i, j, x, y, _, hx, _ => by simp at hx
  | z :: r, h, i, j, x, y, hij, hx, hy => by
    simp only [allPairs, Bool.and_eq_true] at h
    cases j with
    | zero => omega
    | succ j =>
      have hy' : r[j]? = some y := by simpa using hy
      cases i with
      | zero =>
        simp at hx; subst hx
        exact List.all_eq_true.1 h.1 y (List.mem_of_getElem? hy')
      | succ i => exact allPairs_spec h.2 (i := i) (j := j) (by omega) (by simpa using hx) hy'
def chkP (os : List Oper) (E : En) : Bool := ancOK os 0 (mkAnc os []) && allPairs (ordOK os (mkAnc os [])) E
def descP (os : List Oper) (is rest : List Nat) (E : En) : Bool :=
  rest.all (fun j => is.any (fun i => bitA (mkAnc os []) j i)) && (List.range os.length).all (fun j => is.any (Nat.beq j) || rest.any (Nat.beq j) || E.any (fun e => Nat.beq e.1 j))
def fullP (os : List Oper) (E : En) : Bool := (List.range os.length).all (fun j => E.any (fun e => Nat.beq e.1 j))
def newP (i : Nat) (E : En) : Bool := !E.any (fun e => Nat.beq e.1 i)
section
variable (P : Program) (c : Cx) (n : Nat)
def OpN (W : List Res) (Φ : Option (Nat × Value) → List Res → Prop) (lr : Sl) (o : Oper) : Prop :=
  ∀ w0 m, SatW c W w0 → Go ⟨w0, fps W⟩ n (lr ++ m) W (wpList P #[] (fun e a w => e = .normal ∧ ∃ u W', Φ u W' ∧ SatA n (u.toList ++ (lr ++ m)) a ∧ SatW ⟨w0, fps W⟩ W' w) [o])
end
inductive QF (P : Program) (c : Cx) (n : Nat) (os : List Oper) (K : Act → World → Prop) : En → List Res → Sl → List Nat → Prop
  | fin {E : En} {W : List Res} {l : Sl} (hc : chkP os E = true) (hf : fullP os E = true) (hk : Go c n l W K) : QF P c n os K E W l []
  | val {E : En} {W : List Res} {l : Sl} {i d : Nat} {o : Oper} {v : Value} {rest : List Nat} (kd : Kd) (hk : kd.isEff = false) (hi : newP i E = true) (ho : os[i]? = some o) (hd : o.dst = some d) (hn : Nat.blt d n = true)
      (hg : gSays os.toArray l o = some true) (h : OpV P c n (pinW kd W) (pinW kd W) (restr os.toArray o l) (noG o) (some (d, v)))
      (hr : QF P c n os K (E ++ [(i, kd)]) W ((d, v) :: l) rest) : QF P c n os K E W l (i :: rest)
  | no {E : En} {W : List Res} {l : Sl} {i d : Nat} {o : Oper} {rest : List Nat} (hi : newP i E = true) (ho : os[i]? = some o) (hd : o.dst = some d) (hn : Nat.blt d n = true)
      (hg : gSays os.toArray l o = some false) (hr : QF P c n os K (E ++ [(i, .free)]) W ((d, undef) :: l) rest) : QF P c n os K E W l (i :: rest)
  | nd {E : En} {W : List Res} {l : Sl} {is rest : List Nat} {o : Nat → Oper} {Φ : Nat → Option (Nat × Value) → List Res → Prop} {kd : Nat → Kd} {nx : Nat → List Nat} (hne : is ≠ []) (hi : ∀ i ∈ is, newP i E = true) (ho : ∀ i ∈ is, os[i]? = some (o i))
      (hc : ∀ i ∈ is, chkP os (E ++ [(i, kd i)]) = true) (hdesc : descP os is rest E = true) (hΦ : ∀ i ∈ is, ∀ u W', Φ i u W' → (o i).dst = u.map (·.1) ∧ (∀ d, (o i).dst = some d → Nat.blt d n = true) ∧ (kd i = .eff ∨ (kd i = .alc ∧ ∃ B, W' = B ++ W)))
      (hg : ∀ i ∈ is, gSays os.toArray l (o i) = some true) (h : ∀ i ∈ is, OpN P c n W (Φ i) (restr os.toArray (o i) l) (noG (o i)))
      (hr : ∀ i ∈ is, ∀ u W', Φ i u W' → QF P c n os K (E ++ [(i, kd i)]) W' (u.toList ++ l) (nx i)) : QF P c n os K E W l (is ++ rest)
theorem cur_append : ∀ (us vs : Pu) (D : Nat → Bool) (i : Nat) (l : Sl), cur (us ++ vs) D i l = cur vs D (i + us.length) (cur us D i l)
  | [], vs, D, i, l => by simp [cur]
  | u :: r, vs, D, i, l => by
    simp only [List.cons_append, cur, List.length_cons]
    rw [cur_append r vs D (i + 1)]
    congr 1; omega
theorem cur_congr : ∀ (us : Pu) (D D' : Nat → Bool) (i : Nat) (l : Sl), (∀ j, j < us.length → D (i + j) = D' (i + j)) → cur us D i l = cur us D' i l
  | [], D, D', i, l, _ => rfl
  | u :: r, D, D', i, l, h => by
    simp only [cur]
    have h0 := h 0 (by simp)
    simp only [Nat.add_zero] at h0
    rw [h0, cur_congr r D D' (i + 1) _ (fun j hj => by have := h (j + 1) (by simpa using hj); rw [show i + 1 + j = i + (j + 1) by omega]; exact this)]
def dn (L : Array Bool) (E : En) (k : Nat) : Bool := match E[k]? with
  | some e => L.getD e.1 false
  | none => false
section
variable {P : Program} {c : Cx} {n : Nat} {os : List Oper} {Q : Exit → Act → World → Prop}
structure InvP (P : Program) (c : Cx) (n : Nat) (os : List Oper) (l0 : Sl) (E : En) (us : Pu) (W : List Res) (l : Sl) (L : Array Bool) (a : Act) (w : World) : Prop where
  size : L.size = os.length
  clo : ∀ i j, L.getD i false = true → Nat.testBit ((mkAnc os []).getD i 0) j = true → L.getD j false = true
  sub : ∀ i, L.getD i false = true → ∃ (k : Nat) (e : Nat × Kd), E[k]? = some e ∧ e.1 = i
  len : us.length = E.length
  fr : SatA n (cur us (dn L E) 0 l0) a
  wd : SatW c W w
  txt : l = cur us (fun _ => true) 0 l0
  ents : ∀ (k : Nat) (e : Nat × Kd) (u : Option (Nat × Value)), E[k]? = some e → us[k]? = some u → ∃ o, os[e.1]? = some o ∧ o.dst = u.map (·.1) ∧ (∀ d, o.dst = some d → Nat.blt d n = true) ∧
    (L.getD e.1 false = true ∨ (gSays os.toArray (cur (us.take k) (fun _ => true) 0 l0) o = some true ∧ e.2.isEff = false ∧ ∃ A Wk, W = A ++ Wk ∧ (e.2 = .free → Wk = []) ∧ OpV P c n Wk Wk (restr os.toArray o (cur (us.take k) (fun _ => true) 0 l0)) (noG o) u) ∨
      (gSays os.toArray (cur (us.take k) (fun _ => true) 0 l0) o = some false ∧ ∃ d, u = some (d, undef)))
theorem ready_spec {L : Array Bool} {i : Nat} (hL : L.size = os.length) (hi : i ∈ Region.ready .any os.toArray L) : ∃ o, os[i]? = some o ∧ L.getD i false = false ∧ i < os.length ∧ ∀ d ∈ depsOf o, L.getD d false = true := by
  simp only [Region.ready, List.size_toArray, List.mem_filter, List.mem_range, Bool.and_eq_true, Bool.not_eq_true'] at hi
  obtain ⟨hlt, hnl, hdeps⟩ := hi
  obtain ⟨o, ho⟩ : ∃ o, os[i]? = some o := ⟨os[i], by simp [hlt]⟩
  refine ⟨o, ho, ?_, hlt, fun d hd => ?_⟩
  · rw [Array.getD_eq_getD_getElem?] at hnl ⊢
    rw [Array.getElem?_eq_getElem (by omega)] at hnl ⊢
    simpa using hnl
  · have ho' : os.toArray[i]? = some o := by simpa using ho
    rw [ho'] at hdeps
    simp only [Option.map_some, Option.getD_some] at hdeps
    obtain ⟨e, he, rfl⟩ := List.mem_map.1 hd
    rw [List.mem_filter] at he
    have hx := Array.all_eq_true'.1 hdeps e (by simpa using he.1)
    simpa [he.2] using hx
theorem ready_nil {L : Array Bool} (hanc : ancOK os 0 (mkAnc os []) = true) (hL : L.size = os.length) (hr : Region.ready .any os.toArray L = []) : ∀ i, i < os.length → L.getD i false = true := by
  intro i
  induction i using Nat.strongRecOn with
  | _ i ih =>
    intro hi
    by_cases hd : L.getD i false = true
    · exact hd
    · exfalso
      have hd' : L.getD i true = false := by
        rw [Array.getD_eq_getD_getElem?, Array.getElem?_eq_getElem (by omega)] at hd ⊢
        simpa using hd
      have hm : i ∈ Region.ready .any os.toArray L := by
        simp only [Region.ready, List.size_toArray, List.mem_filter, List.mem_range, Bool.and_eq_true, Bool.not_eq_true']
        refine ⟨hi, hd', ?_⟩
        have ho : os[i]? = some os[i] := by simp [hi]
        have ho' : os.toArray[i]? = some os[i] := by simp [hi]
        rw [ho']
        simp only [Option.map_some, Option.getD_some]
        rw [Array.all_eq_true']
        intro e he
        by_cases hb : Region.binds .any e = true
        · have hdep : e.on ∈ depsOf os[i] := List.mem_map.2 ⟨e, List.mem_filter.2 ⟨by simpa using he, hb⟩, rfl⟩
          have hlt := (ancOK_spec hanc ho).1 _ hdep
          simp only [Nat.zero_add] at hlt
          simp [ih e.on hlt (by omega)]
        · simp [hb]
      rw [hr] at hm; cases hm
theorem ready_full {L : Array Bool} (hL : L.size = os.length) (hf : os.length - (L.toList.filter id).length = 0) : Region.ready .any os.toArray L = [] := by
  have hcount : (L.toList.filter id).length = L.toList.length := by
    have := List.length_filter_le id L.toList
    simp only [Array.length_toList] at this ⊢
    omega
  rw [List.eq_nil_iff_forall_not_mem]
  intro i hi
  obtain ⟨o, ho, hnl, hlt, _⟩ := ready_spec hL hi
  have hallt := List.length_filter_eq_length_iff.1 hcount
  have : L[i]'(by omega) = true := by
    have := hallt (L[i]'(by omega)) (by simp)
    simpa using this
  rw [Array.getD_eq_getD_getElem?, Array.getElem?_eq_getElem (by omega)] at hnl
  simp [this] at hnl
theorem set_get {L : Array Bool} {i : Nat} (hL : L.size = os.length) (hlt : i < os.length) (j : Nat) : (L.setIfInBounds i true).getD j false = if j = i then true else L.getD j false := by
  simp only [Array.getD_eq_getD_getElem?]
  by_cases hj : j = i
  · subst hj; simp [hL, hlt]
  · rw [Array.getElem?_setIfInBounds_ne (fun e => hj e.symm), if_neg hj]
theorem set_count {L : Array Bool} {i fuel : Nat} (hL : L.size = os.length) (hlt : i < os.length) (hnl : L.getD i false = false) (hf : os.length - (L.toList.filter id).length = fuel + 1) :
    os.length - ((L.setIfInBounds i true).toList.filter id).length = fuel := by
  have e : ((L.setIfInBounds i true).toList.filter id).length = (L.toList.filter id).length + 1 := by
    rw [Array.toList_setIfInBounds]
    have hli : i < L.toList.length := by simpa [hL] using hlt
    have hv : L.toList[i] = false := by
      rw [Array.getD_eq_getD_getElem?, Array.getElem?_eq_getElem (by omega)] at hnl
      simpa using hnl
    rw [List.set_eq_take_append_cons_drop, if_pos hli]
    conv => rhs; rw [← List.take_append_drop i L.toList, List.drop_eq_getElem_cons hli, hv]
    simp only [List.filter_append, List.length_append, List.filter_cons, id, if_true, List.length_cons]
    simp
    omega
  rw [e]; omega
/-- What a done set says of one that is ready: it reads what the order of one's own says. -/
theorem look_at {l0 : Sl} {E : En} {us : Pu} {W : List Res} {l : Sl} {L : Array Bool} {a : Act} {w : World} (hI : InvP P c n os l0 E us W l L a w) {i k : Nat} {o : Oper} (_ : os[i]? = some o) (hnl : L.getD i false = false)
    (hanci : ∀ j, Nat.testBit ((mkAnc os []).getD i 0) j = true → L.getD j false = true) (_ : k ≤ E.length)
    (hbef : ∀ (j : Nat) (e : Nat × Kd), E[j]? = some e → j < k → ∀ y : Oper, os[e.1]? = some y → clash os.toArray y o = true → Nat.testBit ((mkAnc os []).getD i 0) e.1 = true)
    (hbeh : ∀ (j : Nat) (e : Nat × Kd), E[j]? = some e → k ≤ j → ∀ y : Oper, os[e.1]? = some y → clash os.toArray o y = true → e.1 = i ∨ Nat.testBit ((mkAnc os []).getD e.1 0) i = true) :
    (∀ t ∈ namesOf os.toArray o, lk (cur us (dn L E) 0 l0) t = lk (cur (us.take k) (fun _ => true) 0 l0) t) ∧
    (∀ t, o.dst = some t → ∀ (j : Nat) (x : Option (Nat × Value)), us[j]? = some x → writes x t → k ≤ j → dn L E j = false) := by
  have hwr : ∀ (j : Nat) (x : Option (Nat × Value)) (t : Nat), us[j]? = some x → writes x t → ∃ (e : Nat × Kd) (y : Oper), E[j]? = some e ∧ os[e.1]? = some y ∧ y.dst = some t := by
    intro j x t hx ⟨v, hv⟩
    have hjl : j < E.length := by
      rcases Nat.lt_or_ge j us.length with h | h
      · have := hI.len; omega
      · rw [List.getElem?_eq_none h] at hx; cases hx
    obtain ⟨o', ho', hd', _⟩ := hI.ents j E[j] x (by simp [hjl]) hx
    exact ⟨E[j], o', by simp [hjl], ho', by rw [hd', hv]; rfl⟩
  have hback : ∀ j e y, E[j]? = some e → k ≤ j → os[e.1]? = some y → clash os.toArray o y = true → dn L E j = false := by
    intro j e y he hkj hy hc
    simp only [dn, he]
    rcases hbeh j e he hkj y hy hc with h | h
    · rw [h]; exact hnl
    · cases hj : L.getD e.1 false
      · rfl
      · have := hI.clo e.1 i hj h; rw [hnl] at this; cases this
  refine ⟨fun t ht => ?_, fun t hdt j x hx hw hkj => ?_⟩
  · refine lk_cur_text us _ 0 l0 t k (fun j x hx hw hji => ?_) (fun j x hx hw hij => ?_)
    · obtain ⟨e, y, he, hy, hyd⟩ := hwr j x t hx hw
      simp only [Nat.zero_add, dn, he]
      refine hanci _ (hbef j e he hji y hy ?_)
      simp only [clash, hyd, Bool.or_eq_true]
      exact .inl (.inr (List.any_eq_true.2 ⟨t, ht, Nat.beq_refl t⟩))
    · obtain ⟨e, y, he, hy, hyd⟩ := hwr j x t hx hw
      simp only [Nat.zero_add]
      refine hback j e y he hij hy ?_
      simp only [clash, hyd, Bool.or_eq_true]
      exact .inr (List.any_eq_true.2 ⟨t, ht, Nat.beq_refl t⟩)
  · obtain ⟨e, y, he, hy, hyd⟩ := hwr j x t hx hw
    refine hback j e y he hkj hy ?_
    simp only [clash, hdt, Bool.or_eq_true]
    refine .inl (.inl ?_)
    simp [inDst, hyd, Nat.beq_refl]
theorem wanted_of {ops : Array Oper} {ltxt : Sl} {a : Act} {o : Oper} {b : Bool} (hg : gSays ops ltxt o = some b)
    (hyield : ∀ j want, o.guard = some (j, want) → ∀ t, (ops[j]?).bind (·.dst) = some t → ∀ v, lk ltxt t = some v → a.tmps[t]? = some v) : Region.wanted o (yielded ops a.tmps) = b := by
  unfold gSays at hg
  unfold Region.wanted
  cases hgd : o.guard with
  | none => simp [hgd] at hg; rw [hg]
  | some jw =>
    obtain ⟨j, want⟩ := jw
    simp only [hgd] at hg ⊢
    cases hj : (ops[j]?).bind (·.dst) with
    | none => rw [hj] at hg; cases hg
    | some t =>
      simp only [hj] at hg
      cases hv : lk ltxt t with
      | none => rw [hv] at hg; cases hg
      | some v =>
        have hav := hyield j want hgd t hj v hv
        rw [hv] at hg
        unfold yielded
        rw [hj]
        cases v <;> simp at hg
        · simp [hav, hg]
        · subst hg; simp [hav]
theorem ord_clash {anc : List Nat} {x y : Nat × Kd} (h : ordOK os anc x y = true) {o p : Oper} (ho : os[x.1]? = some o) (hp : os[y.1]? = some p) (hc : clash os.toArray o p = true) : Nat.testBit (anc.getD y.1 0) x.1 = true := by
  simp only [ordOK, ho, hp, hc, Bool.not_true, Bool.false_or, Bool.and_eq_true] at h
  exact h.1.1
theorem ord_mem {anc : List Nat} {x y : Nat × Kd} (h : ordOK os anc x y = true) (hm : memClash x.2 y.2 = true) : Nat.testBit (anc.getD y.1 0) x.1 = true := by
  simp only [ordOK, hm, Bool.not_true, Bool.false_or, Bool.and_eq_true] at h
  exact h.1.2
theorem ord_ne {anc : List Nat} {x y : Nat × Kd} (h : ordOK os anc x y = true) : x.1 ≠ y.1 := by
  simp only [ordOK, Bool.and_eq_true, Bool.not_eq_true'] at h
  exact ne_beq h.2
theorem noG_wp {o : Oper} {a : Act} {w : World} {K : Act → World → Prop} {Q : Exit → Act → World → Prop} (h : (noG o).wp P a w K Q) : o.wp P a w K Q := h
theorem single_mono {ops : Array Oper} {Q Q' : Exit → Act → World → Prop} {o : Oper} {a : Act} {w : World} (h : wpList P ops Q [o] a w) (hg : o.guard = none) (hQ : ∀ e a w, Q e a w → e = .normal)
    (hm : ∀ a w, Q .normal a w → Q' .normal a w) : wpList P ops Q' [o] a w := by
  rcases wpList_single h hg with h1 | ⟨_, a0, w0, hq⟩
  · simp only [wpList]
    rw [if_pos (by simp [Region.wanted, hg])]
    left
    exact oper_wp_change h1 hm hQ
  · exact absurd (hQ _ _ _ hq) (by simp)
/-- The frame behind one operation more. -/
theorem after_op {lr : Sl} {u : Option (Nat × Value)} {base : Sl} {a a' : Act} (hA : SatA n base a) (hlr : ∀ t v, lk lr t = some v → a.tmps[t]? = some v) (hsa : SatA n (u.toList ++ (lr ++ allSl a n)) a') :
    ∀ t v, lk (u.toList ++ base) t = some v → a'.tmps[t]? = some v := by
  intro t v ht
  refine hsa.at_ t v ?_
  rw [lk_append] at ht ⊢
  cases hut : lk u.toList t with
  | some v' => rw [hut] at ht; exact ht
  | none =>
    rw [hut] at ht
    simp only at ht ⊢
    have hat' := hA.at_ t v ht
    rw [lk_append]
    cases hr : lk lr t with
    | some v' =>
      have := hlr t v' hr
      rw [this] at hat'; exact hat'
    | none =>
      have htn : t < n := by
        rcases Nat.lt_or_ge t n with h | h
        · exact h
        · rw [Array.getElem?_eq_none (by rw [hA.sz]; exact h)] at hat'; cases hat'
      exact allSl_get a n t v htn hat'
theorem clo_set {L : Array Bool} {i : Nat} (hL : L.size = os.length) (hlt : i < os.length) (hclo : ∀ i j, L.getD i false = true → Nat.testBit ((mkAnc os []).getD i 0) j = true → L.getD j false = true)
    (hanci : ∀ j, Nat.testBit ((mkAnc os []).getD i 0) j = true → L.getD j false = true) :
    ∀ p q, (L.setIfInBounds i true).getD p false = true → Nat.testBit ((mkAnc os []).getD p 0) q = true → (L.setIfInBounds i true).getD q false = true := by
  intro p q hp hq
  rw [set_get hL hlt] at hp ⊢
  by_cases hqi : q = i
  · simp [hqi]
  · rw [if_neg hqi]
    by_cases hpi : p = i
    · subst hpi; exact hanci q hq
    · rw [if_neg hpi] at hp; exact hclo p q hp hq
theorem anc_done {L : Array Bool} {i : Nat} {o : Oper} (hanc : ancOK os 0 (mkAnc os []) = true) (ho : os[i]? = some o) (hclo : ∀ i j, L.getD i false = true → Nat.testBit ((mkAnc os []).getD i 0) j = true → L.getD j false = true)
    (hdeps : ∀ d ∈ depsOf o, L.getD d false = true) : ∀ j, Nat.testBit ((mkAnc os []).getD i 0) j = true → L.getD j false = true := by
  intro j hj
  have hspec := ancOK_spec hanc ho
  simp only [Nat.zero_add] at hspec
  obtain ⟨d, hd, he⟩ := hspec.2 j hj
  rcases he with rfl | he
  · exact hdeps d hd
  · exact hclo d j (hdeps d hd) he
theorem perform {l0 : Sl} {E : En} {us : Pu} {W : List Res} {l : Sl} {L : Array Bool} {a : Act} {w : World} (hI : InvP P c n os l0 E us W l L a w) (hanc : ancOK os 0 (mkAnc os []) = true) (hpairs : allPairs (ordOK os (mkAnc os [])) E = true)
    {k : Nat} {e : Nat × Kd} (he : E[k]? = some e) {o : Oper} (ho : os[e.1]? = some o) (hnl : L.getD e.1 false = false) (hdeps : ∀ d ∈ depsOf o, L.getD d false = true) {K' : Act → World → Prop}
    (hcont : ∀ a' w', InvP P c n os l0 E us W l (L.setIfInBounds e.1 true) a' w' → K' a' w') : wpOp P os.toArray Q e.1 K' a w := by
  have hlt : e.1 < os.length := by
    rcases Nat.lt_or_ge e.1 os.length with h | h
    · exact h
    · rw [List.getElem?_eq_none h] at ho; cases ho
  have hkl : k < E.length := by
    rcases Nat.lt_or_ge k E.length with h | h
    · exact h
    · rw [List.getElem?_eq_none h] at he; cases he
  have hanci := anc_done hanc ho hI.clo hdeps
  obtain ⟨u, hu⟩ : ∃ u, us[k]? = some u := ⟨us[k]'(by have := hI.len; omega), by have := hI.len; simp [show k < us.length by omega]⟩
  obtain ⟨o', ho', hdst, hinn, hsay⟩ := hI.ents k e u he hu
  rw [ho] at ho'; cases ho'
  have hlook := look_at hI ho hnl hanci (Nat.le_of_lt hkl)
    (fun j e' he' hjk y hy hc => ord_clash (allPairs_spec hpairs hjk he' he) hy ho hc)
    (fun j e' he' hkj y hy hc => by
      rcases Nat.eq_or_lt_of_le hkj with rfl | hlt'
      · rw [he] at he'; cases he'; exact .inl rfl
      · exact .inr (ord_clash (allPairs_spec hpairs hlt' he he') ho hy hc))
  have hfr : ∀ a', (∀ t v, lk (u.toList ++ cur us (dn L E) 0 l0) t = some v → a'.tmps[t]? = some v) → a'.defers = [] → a'.tmps.size = n → SatA n (cur us (dn (L.setIfInBounds e.1 true) E) 0 l0) a' := by
    intro a' h1 h2 h3
    refine ⟨h2, h3, fun t v ht => h1 t v ?_⟩
    have hs := lk_cur_set us (dn L E) (dn (L.setIfInBounds e.1 true) E) 0 l0 t k u hu (by simp [dn, he, set_get hI.size hlt]) (by simp [dn, he, hnl])
      (fun j hj => by
        simp only [Nat.zero_add, dn]
        cases hj' : E[j]? with
        | none => rfl
        | some e' =>
          have hne : e'.1 ≠ e.1 := by
            rcases Nat.lt_or_gt_of_ne hj with h | h
            · exact ord_ne (allPairs_spec hpairs h hj' he)
            · exact fun q => ord_ne (allPairs_spec hpairs h he hj') q.symm
          simp only [set_get hI.size hlt, if_neg hne])
    by_cases hw : writes u t
    · obtain ⟨v', hv'⟩ := hw
      have hod : o.dst = some t := by rw [hdst, hv']; rfl
      have := hs.2 v' hv' (fun j x hx hw hij => by
        simp only [Nat.zero_add]
        exact hlook.2 t hod j x hx hw (Nat.le_of_lt hij))
      rw [this] at ht; cases ht
      rw [hv']; simp [lk]
    · rw [hs.1 hw] at ht
      rw [lk_put hw]; exact ht
  have hinv : ∀ a' w', SatA n (cur us (dn (L.setIfInBounds e.1 true) E) 0 l0) a' → SatW c W w' → InvP P c n os l0 E us W l (L.setIfInBounds e.1 true) a' w' := by
    intro a' w' h1 h2
    refine ⟨by simp [hI.size], clo_set hI.size hlt hI.clo hanci, fun j hj => ?_, hI.len, h1, h2, hI.txt, fun k' e' u' he' hu' => ?_⟩
    · rw [set_get hI.size hlt] at hj
      by_cases hji : j = e.1
      · exact ⟨k, e, he, hji.symm⟩
      · rw [if_neg hji] at hj; exact hI.sub j hj
    · obtain ⟨o2, h1, h2, h3, h4⟩ := hI.ents k' e' u' he' hu'
      refine ⟨o2, h1, h2, h3, ?_⟩
      rcases h4 with h4 | h4 | h4
      · left; rw [set_get hI.size hlt]; split
        · rfl
        · exact h4
      · exact .inr (.inl h4)
      · exact .inr (.inr h4)
  have hyield : ∀ j want, o.guard = some (j, want) → ∀ t, (os.toArray[j]?).bind (·.dst) = some t → ∀ v, lk (cur (us.take k) (fun _ => true) 0 l0) t = some v → a.tmps[t]? = some v := by
    intro j want hg t ht v hv
    have htn : t ∈ namesOf os.toArray o := by
      simp only [namesOf, List.mem_append, guTmp, hg]
      left; rw [ht]; simp
    exact hI.fr.at_ t v (by rw [hlook.1 t htn]; exact hv)
  unfold wpOp
  rw [show os.toArray[e.1]? = some o by simpa using ho]
  rcases hsay with hd | ⟨hg, hne, A, Wk, hWA, _, hV⟩ | ⟨hg, d, hud⟩
  · rw [hnl] at hd; cases hd
  · have hwant := wanted_of hg hyield
    simp only [hwant, if_true]
    left
    have hpinW : SatW c Wk w := drop_all (A := A) (hWA ▸ hI.wd)
    have hlr : ∀ t v, lk (restr os.toArray o (cur (us.take k) (fun _ => true) 0 l0)) t = some v → a.tmps[t]? = some v := fun t v ht => by
      obtain ⟨h1, h2⟩ := lk_restrL ht
      exact hI.fr.at_ t v (by rw [hlook.1 t h2]; exact h1)
    have hstep := hV w (allSl a n) hpinW a w ⟨hI.fr.dfr, hI.fr.sz, fun t v ht => by
      rw [lk_append] at ht
      cases hr : lk (restr os.toArray o (cur (us.take k) (fun _ => true) 0 l0)) t with
      | some v' => rw [hr] at ht; cases ht; exact hlr t v hr
      | none => rw [hr] at ht; exact allSl_lk a n t v ht⟩ ⟨Ext.refl _ _, hpinW.holds, fun b hb => .inr hb, hpinW.nd⟩
    rcases wpList_single hstep rfl with hstep | ⟨_, a0, w0, hq, _⟩
    case inr => cases hq
    refine oper_wp_change (noG_wp hstep) (fun a' w' hp => hcont a' w' (hinv a' w' ?_ ?_)) (fun e _ _ hp => hp.1)
    · obtain ⟨_, hsa, _⟩ := hp
      exact hfr a' (after_op hI.fr hlr hsa) hsa.dfr hsa.sz
    · obtain ⟨_, _, hsw⟩ := hp
      rw [hWA]
      exact frame_all (hWA ▸ hI.wd) hsw
  · have hnw := wanted_of hg hyield
    simp only [hnw, Bool.false_eq_true, if_false]
    have hod : o.dst = some d := by rw [hdst, hud]; rfl
    have hput := hI.fr.put (v := undef) (hinn d hod)
    rw [hod]
    exact hcont _ _ (hinv _ _ (hfr _ (fun t v ht => hput.at_ t v (by rw [hud] at ht; exact ht)) hput.dfr hput.sz) hI.wd)
theorem get_snoc {α : Type} {E : List α} {x e : α} {k : Nat} (h : (E ++ [x])[k]? = some e) : (k < E.length ∧ E[k]? = some e) ∨ (k = E.length ∧ e = x) := by
  rcases Nat.lt_or_ge k E.length with hk | hk
  · rw [List.getElem?_append_left hk] at h; exact .inl ⟨hk, h⟩
  · rw [List.getElem?_append_right hk] at h
    have : k - E.length = 0 := by
      rcases Nat.eq_zero_or_pos (k - E.length) with h0 | h0
      · exact h0
      · rw [List.getElem?_eq_none (by simp; omega)] at h; cases h
    rw [this] at h; simp at h
    exact .inr ⟨by omega, h.symm⟩
theorem new_not {E : En} {i : Nat} (h : newP i E = true) : ∀ (k : Nat) (e : Nat × Kd), E[k]? = some e → e.1 ≠ i := by
  intro k e he hei
  simp only [newP, Bool.not_eq_true', List.any_eq_false] at h
  exact h e (List.mem_of_getElem? he) (by rw [hei]; exact Nat.beq_refl i)
theorem any_order {l0 : Sl} {E : En} {W : List Res} {l : Sl} {rest : List Nat} (h : QF P c n os (Q .normal) E W l rest) : ∀ (fuel : Nat) (us : Pu) (L : Array Bool) (a : Act) (w : World),
    (os.length - (L.toList.filter id).length = fuel) → InvP P c n os l0 E us W l L a w → wpAny P .any os.toArray Q fuel L a w := by
  induction h with
  | fin hc hf hk =>
    rename_i E W l
    simp only [chkP, Bool.and_eq_true] at hc
    obtain ⟨hanc, hpairs⟩ := hc
    have hfin : ∀ (us : Pu) (L : Array Bool) (a : Act) (w : World), InvP P c n os l0 E us W l L a w → Region.ready .any os.toArray L = [] → Q .normal a w := by
      intro us L a w hI hr
      have hd := ready_nil hanc hI.size hr
      refine hk a w ?_ hI.wd
      have e := cur_congr us (dn L E) (fun _ => true) 0 l0 (fun j hj => by
        have hjl : j < E.length := by have := hI.len; omega
        obtain ⟨o, ho, _⟩ := hI.ents j E[j] (us[j]) (by simp [hjl]) (by simp [hj])
        have hlt : (E[j]).1 < os.length := by
          rcases Nat.lt_or_ge (E[j]).1 os.length with h | h
          · exact h
          · rw [List.getElem?_eq_none h] at ho; cases ho
        simp only [Nat.zero_add, dn, List.getElem?_eq_getElem hjl]
        exact hd _ hlt)
      have hA := hI.fr
      rw [e, ← hI.txt] at hA
      exact hA
    intro fuel
    induction fuel with
    | zero => intro us L a w hf hI; exact ⟨ready_full hI.size hf, hfin us L a w hI (ready_full hI.size hf)⟩
    | succ fuel ih =>
      intro us L a w hfu hI
      refine ⟨hfin us L a w hI, fun i hi => ?_⟩
      obtain ⟨o, ho, hnl, hlt, hdeps⟩ := ready_spec hI.size hi
      simp only [fullP, List.all_eq_true, List.mem_range] at hf
      obtain ⟨e, hem, hei⟩ := List.any_eq_true.1 (hf i hlt)
      obtain ⟨k, hk'⟩ := List.getElem?_of_mem hem
      have hei := Nat.eq_of_beq_eq_true hei
      subst hei
      exact perform hI hanc hpairs hk' ho hnl hdeps (fun a' w' hI' => ih us _ a' w' (set_count hI.size hlt hnl hfu) hI')
  | val kd hk hi ho hd hn hg h hr ih =>
    rename_i E W l i d o v rest
    intro fuel us L a w hfu hI
    have hnew := new_not hi
    have hnd : L.getD i false = false := by
      cases hx : L.getD i false
      · rfl
      · obtain ⟨k, e, he, hei⟩ := hI.sub i hx; exact absurd hei (hnew k e he)
    refine ih fuel (us ++ [some (d, v)]) L a w hfu ⟨hI.size, hI.clo, fun j hj => ?_, by simp [hI.len], ?_, hI.wd, ?_, fun k e u he hu => ?_⟩
    · obtain ⟨k, e, he, hej⟩ := hI.sub j hj
      exact ⟨k, e, by rw [List.getElem?_append_left]; exact he; exact (List.getElem?_eq_some_iff.1 he).1, hej⟩
    · rw [cur_append]
      have e1 : cur us (dn L (E ++ [(i, kd)])) 0 l0 = cur us (dn L E) 0 l0 := cur_congr _ _ _ _ _ (fun j hj => by
        simp only [Nat.zero_add, dn]; rw [List.getElem?_append_left (by have := hI.len; omega)])
      have e2 : dn L (E ++ [(i, kd)]) (0 + us.length) = false := by
        simp only [Nat.zero_add, dn, hI.len, List.getElem?_concat_length]; exact hnd
      simp only [cur, e2, Bool.false_eq_true, if_false, e1]; exact hI.fr
    · rw [cur_append, ← hI.txt]; simp [cur]
    · rcases get_snoc he with ⟨hkl, he'⟩ | ⟨rfl, rfl⟩
      · have hu' : us[k]? = some u := by rwa [List.getElem?_append_left (by have := hI.len; omega)] at hu
        have := hI.ents k e u he' hu'
        rw [List.take_append_of_le_length (by have := hI.len; omega)]
        exact this
      · have hu' : u = some (d, v) := by rw [← hI.len, List.getElem?_concat_length] at hu; exact (Option.some.inj hu).symm
        subst hu'
        refine ⟨o, ho, by simpa using hd, fun d' hd' => by rw [hd] at hd'; cases hd'; exact hn, .inr (.inl ?_)⟩
        rw [List.take_append_of_le_length (by have := hI.len; omega), ← hI.len, List.take_length, ← hI.txt]
        refine ⟨hg, hk, ?_⟩
        cases kd with
        | free => exact ⟨W, [], by simp, fun _ => rfl, h⟩
        | pin => exact ⟨[], W, rfl, fun hx => (by cases hx), h⟩
        | eff => simp [Kd.isEff] at hk
        | alc => simp [Kd.isEff] at hk
  | no hi ho hd hn hg hr ih =>
    rename_i E W l i d o rest
    intro fuel us L a w hfu hI
    have hnew := new_not hi
    have hnd : L.getD i false = false := by
      cases hx : L.getD i false
      · rfl
      · obtain ⟨k, e, he, hei⟩ := hI.sub i hx; exact absurd hei (hnew k e he)
    refine ih fuel (us ++ [some (d, undef)]) L a w hfu ⟨hI.size, hI.clo, fun j hj => ?_, by simp [hI.len], ?_, hI.wd, ?_, fun k e u he hu => ?_⟩
    · obtain ⟨k, e, he, hej⟩ := hI.sub j hj
      exact ⟨k, e, by rw [List.getElem?_append_left]; exact he; exact (List.getElem?_eq_some_iff.1 he).1, hej⟩
    · rw [cur_append]
      have e1 : cur us (dn L (E ++ [(i, .free)])) 0 l0 = cur us (dn L E) 0 l0 := cur_congr _ _ _ _ _ (fun j hj => by
        simp only [Nat.zero_add, dn]; rw [List.getElem?_append_left (by have := hI.len; omega)])
      have e2 : dn L (E ++ [(i, .free)]) (0 + us.length) = false := by
        simp only [Nat.zero_add, dn, hI.len, List.getElem?_concat_length]; exact hnd
      simp only [cur, e2, Bool.false_eq_true, if_false, e1]; exact hI.fr
    · rw [cur_append, ← hI.txt]; simp [cur]
    · rcases get_snoc he with ⟨hkl, he'⟩ | ⟨rfl, rfl⟩
      · have hu' : us[k]? = some u := by rwa [List.getElem?_append_left (by have := hI.len; omega)] at hu
        have := hI.ents k e u he' hu'
        rw [List.take_append_of_le_length (by have := hI.len; omega)]
        exact this
      · have hu' : u = some (d, undef) := by rw [← hI.len, List.getElem?_concat_length] at hu; exact (Option.some.inj hu).symm
        subst hu'
        refine ⟨o, ho, by simpa using hd, fun d' hd' => by rw [hd] at hd'; cases hd'; exact hn, .inr (.inr ?_)⟩
        rw [List.take_append_of_le_length (by have := hI.len; omega), ← hI.len, List.take_length, ← hI.txt]
        exact ⟨hg, d, rfl⟩
  | nd hne hi ho hc hdesc hΦ hg h hr ih =>
    rename_i E W l is rest of Φf kf nx
    obtain ⟨i0, hi0⟩ : ∃ i, i ∈ is := List.exists_mem_of_ne_nil _ hne
    have hanc : ancOK os 0 (mkAnc os []) = true := by
      have := hc i0 hi0
      simp only [chkP, Bool.and_eq_true] at this
      exact this.1
    have hpairs : allPairs (ordOK os (mkAnc os [])) E = true := by
      have h0 := hc i0 hi0
      simp only [chkP, Bool.and_eq_true] at h0
      have : ∀ {X Y : En}, allPairs (ordOK os (mkAnc os [])) (X ++ Y) = true → allPairs (ordOK os (mkAnc os [])) X = true := by
        intro X
        induction X with
        | nil => intro Y _; rfl
        | cons x r ihx =>
          intro Y hxy
          simp only [List.cons_append, allPairs, Bool.and_eq_true, List.all_append] at hxy ⊢
          exact ⟨hxy.1.1, ihx hxy.2⟩
      exact this h0.2
    have hnew := fun i hi' => new_not (hi i hi')
    intro fuel
    induction fuel with
    | zero =>
      intro us L a w hfu hI
      have hr0 := ready_full hI.size hfu
      have hd := ready_nil hanc hI.size hr0
      have hlt : i0 < os.length := (List.getElem?_eq_some_iff.1 (ho i0 hi0)).1
      obtain ⟨k, e, he, hei⟩ := hI.sub i0 (hd i0 hlt)
      exact absurd hei (hnew i0 hi0 k e he)
    | succ fuel ihf =>
      intro us L a w hfu hI
      have hnds : ∀ i ∈ is, L.getD i false = false := by
        intro i hi'
        cases hx : L.getD i false
        · rfl
        · obtain ⟨k, e, he, hei⟩ := hI.sub i hx; exact absurd hei (hnew i hi' k e he)
      refine ⟨fun hr0 => ?_, fun j hj => ?_⟩
      · have hd := ready_nil hanc hI.size hr0
        have h1 := hnds i0 hi0
        rw [hd i0 (List.getElem?_eq_some_iff.1 (ho i0 hi0)).1] at h1; cases h1
      obtain ⟨p, hp, hnl, hlt, hdeps⟩ := ready_spec hI.size hj
      have hanci := anc_done hanc hp hI.clo hdeps
      simp only [descP, Bool.and_eq_true, List.all_eq_true, List.mem_range, Bool.or_eq_true] at hdesc
      have hcase : j ∈ is ∨ ∃ (k : Nat) (e : Nat × Kd), E[k]? = some e ∧ e.1 = j := by
        rcases hdesc.2 j hlt with (h1 | h1) | h1
        · obtain ⟨x, hx, hxj⟩ := List.any_eq_true.1 h1
          have hxj := Nat.eq_of_beq_eq_true hxj
          subst hxj
          exact .inl hx
        · obtain ⟨x, hx, hxj⟩ := List.any_eq_true.1 h1
          have hxj := Nat.eq_of_beq_eq_true hxj
          subst hxj
          obtain ⟨i, hi', hb⟩ := List.any_eq_true.1 (hdesc.1 j hx)
          have hb := hanci i hb
          rw [hnds i hi'] at hb; cases hb
        · obtain ⟨e, hem, hej⟩ := List.any_eq_true.1 h1
          obtain ⟨k, hk'⟩ := List.getElem?_of_mem hem
          exact .inr ⟨k, e, hk', Nat.eq_of_beq_eq_true hej⟩
      rcases hcase with hji | ⟨k, e, hk', rfl⟩
      case inr => exact perform hI hanc hpairs hk' hp hnl hdeps (fun a' w' hI' => ihf us _ a' w' (set_count hI.size hlt hnl hfu) hI')
      -- the one that makes something new
      have hpairsX := hc j hji
      simp only [chkP, Bool.and_eq_true] at hpairsX
      have hpairsX := hpairsX.2
      have hnew := hnew j hji
      have ho := ho j hji
      have hΦ := hΦ j hji
      have hg := hg j hji
      have h := h j hji
      have ih := ih j hji
      rw [ho] at hp; cases hp
      generalize kf j = κ at *
      generalize Φf j = Φj at *
      generalize of j = o at *
      have hget : ∀ {k e}, E[k]? = some e → (E ++ [(j, κ)])[k]? = some e := fun {k e} he => by
        rw [List.getElem?_append_left]; exact he; exact (List.getElem?_eq_some_iff.1 he).1
      have hlast : (E ++ [(j, κ)])[E.length]? = some (j, κ) := by simp
      have hlook := look_at hI ho hnl hanci (Nat.le_refl _)
        (fun j' e' he' hjk y hy hc => ord_clash (allPairs_spec hpairsX hjk (hget he') hlast) hy ho hc)
        (fun j' e' he' hkj => by rw [List.getElem?_eq_none hkj] at he'; cases he')
      have htk : us.take E.length = us := by rw [← hI.len, List.take_length]
      rw [htk, ← hI.txt] at hlook
      have hyield : ∀ j' want, o.guard = some (j', want) → ∀ t, (os.toArray[j']?).bind (·.dst) = some t → ∀ v, lk l t = some v → a.tmps[t]? = some v := by
        intro j' want hg t ht v hv
        have htn : t ∈ namesOf os.toArray o := by
          simp only [namesOf, List.mem_append, guTmp, hg]
          left; rw [ht]; simp
        exact hI.fr.at_ t v (by rw [hlook.1 t htn]; exact hv)
      have hlr : ∀ t v, lk (restr os.toArray o l) t = some v → a.tmps[t]? = some v := fun t v ht => by
        obtain ⟨h1, h2⟩ := lk_restrL ht
        exact hI.fr.at_ t v (by rw [hlook.1 t h2]; exact h1)
      unfold wpOp
      rw [show os.toArray[j]? = some o by simpa using ho]
      have hwant := wanted_of hg hyield
      simp only [hwant, if_true]
      left
      have hstep := h w (allSl a n) hI.wd a w ⟨hI.fr.dfr, hI.fr.sz, fun t v ht => by
        rw [lk_append] at ht
        cases hr' : lk (restr os.toArray o l) t with
        | some v' => rw [hr'] at ht; cases ht; exact hlr t v hr'
        | none => rw [hr'] at ht; exact allSl_lk a n t v ht⟩ ⟨Ext.refl _ _, hI.wd.holds, fun b hb => .inr hb, hI.wd.nd⟩
      rcases wpList_single hstep rfl with hstep | ⟨_, a0, w0, hq, _⟩
      case inr => cases hq
      refine oper_wp_change (noG_wp hstep) (fun a' w' hp => ?_) (fun e _ _ hp => hp.1)
      obtain ⟨_, u, W', hu, hsa, hsw⟩ := hp
      have hL' := set_get hI.size hlt
      obtain ⟨hdst, hinn, hkind⟩ := hΦ u W' hu
      refine ih u W' hu fuel (us ++ [u]) _ a' w' (set_count hI.size hlt hnl hfu) ⟨by simp [hI.size], clo_set hI.size hlt hI.clo hanci, fun q hq => ?_, by simp [hI.len], ?_, satW_shift hI.wd hsw, ?_, fun k e u' he hu' => ?_⟩
      · rw [hL'] at hq
        by_cases hqj : q = j
        · exact ⟨E.length, (j, κ), hlast, hqj.symm⟩
        · rw [if_neg hqj] at hq
          obtain ⟨k, e, he, hej⟩ := hI.sub q hq
          exact ⟨k, e, hget he, hej⟩
      · rw [cur_append]
        have e1 : cur us (dn (L.setIfInBounds j true) (E ++ [(j, κ)])) 0 l0 = cur us (dn L E) 0 l0 := cur_congr _ _ _ _ _ (fun q hq => by
          have hql : q < E.length := by have := hI.len; omega
          simp only [Nat.zero_add, dn]; rw [List.getElem?_append_left hql, List.getElem?_eq_getElem hql]
          simp only [hL', if_neg (hnew q E[q] (by simp [hql]))])
        have e2 : dn (L.setIfInBounds j true) (E ++ [(j, κ)]) (0 + us.length) = true := by
          simp only [Nat.zero_add, dn, hI.len, List.getElem?_concat_length, hL', if_true]
        simp only [cur, e2, if_true, e1]
        exact ⟨hsa.dfr, hsa.sz, after_op hI.fr hlr hsa⟩
      · rw [cur_append, ← hI.txt]; simp [cur]
      · rcases get_snoc he with ⟨hkl, he'⟩ | ⟨rfl, rfl⟩
        · have hu2 : us[k]? = some u' := by rwa [List.getElem?_append_left (by have := hI.len; omega)] at hu'
          obtain ⟨o2, h1, h2, h3, h4⟩ := hI.ents k e u' he' hu2
          rw [List.take_append_of_le_length (by have := hI.len; omega)]
          refine ⟨o2, h1, h2, h3, ?_⟩
          have hdone : L.getD e.1 false = true → (L.setIfInBounds j true).getD e.1 false = true := fun hx => by rw [hL']; split; rfl; exact hx
          rcases h4 with h4 | ⟨g1, g2, A, Wk, g3, g4, g5⟩ | h4
          · exact .inl (hdone h4)
          · rcases hkind with rfl | ⟨rfl, B, hB⟩
            · cases hkd : e.2 with
              | free =>
                have := g4 hkd
                subst this
                exact .inr (.inl ⟨g1, rfl, W', [], by simp, fun _ => rfl, g5⟩)
              | pin =>
                refine .inl (hdone (hanci _ ?_))
                exact ord_mem (allPairs_spec hpairsX hkl (hget he') hlast) (by rw [hkd]; rfl)
              | eff => rw [hkd] at g2; simp [Kd.isEff] at g2
              | alc => rw [hkd] at g2; simp [Kd.isEff] at g2
            · exact .inr (.inl ⟨g1, g2, B ++ A, Wk, by rw [hB, g3, List.append_assoc], g4, g5⟩)
          · exact .inr (.inr h4)
        · have hu2 : u' = u := by rw [← hI.len, List.getElem?_concat_length] at hu'; exact (Option.some.inj hu').symm
          subst hu2
          refine ⟨o, ho, hdst, hinn, .inl ?_⟩
          rw [hL', if_pos rfl]
theorem st_perm {rid : Nat} {W : List Res} {l : Sl} (π : List Nat) (hm : P.follows .mixedOrders = true) (h : QF P c n os (Q .normal) [] W l π) : Go c n l W ((Code.region rid os.toArray true).wp P Q) := by
  refine st_anyB hm fun a w ha hw => any_order (l0 := l) h _ [] _ a w ?_ ⟨by simp, ?_, ?_, rfl, ha, hw, rfl, ?_⟩
  · simp
  · intro i j hi; simp [Array.getD_eq_getD_getElem?, Array.getElem?_replicate] at hi; split at hi <;> simp at hi
  · intro i hi; simp [Array.getD_eq_getD_getElem?, Array.getElem?_replicate] at hi; split at hi <;> simp at hi
  · intro k e u he; simp at he
variable {K : Act → World → Prop} {E : En} {W : List Res} {l : Sl} {i d : Nat} {o : Oper} {rest : List Nat}
theorem Zpf {v : Value} (ho : os[i]? = some o) (h : OpV P c n [] [] (restr os.toArray o l) (noG o) (some (d, v))) (hr : QF P c n os K (E ++ [(i, .free)]) W ((d, v) :: l) rest)
    (hi : newP i E = true := by rfl) (hd : o.dst = some d := by rfl) (hn : Nat.blt d n = true := by rfl) (hg : gSays os.toArray l o = some true := by rfl) : QF P c n os K E W l (i :: rest) :=
  QF.val .free rfl hi ho hd hn hg h hr
theorem Zpp {v : Value} (ho : os[i]? = some o) (h : OpV P c n W W (restr os.toArray o l) (noG o) (some (d, v))) (hr : QF P c n os K (E ++ [(i, .pin)]) W ((d, v) :: l) rest)
    (hi : newP i E = true := by rfl) (hd : o.dst = some d := by rfl) (hn : Nat.blt d n = true := by rfl) (hg : gSays os.toArray l o = some true := by rfl) : QF P c n os K E W l (i :: rest) :=
  QF.val .pin rfl hi ho hd hn hg h hr
theorem Zpo (ho : os[i]? = some o) (hr : QF P c n os K (E ++ [(i, .free)]) W ((d, undef) :: l) rest)
    (hi : newP i E = true := by rfl) (hd : o.dst = some d := by rfl) (hn : Nat.blt d n = true := by rfl) (hg : gSays os.toArray l o = some false := by rfl) : QF P c n os K E W l (i :: rest) :=
  QF.no hi ho hd hn hg hr
theorem nd1 {Φ : Option (Nat × Value) → List Res → Prop} (kd : Kd) (ho : os[i]? = some o) (hi : newP i E = true) (hc : chkP os (E ++ [(i, kd)]) = true) (hdesc : descP os [i] rest E = true)
    (hΦ : ∀ u W', Φ u W' → o.dst = u.map (·.1) ∧ (∀ d, o.dst = some d → Nat.blt d n = true) ∧ (kd = .eff ∨ (kd = .alc ∧ ∃ B, W' = B ++ W)))
    (hg : gSays os.toArray l o = some true) (h : OpN P c n W Φ (restr os.toArray o l) (noG o))
    (hr : ∀ u W', Φ u W' → QF P c n os K (E ++ [(i, kd)]) W' (u.toList ++ l) rest) : QF P c n os K E W l (i :: rest) := by
  refine QF.nd (is := [i]) (nx := fun _ => rest) (o := fun _ => o) (Φ := fun _ => Φ) (kd := fun _ => kd) (by simp) ?_ ?_ ?_ hdesc ?_ ?_ ?_ ?_ <;> intro j hj <;> (have hj := List.mem_singleton.1 hj; subst hj)
  · exact hi
  · exact ho
  · exact hc
  · exact hΦ
  · exact hg
  · exact h
  · exact hr
/-- New memory, whose place is open. -/
def OpF (P : Program) (c : Cx) (n : Nat) (W : List Res) (F : Value → List Res) (d : Nat) (lr : Sl) (o : Oper) : Prop :=
  ∀ w0 m, SatW c W w0 → Go ⟨w0, fps W⟩ n (lr ++ m) W (wpList P #[] (fun e a w => e = .normal ∧ ∃ v, SatA n ((d, v) :: (lr ++ m)) a ∧ SatW ⟨w0, fps W⟩ (F v) w) [o])
theorem Zpn {F : Value → List Res} (ho : os[i]? = some o) (h : OpF P c n W F d (restr os.toArray o l) (noG o)) (hr : ∀ v, QF P c n os K (E ++ [(i, .eff)]) (F v) ((d, v) :: l) rest)
    (hi : newP i E = true := by rfl) (hd : o.dst = some d := by rfl) (hn : Nat.blt d n = true := by rfl) (hg : gSays os.toArray l o = some true := by rfl)
    (hc : chkP os (E ++ [(i, .eff)]) = true := by rfl) (hdesc : descP os [i] rest E = true := by rfl) : QF P c n os K E W l (i :: rest) :=
  nd1 .eff (Φ := fun u W' => ∃ v, u = some (d, v) ∧ W' = F v) ho hi hc hdesc (fun u W' ⟨v, hu, _⟩ => by subst hu; exact ⟨hd, fun d' hd' => by rw [hd] at hd'; cases hd'; exact hn, .inl rfl⟩) hg
    (fun w0 m hw a w ha hw' => single_mono (h w0 m hw a w ha hw') rfl (fun _ _ _ h => h.1) fun a w ⟨h1, v, h2, h3⟩ => ⟨h1, some (d, v), F v, ⟨v, rfl, rfl⟩, h2, h3⟩)
    (fun u W' ⟨v, hu, hW⟩ => by subst hu; subst hW; exact hr v)
theorem Zpx {F : Value → List Res} {L : Sl} {v : Value} {W' : List Res} (hF : F v = W' := by rfl) :
    Go c n ((d, v) :: L) W' (wpList P #[] (fun e a w => e = .normal ∧ ∃ v, SatA n ((d, v) :: L) a ∧ SatW c (F v) w) []) :=
  fun _ _ ha hw => wpList_nil ⟨rfl, v, ha, by rw [hF]; exact hw⟩
/-- A call that makes a slice and asks for no memory. -/
def OpC (P : Program) (c : Cx) (n : Nat) (W : List Res) (F : Value → List Res) (d : Nat) (lr : Sl) (o : Oper) : Prop :=
  ∀ w0 m, SatW c W w0 → Go ⟨w0, fps W⟩ n (lr ++ m) W (wpList P #[] (fun e a w => e = .normal ∧ ∃ v, SatA n ((d, v) :: (lr ++ m)) a ∧ SatW ⟨w0, fps W⟩ (F v ++ W) w) [o])
theorem Zpc {F : Value → List Res} (ho : os[i]? = some o) (h : OpC P c n W F d (restr os.toArray o l) (noG o)) (hr : ∀ v, QF P c n os K (E ++ [(i, .alc)]) (F v ++ W) ((d, v) :: l) rest)
    (hi : newP i E = true := by rfl) (hd : o.dst = some d := by rfl) (hn : Nat.blt d n = true := by rfl) (hg : gSays os.toArray l o = some true := by rfl)
    (hc : chkP os (E ++ [(i, .alc)]) = true := by rfl) (hdesc : descP os [i] rest E = true := by rfl) : QF P c n os K E W l (i :: rest) :=
  nd1 .alc (Φ := fun u W' => ∃ v, u = some (d, v) ∧ W' = F v ++ W) ho hi hc hdesc (fun u W' ⟨v, hu, hW⟩ => by subst hu; exact ⟨hd, fun d' hd' => by rw [hd] at hd'; cases hd'; exact hn, .inr ⟨rfl, F v, hW⟩⟩) hg
    (fun w0 m hw a w ha hw' => single_mono (h w0 m hw a w ha hw') rfl (fun _ _ _ h => h.1) fun a w ⟨h1, v, h2, h3⟩ => ⟨h1, some (d, v), F v ++ W, ⟨v, rfl, rfl⟩, h2, h3⟩)
    (fun u W' ⟨v, hu, hW⟩ => by subst hu; subst hW; exact hr v)
theorem Zpcx {v : Value} {xs : List Value} {T : TypeId} {L : Sl} :
    Go c n ((d, v) :: L) (.sl v xs T :: W) (wpList P #[] (fun e a w => e = .normal ∧ ∃ v, SatA n ((d, v) :: L) a ∧ SatW c ((fun v => [.sl v xs T]) v ++ W) w) []) :=
  fun _ _ ha hw => wpList_nil ⟨rfl, v, ha, hw⟩
theorem two {p : Nat → Prop} {i j : Nat} (h1 : p i) (h2 : p j) : ∀ k ∈ [i, j], p k := by
  intro k hk
  rcases List.mem_cons.1 hk with rfl | hk
  · exact h1
  · have := List.mem_singleton.1 hk
    subst this; exact h2
theorem Zp0 (hk : Go c n l W K) (hc : chkP os E = true := by rfl) (hf : fullP os E = true := by rfl) : QF P c n os K E W l [] := QF.fin hc hf hk
end
end Go.Proofs.Ytbjfjkmidhfgcaa.L.R
namespace Go.Proofs.Ytbjfjkmidhfgcaa.L
open Go Go.Proofs
/-- A part of a list. -/
def PartAt {α : Type} (ys : List α) (off m : Nat) (zs : List α) : Prop := ∃ pre post, ys = pre ++ zs ++ post ∧ pre.length = off ∧ zs.length = m
theorem PartAt.l {α : Type} {xs ys : List α} {m : Nat} (h : xs.length = m) : PartAt (xs ++ ys) 0 m xs := ⟨[], ys, rfl, rfl, h⟩
theorem PartAt.r {α : Type} {xs ys : List α} {off m : Nat} (h : xs.length = off) (h2 : ys.length = m) : PartAt (xs ++ ys) off m ys := ⟨xs, [], by simp, h, h2⟩
theorem PartAt.all {α : Type} {xs : List α} {m : Nat} (h : xs.length = m) : PartAt xs 0 m xs := ⟨[], [], by simp, rfl, h⟩
theorem PartAt.inl {α : Type} {xs ys zs : List α} {off m : Nat} (h : PartAt xs off m zs) : PartAt (xs ++ ys) off m zs := by
  obtain ⟨p, q, rfl, h1, h2⟩ := h
  exact ⟨p, q ++ ys, by simp, h1, h2⟩
theorem PartAt.inr {α : Type} {xs ys zs : List α} {off m : Nat} (h : PartAt ys off m zs) : PartAt (xs ++ ys) (xs.length + off) m zs := by
  obtain ⟨p, q, rfl, h1, h2⟩ := h
  exact ⟨xs ++ p, q, by simp, by simp [h1], h2⟩
theorem PartAt.map {α β : Type} {ys zs : List α} {off m : Nat} (f : α → β) (h : PartAt ys off m zs) : PartAt (ys.map f) off m (zs.map f) := by
  obtain ⟨p, q, rfl, h1, h2⟩ := h
  exact ⟨p.map f, q.map f, by simp, by simp [h1], by simp [h2]⟩
theorem PartAt.get {α : Type} {ys zs : List α} {off m : Nat} (h : PartAt ys off m zs) : ∀ j v, zs[j]? = some v → ys[off + j]? = some v := by
  obtain ⟨p, q, rfl, rfl, rfl⟩ := h
  intro j v hj
  rw [List.append_assoc, List.getElem?_append_right (by omega), Nat.add_sub_cancel_left]
  have hl : j < zs.length := (List.getElem?_eq_some_iff.1 hj).1
  rw [List.getElem?_append_left hl]; exact hj
theorem PartAt.ext {α : Type} {ys zs : List α} {off m : Nat} (h : PartAt ys off m zs) : (ys.toArray.extract off (off + m)) = zs.toArray := by
  obtain ⟨p, q, rfl, rfl, rfl⟩ := h
  simp
def fldOf (P : Program) (T : TypeId) (i : Nat) : Option (Nat × Nat) := match P.underlying T with
  | some (.struct fs) => match fs[i]? with
    | some f => match szOf P f.type with
      | some s => some (f.offset, s)
      | none => none
    | none => none
  | _ => none
theorem fldOf_spec {P : Program} {T : TypeId} {i o s : Nat} (h : fldOf P T i = some (o, s)) : ∃ fs f, P.underlying T = some (.struct fs) ∧ fs[i]? = some f ∧ f.offset = o ∧ szOf P f.type = some s := by
  unfold fldOf at h
  split at h
  · rename_i fs h1
    split at h
    · rename_i f h2
      split at h
      · rename_i s' h3
        simp at h
        exact ⟨fs, f, h1, h2, h.1, by rw [h3, h.2]⟩
      · cases h
    · cases h
  · cases h
theorem fold_seg (off : Nat) : ∀ (vs old : List Value) (s : Nat) (pre post : List Value), old.length = vs.length → pre.length = off + s →
    (vs.zipIdx s).foldl (fun (cs : Array Value) (x : Value × Nat) => cs.setIfInBounds (off + x.2) x.1) (pre ++ old ++ post).toArray = (pre ++ vs ++ post).toArray
  | [], [], s, pre, post, _, _ => by simp
  | v :: vs, o :: old, s, pre, post, hl, hp => by
    simp only [List.zipIdx_cons, List.foldl_cons]
    have e : ((pre ++ o :: old ++ post).toArray.setIfInBounds (off + s) v) = ((pre ++ [v]) ++ old ++ post).toArray := by
      rw [← hp]
      simp [List.setIfInBounds_toArray]
    rw [e, fold_seg off vs old (s + 1) (pre ++ [v]) post (by simpa using hl) (by simp; omega)]
    simp
  | [], _ :: _, _, _, _, hl, _ => by simp at hl
  | _ :: _, [], _, _, _, hl, _ => by simp at hl
theorem fill_cons {place : Nat → Option (Nat × Nat)} {i : Nat} {v : Value} {rest : List (Nat × Value)} {pre old post : List Value} (hp : place i = some (pre.length, old.length)) (hv : v.cells.size = old.length) :
    Instr.fill place (pre ++ old ++ post).toArray ((i, v) :: rest) = Instr.fill place (pre ++ v.cells.toList ++ post).toArray rest := by
  simp only [Instr.fill, hp]
  rw [if_neg (by simp [hv])]
  congr 1
  have := fold_seg pre.length v.cells.toList old 0 pre post (by simp [hv]) rfl
  rw [← this, ← Array.foldl_toList, Array.toList_zipIdx]
section
variable {P : Program} {c : Cx} {n : Nat} {l : Sl} {W : List Res} {ops : Array Oper} {Q : Exit → Act → World → Prop} {rest : List Oper}
variable {d : Nat} {T : TypeId} {pos : String} {after : Array Edge}
theorem st_fld {x : Operand} {b off o s i : Nat} {t : TypeId} (hx : ev l x = some (pt b off)) (hf : fldOf P t i = some (o, s)) (hs : Nat.blt 0 s = true) (hn : Nat.blt d n = true)
    (hk : Go c n ((d, pt b (off + o)) :: l) W (wpList P ops Q rest)) : Go c n l W (wpList P ops Q (⟨some d, .fieldAddr t x i, T, pos, after, none⟩ :: rest)) :=
  st_val rfl rfl hn (fun a w ha hw => by
    obtain ⟨fs, f, h1, h2, rfl, h4⟩ := fldOf_spec hf
    have hs0 : ¬ s = 0 := by have := Nat.le_of_ble_eq_true hs; omega
    simp [execOp, ha.ev hx, Instr.fieldAt, Instr.sureAddr, run_underlying h1, h2, fieldPlace, run_sizeOf h4, hs0, pt, Addr.add]) hk
theorem st_ldp {x : Operand} {b off m : Nat} {k : IntKind} {ys zs : List Nat} {E U : TypeId} {R : List Res} (hx : ev l x = some (pt b off)) (hf : Find W (.blk b (LV k ys) U) R) (hs : aggT P E = true) (hz : szOf P E = some m)
    (hp : PartAt ys off m zs) (hn : Nat.blt d n = true)
    (hk : Go c n ((d, LV k zs) :: l) W (wpList P ops Q rest)) : Go c n l W (wpList P ops Q (⟨some d, .load E x, T, pos, after, none⟩ :: rest)) :=
  st_val rfl rfl hn (fun a w ha hw => by
    have hh : w.heap[b]? = some (.cells (ys.map (N k)).toArray U (0, 0)) := hw.holds _ hf.mem
    have hl : zs.length = m := by obtain ⟨_, _, _, _, h⟩ := hp; exact h
    have := run_loadVar_a (P := P) (w := w) (b := b) (off := off) (cs := zs.map (N k)) hs (by simpa [hl] using hz) hh (fun j v hv => by
      have := (hp.map (N k)).get j v hv
      simpa using this)
    simp [execOp, ha.ev hx, Instr.loadAt, Instr.sureAddr, this, LV]) hk
/-- A part of a record that is a value. -/
theorem st_fieldLV {x : Operand} {o s i : Nat} {k : IntKind} {ys zs : List Nat} {t : TypeId} (hx : ev l x = some (LV k ys)) (hf : fldOf P t i = some (o, s)) (hp : PartAt ys o s zs)
    (ha : (match P.underlying t with | some (.struct fs) => (match fs[i]? with | some f => aggT P f.type | none => false) | _ => false) = true) (hn : Nat.blt d n = true)
    (hk : Go c n ((d, LV k zs) :: l) W (wpList P ops Q rest)) : Go c n l W (wpList P ops Q (⟨some d, .field t x i, T, pos, after, none⟩ :: rest)) :=
  st_val rfl rfl hn (fun a w hA hw => by
    obtain ⟨fs, f, h1, h2, rfl, h4⟩ := fldOf_spec hf
    simp only [h1, h2] at ha
    have he := congrArg Array.toList (hp.map (N k)).ext
    simp at he
    simp [execOp, hA.ev hx, Instr.field, run_underlying h1, h2, part, run_isAgg_t ha, run_sizeOf h4, LV, asAgg, he]) hk
def plOf (P : Program) : List Field → Option (List (Nat × Nat))
  | [] => some []
  | f :: fs => match szOf P f.type, plOf P fs with
    | some s, some r => some ((f.offset, s) :: r)
    | _, _ => none
def plF (f : Field) : Sem (Nat × Nat) := do pure (f.offset, ← sizeOf f.type)
theorem run_pl {w : World} : ∀ {fs : List Field} {pl : List (Nat × Nat)}, plOf P fs = some pl → (fs.mapM plF).run P w = .ok pl w
  | [], pl, h => by simp [plOf] at h; subst h; simp
  | f :: fs, pl, h => by
    simp only [plOf] at h
    split at h
    · rename_i s r h1 h2
      simp at h; subst h
      simp [List.mapM_cons, plF, run_sizeOf h1, run_pl h2]
    · cases h
theorem run_plA {w : World} {fs : Array Field} {pl : List (Nat × Nat)} (h : plOf P fs.toList = some pl) : (fs.mapM plF).run P w = .ok pl.toArray w := by
  rw [Array.mapM_eq_mapM_toList]
  simp [run_pl h]
inductive FillsN (pl : List (Nat × Nat)) : List Nat → List (Nat × List Nat) → List Nat → Prop
  | nil {ys : List Nat} : FillsN pl ys [] ys
  | cons {pre old post zs out : List Nat} {i : Nat} {rest : List (Nat × List Nat)} (hp : pl[i]? = some (pre.length, old.length)) (hz : zs.length = old.length) (h : FillsN pl (pre ++ zs ++ post) rest out) :
      FillsN pl (pre ++ old ++ post) ((i, zs) :: rest) out
theorem fillsN {pl : List (Nat × Nat)} {k : IntKind} {ys out : List Nat} {ps : List (Nat × List Nat)} (h : FillsN pl ys ps out) :
    Instr.fill (pl.toArray[·]?) (ys.map (N k)).toArray (ps.map fun p => (p.1, LV k p.2)) = some (out.map (N k)).toArray := by
  induction h with
  | nil => rfl
  | cons hp hz h ih =>
    rename_i pre old post zs out i rest
    have e := fill_cons (place := (pl.toArray[·]?)) (i := i) (v := LV k zs) (rest := rest.map fun p => (p.1, LV k p.2)) (pre := pre.map (N k)) (old := old.map (N k)) (post := post.map (N k)) (by simpa using hp) (by simpa [LV, Value.cells] using hz)
    simp only [List.map_append, List.map_cons] at ih ⊢
    rw [e]
    simpa [LV, Value.cells] using ih
theorem st_buildS {t : TypeId} {fs : Array Field} {pl : List (Nat × Nat)} {k : IntKind} {z out : List Nat} {is : List Nat} {xs : List Operand} {vs : List (List Nat)} (ht : P.underlying t = some (.struct fs)) (hpl : plOf P fs.toList = some pl) (hz : zrOf P t = some (LV k z))
    (hv : evs l xs = some (vs.map (LV k))) (hf : FillsN pl z (is.zip vs) out) (hn : Nat.blt d n = true)
    (hk : Go c n ((d, LV k out) :: l) W (wpList P ops Q rest)) : Go c n l W (wpList P ops Q (⟨some d, .build t (is.zip xs).toArray, T, pos, after, none⟩ :: rest)) :=
  st_val rfl rfl hn (fun a w ha hw => by
    have he : ((is.zip xs).map fun (p : Nat × Operand) => (p.1, a.eval p.2)) = (is.zip vs).map fun p => (p.1, LV k p.2) := by
      have h1 : xs.map a.eval = vs.map (LV k) := ha.evs hv
      have h2 : (is.zip xs).map (fun (p : Nat × Operand) => (p.1, a.eval p.2)) = is.zip (xs.map a.eval) := by rw [List.zip_map_right]; rfl
      have h3 : (is.zip vs).map (fun (p : Nat × List Nat) => (p.1, LV k p.2)) = is.zip (vs.map (LV k)) := by rw [List.zip_map_right]; rfl
      rw [h2, h1, h3]
    have hpp : (fs.mapM fun (f : Field) => (do let s ← sizeOf f.type; pure (f.offset, s) : Sem (Nat × Nat))).run P w = .ok pl.toArray w := run_plA hpl
    have hff := fillsN (k := k) hf
    rw [← he] at hff
    simp only [execOp, Instr.build, Sem.run_bind, run_underlying ht, run_zero hz, hpp, Result.andThen_ok, List.map_toArray, Value.cells, LV]
    rw [hff]
    rfl) hk
/-- Records of two parts of equal size. -/
theorem st_build2 {t : TypeId} {fs : Array Field} {m : Nat} {k : IntKind} {xs ys : List Nat} {x y : Operand} (ht : P.underlying t = some (.struct fs)) (hpl : plOf P fs.toList = some [(0, m), (m, m)]) (hz : zrOf P t = some (LV k (List.replicate (m + m) 0)))
    (hv : evs l [x, y] = some [LV k xs, LV k ys]) (h1 : xs.length = m) (h2 : ys.length = m) (hn : Nat.blt d n = true)
    (hk : Go c n ((d, LV k (xs ++ ys)) :: l) W (wpList P ops Q rest)) : Go c n l W (wpList P ops Q (⟨some d, .build t #[(0, x), (1, y)], T, pos, after, none⟩ :: rest)) :=
  st_buildS (is := [0, 1]) (xs := [x, y]) (vs := [xs, ys]) ht hpl hz hv (by
    have e : List.replicate (m + m) 0 = [] ++ List.replicate m 0 ++ List.replicate m 0 := by rw [List.nil_append, List.replicate_append_replicate]
    rw [e]
    refine .cons (by simp) (by simpa using h1) ?_
    rw [List.nil_append, ← List.append_nil (xs ++ List.replicate m 0)]
    refine .cons (by simp [h1]) (by simpa using h2) ?_
    rw [List.append_nil]; exact .nil) hn hk
theorem st_build2a {t : TypeId} {fs : Array Field} {m : Nat} {k : IntKind} {xs : List Nat} {x : Operand} (ht : P.underlying t = some (.struct fs)) (hpl : plOf P fs.toList = some [(0, m), (m, m)]) (hz : zrOf P t = some (LV k (List.replicate (m + m) 0)))
    (hv : evs l [x] = some [LV k xs]) (h1 : xs.length = m) (hn : Nat.blt d n = true)
    (hk : Go c n ((d, LV k (xs ++ List.replicate m 0)) :: l) W (wpList P ops Q rest)) : Go c n l W (wpList P ops Q (⟨some d, .build t #[(0, x)], T, pos, after, none⟩ :: rest)) :=
  st_buildS (is := [0]) (xs := [x]) (vs := [xs]) ht hpl hz hv (by
    have e : List.replicate (m + m) 0 = [] ++ List.replicate m 0 ++ List.replicate m 0 := by rw [List.nil_append, List.replicate_append_replicate]
    rw [e]
    refine .cons (by simp) (by simpa using h1) ?_
    exact .nil) hn hk
theorem st_build2b {t : TypeId} {fs : Array Field} {m : Nat} {k : IntKind} {ys : List Nat} {y : Operand} (ht : P.underlying t = some (.struct fs)) (hpl : plOf P fs.toList = some [(0, m), (m, m)]) (hz : zrOf P t = some (LV k (List.replicate (m + m) 0)))
    (hv : evs l [y] = some [LV k ys]) (h1 : ys.length = m) (hn : Nat.blt d n = true)
    (hk : Go c n ((d, LV k (List.replicate m 0 ++ ys)) :: l) W (wpList P ops Q rest)) : Go c n l W (wpList P ops Q (⟨some d, .build t #[(1, y)], T, pos, after, none⟩ :: rest)) :=
  st_buildS (is := [1]) (xs := [y]) (vs := [ys]) ht hpl hz hv (by
    have e : List.replicate (m + m) 0 = List.replicate m 0 ++ List.replicate m 0 ++ [] := by rw [List.append_nil, List.replicate_append_replicate]
    rw [e]
    refine .cons (by simp) (by simpa using h1) ?_
    rw [List.append_nil]; exact .nil) hn hk
theorem st_build20 {t : TypeId} {fs : Array Field} {pl : List (Nat × Nat)} {k : IntKind} {z : List Nat} (ht : P.underlying t = some (.struct fs)) (hpl : plOf P fs.toList = some pl) (hz : zrOf P t = some (LV k z)) (hn : Nat.blt d n = true)
    (hk : Go c n ((d, LV k z) :: l) W (wpList P ops Q rest)) : Go c n l W (wpList P ops Q (⟨some d, .build t #[], T, pos, after, none⟩ :: rest)) :=
  st_buildS (is := []) (xs := []) (vs := []) ht hpl hz rfl .nil hn hk
/-- Two such records compared. -/
theorem run_rec2D (D : Nat) {w : World} {t : TypeId} {f0 f1 : Field} {k : IntKind} {m : Nat} {E : TypeId} (ht : P.underlying t = some (.struct #[f0, f1])) (hst : P.stoodInHeld t = false) (hn0 : (f0.name != "_") = true) (hn1 : (f1.name != "_") = true)
    (h0 : P.underlying f0.type = some (.array m E)) (h1 : P.underlying f1.type = some (.array m E)) (hs0 : szOf P f0.type = some m) (hs1 : szOf P f1.type = some m) (ho0 : f0.offset = 0) (ho1 : f1.offset = m)
    (hE : P.underlying E = some (.int k)) (hz : szOf P E = some 1) {xs ys us vs : List Nat} (hx : xs.length = m) (hy : ys.length = m) (hu : us.length = m) (hv : vs.length = m) :
    (Op.equalIn (D + 3) t (LV k (xs ++ ys)) (LV k (us ++ vs))).run P w = .ok (decide (xs = us) && decide (ys = vs)) w := by
  have hf : P.fieldsOf t = #[f0, f1] := by unfold Program.fieldsOf; rw [ht]
  have e := run_equalIn_struct (P := P) w (D + 2) t ((xs ++ ys).map (N k)).toArray ((us ++ vs).map (N k)).toArray (by rw [hf]; exact ht) hst
  rw [hf] at e
  simp only [LV]
  rw [e]
  have a0 : aggT P f0.type = true := by unfold aggT; rw [h0]
  have a1 : aggT P f1.type = true := by unfold aggT; rw [h1]
  have p0 : ∀ (zs ts : List Nat), zs.length = m → (part f0.type ((zs ++ ts).map (N k)).toArray f0.offset).run P w = .ok (LV k zs) w := fun zs ts hz => by
    have he := ((PartAt.l (ys := ts) hz).map (N k)).ext
    rw [Nat.zero_add] at he
    simp only [part, Sem.run_bind, run_isAgg_t a0, Result.andThen_ok, if_true, run_sizeOf hs0, ho0, Nat.zero_add, he, Sem.run_pure, LV]
  have p1 : ∀ (zs ts : List Nat), zs.length = m → ts.length = m → (part f1.type ((zs ++ ts).map (N k)).toArray f1.offset).run P w = .ok (LV k ts) w := fun zs ts hz ht => by
    have he := ((PartAt.r (xs := zs) hz ht).map (N k)).ext
    simp only [part, Sem.run_bind, run_isAgg_t a1, Result.andThen_ok, if_true, run_sizeOf hs1, ho1, he, Sem.run_pure, LV]
  have q0 := run_arrEq (w := w) D h0 hE hz xs us hx hu
  have q1 := run_arrEq (w := w) D h1 hE hz ys vs hy hv
  have n0 : f0.name ≠ "_" := by simpa using hn0
  have n1 : f1.name ≠ "_" := by simpa using hn1
  simp only [Op.eqFields, if_pos n0, if_pos n1, Sem.run_bind, p0 xs ys hx, p0 us vs hu, p1 xs ys hx hy, p1 us vs hu hv, Result.andThen_ok, q0, q1, Sem.run_ite, Sem.run_pure]
  cases decide (xs = us) <;> cases decide (ys = vs) <;> rfl
theorem st_eq2 {t : TypeId} {f0 f1 : Field} {k : IntKind} {m : Nat} {E yt : TypeId} {x y : Operand} {xs ys us vs : List Nat} (hx : ev l x = some (LV k (xs ++ ys))) (hy : ev l y = some (LV k (us ++ vs))) (ht : P.underlying t = some (.struct #[f0, f1])) (hst : P.stoodInHeld t = false) (hn0 : (f0.name != "_") = true) (hn1 : (f1.name != "_") = true)
    (h0 : P.underlying f0.type = some (.array m E)) (h1 : P.underlying f1.type = some (.array m E)) (hs0 : szOf P f0.type = some m) (hs1 : szOf P f1.type = some m) (ho0 : f0.offset = 0) (ho1 : f1.offset = m)
    (hE : P.underlying E = some (.int k)) (hz : szOf P E = some 1) (hg : P.eqGuardType P.depth t = false) (l1 : xs.length = m) (l2 : ys.length = m) (l3 : us.length = m) (l4 : vs.length = m) (hn : Nat.blt d n = true)
    (hk : Go c n ((d, .bool (decide (xs = us) && decide (ys = vs))) :: l) W (wpList P ops Q rest)) : Go c n l W (wpList P ops Q (⟨some d, .binOp .eql t x y yt, T, pos, after, none⟩ :: rest)) :=
  st_val rfl rfl hn (fun a w ha _ => by
    have q1 := run_rec2D 9997 (w := w) ht hst hn0 hn1 h0 h1 hs0 hs1 ho0 ho1 hE hz l1 l2 l3 l4
    have q2 := run_eqGuard_agg (P := P) w .eql t x y ((xs ++ ys).map (N k)).toArray ((us ++ vs).map (N k)).toArray hg
    have q3 := run_eql_struct (P := P) w t ((xs ++ ys).map (N k)).toArray ((us ++ vs).map (N k)).toArray
    simp only [LV] at q1 hx hy
    rw [q1] at q3
    simp only [execOp, ha.ev hx, ha.ev hy, Sem.run_bind, q2, Result.andThen_ok, q3, Sem.run_pure]) hk
theorem st_ne2 {t : TypeId} {f0 f1 : Field} {k : IntKind} {m : Nat} {E yt : TypeId} {x y : Operand} {xs ys us vs : List Nat} (hx : ev l x = some (LV k (xs ++ ys))) (hy : ev l y = some (LV k (us ++ vs))) (ht : P.underlying t = some (.struct #[f0, f1])) (hst : P.stoodInHeld t = false) (hn0 : (f0.name != "_") = true) (hn1 : (f1.name != "_") = true)
    (h0 : P.underlying f0.type = some (.array m E)) (h1 : P.underlying f1.type = some (.array m E)) (hs0 : szOf P f0.type = some m) (hs1 : szOf P f1.type = some m) (ho0 : f0.offset = 0) (ho1 : f1.offset = m)
    (hE : P.underlying E = some (.int k)) (hz : szOf P E = some 1) (hg : P.eqGuardType P.depth t = false) (l1 : xs.length = m) (l2 : ys.length = m) (l3 : us.length = m) (l4 : vs.length = m) (hn : Nat.blt d n = true)
    (hk : Go c n ((d, .bool (!(decide (xs = us) && decide (ys = vs)))) :: l) W (wpList P ops Q rest)) : Go c n l W (wpList P ops Q (⟨some d, .binOp .neq t x y yt, T, pos, after, none⟩ :: rest)) :=
  st_val rfl rfl hn (fun a w ha _ => by
    have q1 := run_rec2D 9997 (w := w) ht hst hn0 hn1 h0 h1 hs0 hs1 ho0 ho1 hE hz l1 l2 l3 l4
    have q2 := run_eqGuard_agg (P := P) w .neq t x y ((xs ++ ys).map (N k)).toArray ((us ++ vs).map (N k)).toArray hg
    have q3 := run_neq_struct (P := P) w t ((xs ++ ys).map (N k)).toArray ((us ++ vs).map (N k)).toArray
    simp only [LV] at q1 hx hy
    rw [q1] at q3
    simp only [execOp, ha.ev hx, ha.ev hy, Sem.run_bind, q2, Result.andThen_ok, q3, Sem.run_pure]) hk
theorem st_ne2v {r : Bool} {t : TypeId} {f0 f1 : Field} {k : IntKind} {m : Nat} {E yt : TypeId} {x y : Operand} {xs ys us vs : List Nat} (hx : ev l x = some (LV k (xs ++ ys))) (hy : ev l y = some (LV k (us ++ vs))) (ht : P.underlying t = some (.struct #[f0, f1])) (hst : P.stoodInHeld t = false) (hn0 : (f0.name != "_") = true) (hn1 : (f1.name != "_") = true)
    (h0 : P.underlying f0.type = some (.array m E)) (h1 : P.underlying f1.type = some (.array m E)) (hs0 : szOf P f0.type = some m) (hs1 : szOf P f1.type = some m) (ho0 : f0.offset = 0) (ho1 : f1.offset = m)
    (hE : P.underlying E = some (.int k)) (hz : szOf P E = some 1) (hg : P.eqGuardType P.depth t = false) (hr : (decide (xs = us) && decide (ys = vs)) = r) (l1 : xs.length = m) (l2 : ys.length = m) (l3 : us.length = m) (l4 : vs.length = m) (hn : Nat.blt d n = true)
    (hk : Go c n ((d, .bool (!r)) :: l) W (wpList P ops Q rest)) : Go c n l W (wpList P ops Q (⟨some d, .binOp .neq t x y yt, T, pos, after, none⟩ :: rest)) :=
  st_ne2 hx hy ht hst hn0 hn1 h0 h1 hs0 hs1 ho0 ho1 hE hz hg l1 l2 l3 l4 hn (by rw [hr]; exact hk)
end
end Go.Proofs.Ytbjfjkmidhfgcaa.L
namespace Go.Proofs.Ytbjfjkmidhfgcaa.L
open Go Go.Proofs
/-- What a world's block holds. -/
def HasB (w : World) (b : Nat) (v : Value) (U : TypeId) : Prop := w.heap[b]? = some (.cells v.cells U (0, 0))
structure OldB (c : Cx) (b : Nat) (v : Value) (U : TypeId) : Prop where
  has : HasB c.w0 b v U
  out : b ∉ c.S
theorem HasB.lt {w : World} {b : Nat} {v : Value} {U : TypeId} (h : HasB w b v U) : b < w.heap.size := by
  rcases Nat.lt_or_ge b w.heap.size with h1 | h1
  · exact h1
  · unfold HasB at h; rw [Array.getElem?_eq_none h1] at h; cases h
theorem OldB.mk0 {w : World} {b : Nat} {v : Value} {U : TypeId} (h : HasB w b v U) : OldB ⟨w, fps []⟩ b v U := ⟨h, by simp [fps]⟩
theorem OldB.now {c : Cx} {b : Nat} {v : Value} {U : TypeId} {W : List Res} (h : OldB c b v U) : ∀ w, SatW c W w → HasB w b v U := fun w hw => by
  have := hw.ext.block b h.has.lt h.out
  unfold HasB
  rw [this]; exact h.has
theorem OldB.shift {c : Cx} {b : Nat} {v : Value} {U : TypeId} {W : List Res} {w0 : World} (h : OldB c b v U) (h0 : SatW c W w0) : OldB ⟨w0, fps W⟩ b v U :=
  ⟨h.now w0 h0, fun hm => by
    rcases h0.own b hm with h1 | h1
    · have := h.has.lt; omega
    · exact h.out h1⟩
theorem HasB.own {c : Cx} {b : Nat} {v : Value} {U : TypeId} {W R : List Res} (h : Find W (.blk b v U) R) : ∀ w, SatW c W w → HasB w b v U := fun _ hw => hw.holds _ h.mem
section
variable {P : Program} {c : Cx} {n : Nat} {l : Sl} {W : List Res} {ops : Array Oper} {Q : Exit → Act → World → Prop} {rest : List Oper}
variable {d : Nat} {T : TypeId} {pos : String} {after : Array Edge}
end
end Go.Proofs.Ytbjfjkmidhfgcaa.L
namespace Go.Proofs.Ytbjfjkmidhfgcaa.L
open Go Go.Proofs
/-- A slice over a whole block. -/
abbrev slv (b k : Nat) : Value := .slice (some ⟨b, 0, none⟩) k k
theorem fill_many {kk : IntKind} {m : Nat} : ∀ (vss : List (List Nat)) (i : Nat) (done : List Value), (∀ v ∈ vss, v.length = m) → done.length = i * m →
    Instr.fill (fun i => some (i * m, m)) (done ++ List.replicate (vss.length * m) (N kk 0)).toArray ((vss.zipIdx i).map fun p => (p.2, LV kk p.1)) = some (done ++ vss.flatten.map (N kk)).toArray
  | [], i, done, _, _ => by simp [Instr.fill]
  | v :: r, i, done, hv, hd => by
    have h1 := hv v (List.mem_cons_self ..)
    have ih := fill_many (kk := kk) (m := m) r (i + 1) (done ++ v.map (N kk)) (fun u hu => hv u (List.mem_cons_of_mem _ hu)) (by simp [hd, h1, Nat.add_mul])
    have e := fill_cons (place := fun i => some (i * m, m)) (i := i) (v := LV kk v) (rest := (r.zipIdx (i + 1)).map fun p => (p.2, LV kk p.1)) (pre := done) (old := List.replicate m (N kk 0)) (post := List.replicate (r.length * m) (N kk 0))
      (by simp [hd]) (by simp [LV, Value.cells, h1])
    have hrep : done ++ List.replicate ((v :: r).length * m) (N kk 0) = done ++ List.replicate m (N kk 0) ++ List.replicate (r.length * m) (N kk 0) := by
      rw [List.append_assoc, List.replicate_append_replicate]
      congr 2
      rw [List.length_cons, Nat.add_mul, Nat.one_mul, Nat.add_comm]
    rw [hrep, List.zipIdx_cons, List.map_cons, e]
    have hc : (LV kk v).cells.toList = v.map (N kk) := by simp [LV, Value.cells]
    rw [hc, ih]
    simp
section
variable {P : Program} {c : Cx} {n : Nat} {l : Sl} {W : List Res} {ops : Array Oper} {Q : Exit → Act → World → Prop} {rest : List Oper}
variable {d : Nat} {T : TypeId} {pos : String} {after : Array Edge}
theorem parts_many {a : Act} {kk : IntKind} : ∀ {ps : List (Nat × Operand)} {i : Nat} {vss : List (List Nat)} (_ : SatA n l a) (_ : Seq i ps = true) (_ : evs l (ps.map (·.2)) = some (vss.map (LV kk))),
    (ps.map fun (i, x) => (i, a.eval x)) = (vss.zipIdx i).map fun p => (p.2, LV kk p.1)
  | [], i, vss, _, _, he => by
    have : vss = [] := by
      cases vss with
      | nil => rfl
      | cons v r => simp [evs] at he
    subst this; rfl
  | (q, x) :: r, i, vss, ha, hs, he => by
    simp only [Seq, Bool.and_eq_true] at hs
    have hq := Nat.eq_of_beq_eq_true hs.1
    subst hq
    simp only [List.map_cons, evs] at he
    split at he
    · rename_i v us hx hr
      cases vss with
      | nil => simp at he
      | cons v0 vr =>
        simp at he
        obtain ⟨h1, h2⟩ := he
        subst h1
        subst h2
        have ih := parts_many (ps := r) (i := q + 1) (vss := vr) ha hs.2 hr
        simp only [List.map_cons, List.zipIdx_cons, ih, ha.ev hx]
    · simp at he
theorem zeros_many {kk : IntKind} {m k : Nat} (hm : 0 < m) : (Array.range (k * m)).map (fun j => (List.replicate m (N kk 0)).toArray[j % (List.replicate m (N kk 0)).toArray.size]!) = (List.replicate (k * m) (N kk 0)).toArray := by
  apply Array.ext
  · simp
  · intro j h1 h2
    have hj : j % m < m := Nat.mod_lt _ hm
    simp [hj]
theorem st_buildSliceM {t E : TypeId} {k m : Nat} {ps : List (Nat × Operand)} {kk : IntKind} {vss : List (List Nat)} (ht : P.underlying t = some (.slice E)) (hz : zrOf P E = some (LV kk (List.replicate m 0))) (hs : szOf P E = some m)
    (hm : Nat.blt 0 (k * m) = true) (hq : Seq 0 ps = true) (hl : vss.length = k) (hv : evs l (ps.map (·.2)) = some (vss.map (LV kk))) (hlen : ∀ v ∈ vss, v.length = m) (hk24 : Nat.ble (k * m) 16777216 = true) (hn : Nat.blt d n = true)
    (hk : ∀ b, Go c n ((d, slv b k) :: l) (.blk b (LV kk vss.flatten) E :: W) (wpList P ops Q rest)) :
    Go c n l W (wpList P ops Q (⟨some d, .buildSlice t k ps.toArray, T, pos, after, none⟩ :: rest)) :=
  st_op rfl rfl hn (Φ := fun u V => ∃ b, u = slv b k ∧ V = .blk b (LV kk vss.flatten) E :: W)
    (fun a w ha hw => by
      have hp := parts_many ha hq hv
      have hm0 : 0 < k * m := by simpa [Nat.blt_eq] using hm
      have hmm : 0 < m := Nat.pos_of_mul_pos_left hm0
      have hle : ¬ (16777216 < k * m) := by have := Nat.le_of_ble_eq_true hk24; omega
      have hne : ¬ (k * m = 0) := by omega
      have hfill := fill_many (kk := kk) (m := m) vss 0 [] hlen (by simp)
      simp only [List.nil_append] at hfill
      rw [hl] at hfill
      have h0 := zeros_many (kk := kk) (m := m) (k := k) hmm
      refine ⟨_, _, _, ?_, hw.alloc (o := .cells (vss.flatten.map (N kk)).toArray E) (r := .blk w.heap.size (LV kk vss.flatten) E) rfl ?_, _, rfl, rfl⟩
      · have hz2 : (LV kk (List.replicate m 0)).cells = (List.replicate m (N kk 0)).toArray := by simp [LV, Value.cells]
        simp only [execOp, Instr.buildSlice, Sem.run_bind, run_underlying ht, run_sizeOf hs, Result.andThen_ok, List.map_toArray, hp]
        simp only [show (2 : Nat) ^ 24 = 16777216 from rfl, gt_iff_lt, if_neg hle, if_neg hne, Sem.run_bind, run_zero hz, Result.andThen_ok, Sem.run_pure, hz2, h0, hfill]
        simp [newRow, slv]
      · simp [Res.holds, LV, Value.cells])
    (fun u V ⟨b, hu, hV⟩ => by subst hu; subst hV; exact hk b)
end
theorem PartAt.nth {α : Type} {m : Nat} : ∀ {vss : List (List α)} {i : Nat} {zs : List α}, (∀ v ∈ vss, v.length = m) → vss[i]? = some zs → PartAt vss.flatten (i * m) m zs
  | [], i, zs, _, h => by simp at h
  | v :: r, 0, zs, hv, h => by
    simp at h
    subst h
    rw [Nat.zero_mul, List.flatten_cons]
    exact PartAt.l (hv v (List.mem_cons_self ..))
  | v :: r, i + 1, zs, hv, h => by
    have h1 := hv v (List.mem_cons_self ..)
    have ih := PartAt.nth (m := m) (vss := r) (i := i) (zs := zs) (fun u hu => hv u (List.mem_cons_of_mem _ hu)) (by simpa using h)
    have := PartAt.inr (xs := v) ih
    rw [h1, Nat.add_comm] at this
    rw [List.flatten_cons, Nat.add_mul, Nat.one_mul]
    exact this
end Go.Proofs.Ytbjfjkmidhfgcaa.L
namespace Go.Proofs.Ytbjfjkmidhfgcaa.L.R
open Go Go.Proofs.Ytbjfjkmidhfgcaa.L
section
variable {P : Program} {c : Cx} {n : Nat} {os : List Oper} {K : Act → World → Prop} {E : En} {W : List Res} {l : Sl} {i d : Nat} {o : Oper} {rest : List Nat}
/-- New memory whose value tells its place. -/
def OpD (P : Program) (c : Cx) (n : Nat) (W : List Res) (G : Nat → Value) (F : Nat → List Res) (d : Nat) (lr : Sl) (o : Oper) : Prop :=
  ∀ w0 m, SatW c W w0 → Go ⟨w0, fps W⟩ n (lr ++ m) W (wpList P #[] (fun e a w => e = .normal ∧ ∃ b, SatA n ((d, G b) :: (lr ++ m)) a ∧ SatW ⟨w0, fps W⟩ (F b ++ W) w) [o])
theorem Zpd {G : Nat → Value} {F : Nat → List Res} (ho : os[i]? = some o) (h : OpD P c n W G F d (restr os.toArray o l) (noG o)) (hr : ∀ b, QF P c n os K (E ++ [(i, .alc)]) (F b ++ W) ((d, G b) :: l) rest)
    (hi : newP i E = true := by rfl) (hd : o.dst = some d := by rfl) (hn : Nat.blt d n = true := by rfl) (hg : gSays os.toArray l o = some true := by rfl)
    (hc : chkP os (E ++ [(i, .alc)]) = true := by rfl) (hdesc : descP os [i] rest E = true := by rfl) : QF P c n os K E W l (i :: rest) :=
  nd1 .alc (Φ := fun u W' => ∃ b, u = some (d, G b) ∧ W' = F b ++ W) ho hi hc hdesc (fun u W' ⟨v, hu, hW⟩ => by subst hu; exact ⟨hd, fun d' hd' => by rw [hd] at hd'; cases hd'; exact hn, .inr ⟨rfl, F v, hW⟩⟩) hg
    (fun w0 m hw a w ha hw' => single_mono (h w0 m hw a w ha hw') rfl (fun _ _ _ h => h.1) fun a w ⟨h1, b, h2, h3⟩ => ⟨h1, some (d, G b), F b ++ W, ⟨b, rfl, rfl⟩, h2, h3⟩)
    (fun u W' ⟨v, hu, hW⟩ => by subst hu; subst hW; exact hr v)
theorem Zpdx {b k : Nat} {v : Value} {T : TypeId} {L : Sl} :
    Go c n ((d, slv b k) :: L) (.blk b v T :: W) (wpList P #[] (fun e a w => e = .normal ∧ ∃ b, SatA n ((d, (fun b => slv b k) b) :: L) a ∧ SatW c ((fun b => [.blk b v T]) b ++ W) w) []) :=
  fun _ _ ha hw => wpList_nil ⟨rfl, b, ha, hw⟩
end
end Go.Proofs.Ytbjfjkmidhfgcaa.L.R
namespace Go.Proofs.Ytbjfjkmidhfgcaa.L
open Go Go.Proofs
/-- The same memory, counted in cells. -/
def wide (m : Nat) : Value → Value
  | .slice a n c => .slice a (n * m) (c * m)
  | v => v
theorem wide_nil (m : Nat) : wide m (.slice none 0 0) = .slice none 0 0 := by simp [wide]
theorem wide_shape {m k : Nat} (hm : 0 < m) {s : Value} {a : Option Addr} {cap n : Nat} (h : wide m s = .slice a n cap) (hn : n = k * m) : ∃ c, s = .slice a k c ∧ cap = c * m := by
  cases s with
  | slice a0 n0 c0 =>
    simp only [wide, Value.slice.injEq] at h
    obtain ⟨rfl, h2, rfl⟩ := h
    have : n0 = k := Nat.eq_of_mul_eq_mul_right hm (h2.trans hn)
    subst this
    exact ⟨c0, rfl, rfl⟩
  | _ => simp [wide] at h
theorem run_firstM {P : Program} {w : World} {m k c : Nat} {a : Option Addr} {xs : List Value} (h : Rd w (wide m (.slice a k c)) xs) (hk : xs.length = k * m) : (Builtin.firstCells m k (.slice a k c)).run P w = .ok xs.toArray w := by
  obtain ⟨a0, cap, he, h1, h2, h3⟩ := h.shape
  simp only [wide, Value.slice.injEq] at he
  obtain ⟨rfl, e2, rfl⟩ := he
  cases a with
  | none => obtain ⟨hx, _⟩ := h2 rfl; subst hx; simp [Builtin.firstCells]
  | some a1 =>
    have hl : (loadCells a1 xs.length).run P w = .ok xs.toArray w :=
      run_loadCells_list (P := P) w a1 xs (fun j v hv => by
        have := h.cells j v hv
        simpa [wide, ea] using this)
    rw [hk] at hl
    simp [Builtin.firstCells, hl]
theorem run_append_M {P : Program} {w : World} {t E ty : TypeId} {by' m k j c c1 : Nat} {base a1 : Option Addr} {z : Value} {xs ys : List Value} (hm : 0 < m) (ht : P.underlying t = some (.slice E)) (hz : zrOf P E = some z) (hs : szOf P E = some m) (hb : byOf P E = some by')
    (hzc : z.cells.size = m)
    (hS : (Res.sl (wide m (.slice base k c)) xs E).holds w) (hY : Rd w (wide m (.slice a1 j c1)) ys) (hxk : xs.length = k * m) (hyj : ys.length = j * m) (hys : ∀ v ∈ ys, v.oneCell' = true) (hj : 0 < j)
    (hbd : (k + j) * by' ≤ 140737488355328) (h63 : k + j < 9223372036854775808) :
    ∃ s' w', (Builtin.append_ #[t, t] ty #[.slice base k c, .slice a1 j c1]).run P w = .ok s' w' ∧ (Res.sl (wide m s') (xs ++ ys) E).holds w' ∧ Ext (Res.sl (wide m (.slice base k c)) xs E).fp w w' ∧
      ((Res.sl (wide m s') (xs ++ ys) E).fp = (Res.sl (wide m (.slice base k c)) xs E).fp ∨ ((Res.sl (wide m s') (xs ++ ys) E).fp = [w.heap.size])) := by
  obtain ⟨i, hi, hz', hs', hb'⟩ := info_of hz hs hb
  have hfY := fun q => run_firstM (P := P) (hY.drew q) hyj
  have hfY0 := run_firstM (P := P) hY hyj
  have hz0 : ∀ w, (zeroValue E).run P w = .ok z w := run_zero hz
  have hty : ∀ w, (underlying t).run P w = .ok (.slice E) w := run_underlying ht
  have hti : ∀ w, (typeInfo E).run P w = .ok i w := fun w => by simp [typeInfo, hi]
  have h63i : ¬ (9223372036854775807 < ((k : Int) + (j : Int))) := by omega
  have hjm : 0 < j * m := Nat.mul_pos hj hm
  by_cases hroom : k + j ≤ c
  · -- there is room
    rcases hS with ⟨hs1, hx1⟩ | ⟨b, off, cap', pre, post, fz, hq⟩
    · simp only [wide, Value.slice.injEq] at hs1
      obtain ⟨_, _, h3⟩ := hs1
      have : c = 0 := by rcases Nat.mul_eq_zero.1 h3 with h | h <;> omega
      omega
    · obtain ⟨hv, g1, g2, g3, g4, g5⟩ := hq
      simp only [wide, Value.slice.injEq] at hv
      obtain ⟨rfl, hv2, rfl⟩ := hv
      have hroomM : (k + j) * m ≤ c * m := Nat.mul_le_mul_right m hroom
      rw [Nat.add_mul, ← hxk, ← hyj] at hroomM
      have hfit : off + xs.length + ys.length ≤ (pre ++ xs ++ post).toArray.size := by simp; omega
      have hfz : ¬ fz.1 < fz.2 ∨ (pre ++ xs ++ post).length ≤ fz.1 := by
        by_cases hf : fz.1 < fz.2
        · exact .inr (g5 (by omega))
        · exact .inl hf
      have hst : ∀ (vs : List Value) (i0 : Nat) (cur : List Value) (w : World), w.heap[b]? = some (.cells cur.toArray E fz) → cur.length = (pre ++ xs ++ post).length → off + xs.length + i0 + vs.length ≤ cur.length → (∀ v ∈ vs, v.oneCell' = true) →
          ∃ cur' : List Value, (storeCells ⟨b, off + xs.length, none⟩ vs i0).run P w = .ok () (w.setRow b cur'.toArray) ∧ cur' = cur.take (off + xs.length + i0) ++ vs ++ cur.drop (off + xs.length + i0 + vs.length) := by
        intro vs
        induction vs with
        | nil =>
          intro i0 cur w hh hl hle h1v
          refine ⟨cur, ?_, by simp⟩
          rw [setRow_self w b _ E fz hh]; rfl
        | cons v r ih =>
          intro i0 cur w hh hl hle h1v
          simp only [List.length_cons] at hle
          have hlt : off + xs.length + i0 < cur.length := by omega
          have hcell : w.cell? ⟨b, off + xs.length + i0, none⟩ = some cur[off + xs.length + i0] := by simp [World.cell?, hh, hlt]
          have hfro : w.frozen? ⟨b, off + xs.length + i0, none⟩ = false := by
            simp only [World.frozen?, hh]
            rcases hfz with h | h
            · simp; omega
            · simp; omega
          have hs1 : (store ((⟨b, off + xs.length, none⟩ : Addr).add i0) v).run P w = .ok () (w.setRow b (cur.set (off + xs.length + i0) v).toArray) := by
            rw [add_pt, run_store P w _ v _ (h1v v (by simp)), hcell]
            simp [hfro, setCell_eq_setRow w b _ cur.toArray E fz v hh]
          obtain ⟨cur', hr, he⟩ := ih (i0 + 1) (cur.set (off + xs.length + i0) v) (w.setRow b (cur.set (off + xs.length + i0) v).toArray) (setRow_heap w b _ _ E fz hh) (by simpa using hl) (by simp; omega) (fun u hu => h1v u (by simp [hu]))
          refine ⟨cur', ?_, ?_⟩
          · simp only [storeCells, Sem.run_bind, hs1, Result.andThen_ok, hr, setRow_setRow]
          · rw [he]
            have e := list_seg_step cur (off + xs.length + i0) v r (by omega)
            simpa [Nat.add_assoc] using e
      obtain ⟨cur', hr, he⟩ := hst ys 0 (pre ++ xs ++ post) w g4 rfl (by simp; omega) hys
      have hcur : cur' = pre ++ (xs ++ ys) ++ post.drop ys.length := by
        rw [he]
        subst g3
        simp only [Nat.add_zero]
        rw [List.take_left' (by simp), show pre.length + xs.length + ys.length = (pre ++ xs).length + ys.length by simp, List.drop_append]
        simp
      rw [hcur] at hr
      refine ⟨.slice (some ⟨b, off, none⟩) (k + j) c, w.setRow b (pre ++ (xs ++ ys) ++ post.drop ys.length).toArray, ?_, ?_, ?_, .inl rfl⟩
      · simp at hr
        rw [hxk] at hr
        simp [Builtin.append_, hty, run_sizeOf hs, Builtin.lenOf, hfY0, hroom, add_pt, hr]
      · refine .inr ⟨b, off, c * m, pre, post.drop ys.length, fz, by simp [wide, hxk, hyj, Nat.add_mul], by simpa using hroomM, ?_, g3, setRow_heap w b _ _ E fz g4, ?_⟩
        · simp; omega
        · intro hf; have := g5 (by omega); simp at this ⊢; omega
      · exact ⟨rfl, rfl, rfl, by simp, fun q _ hq => setRow_other w b q _ (by simpa [Res.fp, wide] using hq)⟩
  · -- a new block
    have hfit := growslice_fits (need := k + j) (old := c) (bytes := by') (by omega) hbd
    have h48 : ¬ (281474976710656 < Builtin.nextslicecap (k + j) c * i.bytes) := by rw [hb']; omega
    have hX : Rd w (wide m (.slice base k c)) xs := by
      have := RdW.own (c := ⟨w, (Res.sl (wide m (.slice base k c)) xs E).fp⟩) (W := [.sl (wide m (.slice base k c)) xs E]) (Find.here)
      refine this w ⟨Ext.refl _ _, by simpa using hS, fun b hb => .inr (by simpa [fps] using hb), ?_⟩
      simp only [fps, List.flatMap_cons, List.flatMap_nil, List.append_nil]
      cases base <;> simp [Res.fp, wide]
    have hfX := fun q => run_firstM (P := P) (hX.drew q) hxk
    have hcut : k + j ≤ grownCap w (k + j) c E := by
      simp only [grownCap, Question.cut]; omega
    have hzr : ∃ zs : List Value, Builtin.zeroCells z.cells (grownCap w (k + j) c E - (k + j)) = zs.toArray ∧ zs.length = (grownCap w (k + j) c E - (k + j)) * m :=
      ⟨(Builtin.zeroCells z.cells (grownCap w (k + j) c E - (k + j))).toList, by simp, by simp [Builtin.zeroCells, hzc]⟩
    obtain ⟨zs, hzs, hzl⟩ := hzr
    have hcm : (grownCap w (k + j) c E - (k + j)) * m + (k + j) * m = grownCap w (k + j) c E * m := by rw [← Nat.add_mul]; congr 1; omega
    refine ⟨.slice (some ⟨w.heap.size, 0, none⟩) (k + j) (grownCap w (k + j) c E),
      { w with drawn := w.drawn + 1, heap := w.heap.push (.cells (xs ++ ys ++ zs).toArray E) }, ?_, ?_, ?_, .inr rfl⟩
    · have hfX' : (Builtin.firstCells m k (Value.slice base k c)).run P w.drew = .ok xs.toArray w.drew := by
        have := hfX (w.drawn + 1); simpa using this
      have hfY' : (Builtin.firstCells m j (.slice a1 j c1)).run P w.drew = .ok ys.toArray w.drew := by
        have := hfY (w.drawn + 1); simpa using this
      have hcells : xs.toArray ++ ys.toArray ++ Builtin.zeroCells z.cells (grownCap w (k + j) c E - (k + j)) = (xs ++ ys ++ zs).toArray := by rw [hzs]; simp
      have hres : (Builtin.append_ #[t, t] ty #[Value.slice base k c, .slice a1 j c1]).run P w =
          .ok (.slice (some ⟨w.heap.size, 0, none⟩) (k + j) (grownCap w (k + j) c E))
            (w.drew.alloc (.cells (xs.toArray ++ ys.toArray ++ Builtin.zeroCells z.cells (grownCap w (k + j) c E - (k + j))) E)) := by
        simp [Builtin.append_, hty, run_sizeOf hs, Builtin.lenOf, hroom, h63i, h48, hti, Question.forced, hfX', hfY', hz0, newRow, grownCap, -List.append_toArray]
      rw [hcells] at hres
      exact hres
    · have hle : (k + j) * m ≤ grownCap w (k + j) c E * m := Nat.mul_le_mul_right m hcut
      rw [Nat.add_mul] at hle hcm
      refine .inr ⟨w.heap.size, 0, grownCap w (k + j) c E * m, [], zs, (0, 0), by simp [wide, hxk, hyj, Nat.add_mul], by simp [hxk, hyj]; exact hle, ?_, rfl, ?_, by simp⟩
      · simp [hxk, hyj, hzl]; omega
      · simp
    · exact ⟨rfl, rfl, rfl, by simp, fun q hq _ => by
        show (w.heap.push _)[q]? = _
        rw [Array.getElem?_push, if_neg (by omega)]⟩
section
variable {P : Program} {c : Cx} {n : Nat} {l : Sl} {W : List Res} {ops : Array Oper} {Q : Exit → Act → World → Prop} {rest : List Oper}
variable {d : Nat} {T : TypeId} {pos : String} {after : Array Edge}
theorem st_append_M {x y : Operand} {s y0 : Value} {kk : IntKind} {m : Nat} {xss yss : List (List Nat)} {t E : TypeId} {by' : Nat} {R : List Res} (hx : ev l x = some s) (hy : ev l y = some y0) (hf : Find W (.sl (wide m s) (xss.flatten.map (N kk)) E) R) (hr : RdW c W (wide m y0) (yss.flatten.map (N kk)))
    (ht : P.underlying t = some (.slice E)) (hz : zrOf P E = some (LV kk (List.replicate m 0))) (hs : szOf P E = some m) (hb : byOf P E = some by') (hm : 0 < m)
    (hxl : xss.flatten.length = xss.length * m) (hyl : yss.flatten.length = yss.length * m) (hj : 0 < yss.length)
    (hbd : (xss.length + yss.length) * by' ≤ 140737488355328) (h63 : xss.length + yss.length < 9223372036854775808) (hn : Nat.blt d n = true)
    (hk : ∀ s', Go c n ((d, s') :: l) (.sl (wide m s') ((xss ++ yss).flatten.map (N kk)) E :: R) (wpList P ops Q rest)) :
    Go c n l W (wpList P ops Q (⟨some d, .call { callee := .builtin .append, args := #[x, y], argTypes := #[t, t] }, T, pos, after, none⟩ :: rest)) :=
  st_op rfl rfl hn (Φ := fun u V => V = .sl (wide m u) ((xss ++ yss).flatten.map (N kk)) E :: R)
    (fun a w ha hw => by
      have hY := hr w hw
      have hX := RdW.own hf w hw
      have hw := hw.perm hf.perm
      obtain ⟨a0, cap0, he0, _⟩ := hX.shape
      obtain ⟨c0, hs0, _⟩ := wide_shape (k := xss.length) hm he0 (by rw [List.length_map]; exact hxl)
      subst hs0
      obtain ⟨a1, cap1, he1, _⟩ := hY.shape
      obtain ⟨c1, hs1, _⟩ := wide_shape (k := yss.length) hm he1 (by rw [List.length_map]; exact hyl)
      subst hs1
      obtain ⟨s', w', h2, h3, h4, h5⟩ := run_append_M (P := P) (ty := T) hm ht hz hs hb (by simp [LV, Value.cells]) (hw.holds _ (List.mem_cons_self ..)) hY (by rw [List.length_map]; exact hxl) (by rw [List.length_map]; exact hyl) (by intro v hv; simp only [List.mem_map] at hv; obtain ⟨q, _, rfl⟩ := hv; rfl) hj hbd h63
      refine ⟨s', w', _, by simp [execOp, ha.ev hx, ha.ev hy, resolve, invoke, builtin, h2], ?_, rfl⟩
      have e : (xss ++ yss).flatten.map (N kk) = xss.flatten.map (N kk) ++ yss.flatten.map (N kk) := by simp
      rw [e]
      rcases h5 with h5 | h5
      · exact hw.upd h5 h4 h3
      · have hlt := hw.lt
        have hn := hw.nd
        simp only [fps, List.flatMap_cons] at hn hlt
        obtain ⟨n1, n2, n3⟩ := List.nodup_append.1 hn
        refine ⟨hw.ext.trans h4 (fun q hq => hw.own q (by simp only [fps, List.flatMap_cons, List.mem_append]; exact .inl hq)), ?_, ?_, ?_⟩
        · intro r hr
          rcases List.mem_cons.1 hr with rfl | hr
          · exact h3
          · exact Res.holds_congr (hw.holds r (List.mem_cons_of_mem _ hr)) fun b hb => h4.block b (Res.fp_lt (hw.holds r (List.mem_cons_of_mem _ hr)) b hb) fun hb' => n3 b hb' b (List.mem_flatMap.2 ⟨r, hr, hb⟩) rfl
        · intro b hb
          simp only [fps, List.flatMap_cons, h5, List.mem_append, List.mem_singleton] at hb
          rcases hb with rfl | hb
          · exact .inl hw.ext.size
          · exact hw.own b (by simp only [fps, List.flatMap_cons, List.mem_append]; exact .inr hb)
        · simp only [fps, List.flatMap_cons, h5]
          refine List.nodup_append.2 ⟨by simp, n2, fun p hp q hq => ?_⟩
          simp only [List.mem_singleton] at hp; subst hp
          have := hlt q (List.mem_append.2 (.inr hq)); omega)
    (fun u V hV => by subst hV; exact hk u)
theorem st_own_nilM {φ : Act → World → Prop} (m : Nat) (T : TypeId) (hk : Go c n l (.sl (wide m (.slice none 0 0)) [] T :: W) φ) : Go c n l W φ :=
  st_own_nil T (by rw [wide_nil] at hk; exact hk)
/-- A block of many elements, ars a slice's memory. -/
theorem RdW.slv {b k m : Nat} {kk : IntKind} {ys : List Nat} {U : TypeId} {R : List Res} (h : Find W (.blk b (LV kk ys) U) R) (hl : ys.length = k * m) : RdW c W (wide m (slv b k)) (ys.map (N kk)) := by
  have := RdW.arrAll (c := c) h hl
  have e : wide m (L.slv b k) = subA b (k * m) 0 (k * m) := by
    simp [wide, subA]
  rw [e]; exact this
theorem st_len_M {x : Operand} {s : Value} {m k : Nat} {xs : List Value} {t E : TypeId} {ts : List TypeId} (hx : ev l x = some s) (ht : P.underlying t = some (.slice E)) (hr : RdW c W (wide m s) xs) (hm : 0 < m) (hk' : xs.length = k * m)
    (hn : Nat.blt d n = true) (hk : Go c n ((d, N .i64 k) :: l) W (wpList P ops Q rest)) :
    Go c n l W (wpList P ops Q (⟨some d, .call { callee := .builtin .len, args := #[x], argTypes := (t :: ts).toArray }, T, pos, after, none⟩ :: rest)) :=
  st_val rfl rfl hn (fun a w ha hw => by
    obtain ⟨a0, cap, he, h1, h2, h3⟩ := (hr w hw).shape
    obtain ⟨c0, hs0, _⟩ := wide_shape (k := k) hm he hk'
    subst hs0
    simp [execOp, ha.ev hx, resolve, invoke, builtin, Builtin.len_, run_underlying ht, goInt]) hk
theorem st_ia_M {x y : Operand} {s : Value} {i m k : Nat} {kk : IntKind} {xs : List Value} {t E : TypeId} (hx : ev l x = some s) (hy : ev l y = some (N kk i)) (ht : P.underlying t = some (.slice E)) (hz : szOf P E = some m) (hr : RdW c W (wide m s) xs) (hm : 0 < m) (hk' : xs.length = k * m) (hi : i < k)
    (hn : Nat.blt d n = true) (hk : Go c n ((d, .pointer (some (ea (wide m s) (i * m)))) :: l) W (wpList P ops Q rest)) : Go c n l W (wpList P ops Q (⟨some d, .indexAddr t x y, T, pos, after, none⟩ :: rest)) :=
  st_val rfl rfl hn (fun a w ha hw => by
    obtain ⟨a0, cap, he, h1, h2, h3⟩ := (hr w hw).shape
    obtain ⟨c0, hs0, _⟩ := wide_shape (k := k) hm he hk'
    subst hs0
    cases a0 with
    | none =>
      obtain ⟨h, _⟩ := h2 rfl; subst h
      have : k * m = 0 := by simpa using hk'.symm
      rcases Nat.mul_eq_zero.1 this with h | h <;> omega
    | some a1 => simp [execOp, ha.ev hx, ha.ev hy, Instr.indexAt, asIntOf, run_underlying ht, hi, run_sizeOf hz, ea, wide]) hk
theorem ea_add {w : World} {s : Value} {xs : List Value} (h : Rd w s xs) (hne : 0 < xs.length) (i j : Nat) : (ea s i).add j = ea s (i + j) := by
  obtain ⟨a0, cap, rfl, h1, h2, h3⟩ := h.shape
  cases a0 with
  | none => obtain ⟨h, _⟩ := h2 rfl; subst h; simp at hne
  | some a1 =>
    have := h3 a1 rfl
    obtain ⟨b, o, sp⟩ := a1
    simp only at this; subst this
    simp only [ea, add_pt, Nat.add_assoc]
/-- An element, read whole. -/
theorem st_load_M {x : Operand} {s : Value} {kk : IntKind} {i m : Nat} {xss : List (List Nat)} {zs : List Nat} {A : TypeId} (hx : ev l x = some (.pointer (some (ea s (i * m))))) (hs : aggT P A = true) (hz : szOf P A = some m) (hr : RdW c W s (xss.flatten.map (N kk)))
    (hv : ∀ v ∈ xss, v.length = m) (hi : xss[i]? = some zs) (hm : 0 < m)
    (hn : Nat.blt d n = true) (hk : Go c n ((d, LV kk zs) :: l) W (wpList P ops Q rest)) :
    Go c n l W (wpList P ops Q (⟨some d, .load A x, T, pos, after, none⟩ :: rest)) :=
  st_val rfl rfl hn (fun a w ha hw => by
    have hzl : zs.length = m := hv zs (List.mem_of_getElem? hi)
    have hne : 0 < (xss.flatten.map (N kk)).length := by
      have hmem := List.mem_of_getElem? hi
      cases hq : xss.flatten with
      | nil =>
        have := List.flatten_eq_nil_iff.1 hq zs hmem
        subst this; simp at hzl; omega
      | cons a r => simp
    have hp := PartAt.nth hv hi
    have hl : (loadCells (ea s (i * m)) (zs.map (N kk)).length).run P w = .ok (zs.map (N kk)).toArray w :=
      run_loadCells_list (P := P) w _ (zs.map (N kk)) (fun j v hv => by
        rw [ea_add (hr w hw) hne]
        refine (hr w hw).cells _ v ?_
        rw [List.getElem?_map, Option.map_eq_some_iff] at hv
        obtain ⟨u, hu, rfl⟩ := hv
        rw [List.getElem?_map, hp.get j u hu]; rfl)
    rw [List.length_map, hzl] at hl
    simp [execOp, ha.ev hx, Instr.loadAt, Instr.sureAddr, loadVar, run_isAgg_t hs, run_sizeOf hz, hl, LV]) hk
end
end Go.Proofs.Ytbjfjkmidhfgcaa.L
namespace Go.Proofs.Ytbjfjkmidhfgcaa.L
open Go Go.Proofs
set_option maxRecDepth 100000
attribute [local irreducible] Code.wp wpList Af bodyPost L.Go
theorem PartAt.trans {α : Type} {a b c : List α} {o m o2 m2 : Nat} (h : PartAt a o m b) (h2 : PartAt b o2 m2 c) : PartAt a (o + o2) m2 c := by
  obtain ⟨x, y, rfl, rfl, _⟩ := h
  obtain ⟨u, v, rfl, rfl, hm⟩ := h2
  exact ⟨x ++ u, v ++ y, by simp, by simp, hm⟩
section
variable {P : Program} {c : Cx} {n : Nat} {l : Sl} {W : List Res} {ops : Array Oper} {Q : Exit → Act → World → Prop} {rest : List Oper}
variable {d : Nat} {T : TypeId} {pos : String} {after : Array Edge}
theorem st_fld_ea {x : Operand} {s : Value} {xs : List Value} {k o z i : Nat} {t : TypeId} (hx : ev l x = some (.pointer (some (ea s k)))) (hf : fldOf P t i = some (o, z)) (hs : Nat.blt 0 z = true)
    (hr : RdW c W s xs) (hne : 0 < xs.length) (hn : Nat.blt d n = true)
    (hk : Go c n ((d, .pointer (some (ea s (k + o)))) :: l) W (wpList P ops Q rest)) : Go c n l W (wpList P ops Q (⟨some d, .fieldAddr t x i, T, pos, after, none⟩ :: rest)) :=
  st_val rfl rfl hn (fun a w ha hw => by
    obtain ⟨fs, f, h1, h2, rfl, h4⟩ := fldOf_spec hf
    have hs0 : ¬ z = 0 := by have := Nat.le_of_ble_eq_true hs; omega
    simp [execOp, ha.ev hx, Instr.fieldAt, Instr.sureAddr, run_underlying h1, h2, fieldPlace, run_sizeOf h4, hs0, ea_add (hr w hw) hne]) hk
theorem st_load_P {x : Operand} {s : Value} {kk : IntKind} {j m : Nat} {ys zs : List Nat} {A : TypeId} (hx : ev l x = some (.pointer (some (ea s j)))) (hs : aggT P A = true) (hz : szOf P A = some m) (hr : RdW c W s (ys.map (N kk)))
    (hp : PartAt ys j m zs) (hm : 0 < m)
    (hn : Nat.blt d n = true) (hk : Go c n ((d, LV kk zs) :: l) W (wpList P ops Q rest)) :
    Go c n l W (wpList P ops Q (⟨some d, .load A x, T, pos, after, none⟩ :: rest)) :=
  st_val rfl rfl hn (fun a w ha hw => by
    have hzl : zs.length = m := by obtain ⟨_, _, _, _, h⟩ := hp; exact h
    have hne : 0 < (ys.map (N kk)).length := by
      obtain ⟨u, v, rfl, _, h⟩ := hp
      simp; omega
    have hl : (loadCells (ea s j) (zs.map (N kk)).length).run P w = .ok (zs.map (N kk)).toArray w :=
      run_loadCells_list (P := P) w _ (zs.map (N kk)) (fun i v hv => by
        rw [ea_add (hr w hw) hne]
        refine (hr w hw).cells _ v ?_
        rw [List.getElem?_map, Option.map_eq_some_iff] at hv
        obtain ⟨u, hu, rfl⟩ := hv
        rw [List.getElem?_map, hp.get i u hu]; rfl)
    rw [List.length_map, hzl] at hl
    simp [execOp, ha.ev hx, Instr.loadAt, Instr.sureAddr, loadVar, run_isAgg_t hs, run_sizeOf hz, hl, LV]) hk
end
end Go.Proofs.Ytbjfjkmidhfgcaa.L
namespace Go.Proofs.Ytbjfjkmidhfgcaa.L
open Go Go.Proofs
set_option maxRecDepth 100000
attribute [local irreducible] Code.wp wpList Af bodyPost L.Go
open Num
theorem len64_spec (x : Nat) (hx : x < 18446744073709551616) : Spec Try.prog 112 [N .u64 x] NoPre [] (IsV (N .i64 (bl x))) := by
  refine mk_spec Try.func112 rfl rfl rfl fun w _ => ?_
  repeat (first
    |refine Z01 ?_|refine Z02 ?_|refine Z03 ?_|refine Z04 ?_|refine Z05 ?_|refine Z06 ?_|refine Z07 ?_|refine Z08 ?_|refine Z09 ?_|refine Z10 ?_|refine Z11 ?_
    |refine Z12 ?_|refine Z13 ?_|refine Z14 ?_|refine Z15 ?_|refine Z17 ?_|refine Z18 ?_|refine Z42 ?_|refine Z44 ?_|refine Z45 ?_|refine Z57 ?_|refine Z70 ?_
    |refine Z74 ?_|refine Z80 ?_)
  refine st_cond (by rfl) (fun h32 => ?_) (fun h32 => ?_)
  · have e32 := bl_shift x 32 h32
    have l32 : x >>> 32 < 4294967296 := by rw [Nat.shiftRight_eq_div_pow]; omega
    repeat (first
      |refine Z01 ?_|refine Z02 ?_|refine Z03 ?_|refine Z04 ?_|refine Z05 ?_|refine Z06 ?_|refine Z07 ?_|refine Z08 ?_|refine Z09 ?_|refine Z10 ?_|refine Z11 ?_
      |refine Z12 ?_|refine Z13 ?_|refine Z14 ?_|refine Z15 ?_|refine Z17 ?_|refine Z18 ?_|refine Z42 ?_|refine Z44 ?_|refine Z45 ?_|refine Z57 ?_|refine Z70 ?_
      |refine Z74 ?_|refine Z80 ?_)
    refine st_cond (by rfl) (fun h16 => ?_) (fun h16 => ?_)
    · have e16 := bl_shift (x >>> 32) 16 h16
      have l16 : x >>> 32 >>> 16 < 65536 := by rw [Nat.shiftRight_eq_div_pow (x >>> 32)]; omega
      repeat (first
        |refine Z01 ?_|refine Z02 ?_|refine Z03 ?_|refine Z04 ?_|refine Z05 ?_|refine Z06 ?_|refine Z07 ?_|refine Z08 ?_|refine Z09 ?_|refine Z10 ?_|refine Z11 ?_
        |refine Z12 ?_|refine Z13 ?_|refine Z14 ?_|refine Z15 ?_|refine Z17 ?_|refine Z18 ?_|refine Z42 ?_|refine Z44 ?_|refine Z45 ?_|refine Z57 ?_|refine Z70 ?_
        |refine Z74 ?_|refine Z80 ?_)
      refine st_cond (by rfl) (fun h8 => ?_) (fun h8 => ?_)
      · have e8 := bl_shift (x >>> 32 >>> 16) 8 (by omega)
        have l8 : (x >>> 32 >>> 16) >>> 8 < 256 := by rw [Nat.shiftRight_eq_div_pow]; omega
        have hx8 : (x >>> 32 >>> 16) >>> 8 % 256 = (x >>> 32 >>> 16) >>> 8 := Nat.mod_eq_of_lt (by omega)
        have hbl := bl_le ((x >>> 32 >>> 16) >>> 8) 8 (by omega)
        repeat (first
          |(rw [hx8])|(refine st_index_tab bl (by rfl) (by rfl) (by rfl) (by omega) (by kernel_rfl) (by kernel_rfl) (by rfl) ?_)|refine Z01 ?_|refine Z02 ?_|refine Z03 ?_
          |refine Z04 ?_|refine Z05 ?_|refine Z06 ?_|refine Z07 ?_|refine Z08 ?_|refine Z09 ?_|refine Z10 ?_|refine Z11 ?_|refine Z12 ?_|refine Z13 ?_|refine Z14 ?_
          |refine Z15 ?_|refine Z17 ?_|refine Z18 ?_|refine Z42 ?_|refine Z44 ?_|refine Z45 ?_|refine Z57 ?_|refine Z70 ?_|refine Z74 ?_|refine Z80 ?_)
        refine Ze1 fun _ hw => post_of hw SubW.nil ⟨?_, rfl⟩
        exact congrArg (N .i64) (by omega)
      · have hx8 : x >>> 32 >>> 16 % 256 = x >>> 32 >>> 16 := Nat.mod_eq_of_lt (by omega)
        have hbl := bl_le (x >>> 32 >>> 16) 8 (by omega)
        repeat (first
          |(rw [hx8])|(refine st_index_tab bl (by rfl) (by rfl) (by rfl) (by omega) (by kernel_rfl) (by kernel_rfl) (by rfl) ?_)|refine Z01 ?_|refine Z02 ?_|refine Z03 ?_
          |refine Z04 ?_|refine Z05 ?_|refine Z06 ?_|refine Z07 ?_|refine Z08 ?_|refine Z09 ?_|refine Z10 ?_|refine Z11 ?_|refine Z12 ?_|refine Z13 ?_|refine Z14 ?_
          |refine Z15 ?_|refine Z17 ?_|refine Z18 ?_|refine Z42 ?_|refine Z44 ?_|refine Z45 ?_|refine Z57 ?_|refine Z70 ?_|refine Z74 ?_|refine Z80 ?_)
        refine Ze1 fun _ hw => post_of hw SubW.nil ⟨?_, rfl⟩
        exact congrArg (N .i64) (by omega)
    · repeat (first
        |refine Z01 ?_|refine Z02 ?_|refine Z03 ?_|refine Z04 ?_|refine Z05 ?_|refine Z06 ?_|refine Z07 ?_|refine Z08 ?_|refine Z09 ?_|refine Z10 ?_|refine Z11 ?_
        |refine Z12 ?_|refine Z13 ?_|refine Z14 ?_|refine Z15 ?_|refine Z17 ?_|refine Z18 ?_|refine Z42 ?_|refine Z44 ?_|refine Z45 ?_|refine Z57 ?_|refine Z70 ?_
        |refine Z74 ?_|refine Z80 ?_)
      refine st_cond (by rfl) (fun h8 => ?_) (fun h8 => ?_)
      · have e8 := bl_shift (x >>> 32) 8 (by omega)
        have l8 : (x >>> 32) >>> 8 < 256 := by rw [Nat.shiftRight_eq_div_pow]; omega
        have hx8 : (x >>> 32) >>> 8 % 256 = (x >>> 32) >>> 8 := Nat.mod_eq_of_lt (by omega)
        have hbl := bl_le ((x >>> 32) >>> 8) 8 (by omega)
        repeat (first
          |(rw [hx8])|(refine st_index_tab bl (by rfl) (by rfl) (by rfl) (by omega) (by kernel_rfl) (by kernel_rfl) (by rfl) ?_)|refine Z01 ?_|refine Z02 ?_|refine Z03 ?_
          |refine Z04 ?_|refine Z05 ?_|refine Z06 ?_|refine Z07 ?_|refine Z08 ?_|refine Z09 ?_|refine Z10 ?_|refine Z11 ?_|refine Z12 ?_|refine Z13 ?_|refine Z14 ?_
          |refine Z15 ?_|refine Z17 ?_|refine Z18 ?_|refine Z42 ?_|refine Z44 ?_|refine Z45 ?_|refine Z57 ?_|refine Z70 ?_|refine Z74 ?_|refine Z80 ?_)
        refine Ze1 fun _ hw => post_of hw SubW.nil ⟨?_, rfl⟩
        exact congrArg (N .i64) (by omega)
      · have hx8 : x >>> 32 % 256 = x >>> 32 := Nat.mod_eq_of_lt (by omega)
        have hbl := bl_le (x >>> 32) 8 (by omega)
        repeat (first
          |(rw [hx8])|(refine st_index_tab bl (by rfl) (by rfl) (by rfl) (by omega) (by kernel_rfl) (by kernel_rfl) (by rfl) ?_)|refine Z01 ?_|refine Z02 ?_|refine Z03 ?_
          |refine Z04 ?_|refine Z05 ?_|refine Z06 ?_|refine Z07 ?_|refine Z08 ?_|refine Z09 ?_|refine Z10 ?_|refine Z11 ?_|refine Z12 ?_|refine Z13 ?_|refine Z14 ?_
          |refine Z15 ?_|refine Z17 ?_|refine Z18 ?_|refine Z42 ?_|refine Z44 ?_|refine Z45 ?_|refine Z57 ?_|refine Z70 ?_|refine Z74 ?_|refine Z80 ?_)
        refine Ze1 fun _ hw => post_of hw SubW.nil ⟨?_, rfl⟩
        exact congrArg (N .i64) (by omega)
  · repeat (first
      |refine Z01 ?_|refine Z02 ?_|refine Z03 ?_|refine Z04 ?_|refine Z05 ?_|refine Z06 ?_|refine Z07 ?_|refine Z08 ?_|refine Z09 ?_|refine Z10 ?_|refine Z11 ?_
      |refine Z12 ?_|refine Z13 ?_|refine Z14 ?_|refine Z15 ?_|refine Z17 ?_|refine Z18 ?_|refine Z42 ?_|refine Z44 ?_|refine Z45 ?_|refine Z57 ?_|refine Z70 ?_
      |refine Z74 ?_|refine Z80 ?_)
    refine st_cond (by rfl) (fun h16 => ?_) (fun h16 => ?_)
    · have e16 := bl_shift x 16 h16
      have l16 : x >>> 16 < 65536 := by rw [Nat.shiftRight_eq_div_pow]; omega
      repeat (first
        |refine Z01 ?_|refine Z02 ?_|refine Z03 ?_|refine Z04 ?_|refine Z05 ?_|refine Z06 ?_|refine Z07 ?_|refine Z08 ?_|refine Z09 ?_|refine Z10 ?_|refine Z11 ?_
        |refine Z12 ?_|refine Z13 ?_|refine Z14 ?_|refine Z15 ?_|refine Z17 ?_|refine Z18 ?_|refine Z42 ?_|refine Z44 ?_|refine Z45 ?_|refine Z57 ?_|refine Z70 ?_
        |refine Z74 ?_|refine Z80 ?_)
      refine st_cond (by rfl) (fun h8 => ?_) (fun h8 => ?_)
      · have e8 := bl_shift (x >>> 16) 8 (by omega)
        have l8 : (x >>> 16) >>> 8 < 256 := by rw [Nat.shiftRight_eq_div_pow]; omega
        have hx8 : (x >>> 16) >>> 8 % 256 = (x >>> 16) >>> 8 := Nat.mod_eq_of_lt (by omega)
        have hbl := bl_le ((x >>> 16) >>> 8) 8 (by omega)
        repeat (first
          |(rw [hx8])|(refine st_index_tab bl (by rfl) (by rfl) (by rfl) (by omega) (by kernel_rfl) (by kernel_rfl) (by rfl) ?_)|refine Z01 ?_|refine Z02 ?_|refine Z03 ?_
          |refine Z04 ?_|refine Z05 ?_|refine Z06 ?_|refine Z07 ?_|refine Z08 ?_|refine Z09 ?_|refine Z10 ?_|refine Z11 ?_|refine Z12 ?_|refine Z13 ?_|refine Z14 ?_
          |refine Z15 ?_|refine Z17 ?_|refine Z18 ?_|refine Z42 ?_|refine Z44 ?_|refine Z45 ?_|refine Z57 ?_|refine Z70 ?_|refine Z74 ?_|refine Z80 ?_)
        refine Ze1 fun _ hw => post_of hw SubW.nil ⟨?_, rfl⟩
        exact congrArg (N .i64) (by omega)
      · have hx8 : x >>> 16 % 256 = x >>> 16 := Nat.mod_eq_of_lt (by omega)
        have hbl := bl_le (x >>> 16) 8 (by omega)
        repeat (first
          |(rw [hx8])|(refine st_index_tab bl (by rfl) (by rfl) (by rfl) (by omega) (by kernel_rfl) (by kernel_rfl) (by rfl) ?_)|refine Z01 ?_|refine Z02 ?_|refine Z03 ?_
          |refine Z04 ?_|refine Z05 ?_|refine Z06 ?_|refine Z07 ?_|refine Z08 ?_|refine Z09 ?_|refine Z10 ?_|refine Z11 ?_|refine Z12 ?_|refine Z13 ?_|refine Z14 ?_
          |refine Z15 ?_|refine Z17 ?_|refine Z18 ?_|refine Z42 ?_|refine Z44 ?_|refine Z45 ?_|refine Z57 ?_|refine Z70 ?_|refine Z74 ?_|refine Z80 ?_)
        refine Ze1 fun _ hw => post_of hw SubW.nil ⟨?_, rfl⟩
        exact congrArg (N .i64) (by omega)
    · repeat (first
        |refine Z01 ?_|refine Z02 ?_|refine Z03 ?_|refine Z04 ?_|refine Z05 ?_|refine Z06 ?_|refine Z07 ?_|refine Z08 ?_|refine Z09 ?_|refine Z10 ?_|refine Z11 ?_
        |refine Z12 ?_|refine Z13 ?_|refine Z14 ?_|refine Z15 ?_|refine Z17 ?_|refine Z18 ?_|refine Z42 ?_|refine Z44 ?_|refine Z45 ?_|refine Z57 ?_|refine Z70 ?_
        |refine Z74 ?_|refine Z80 ?_)
      refine st_cond (by rfl) (fun h8 => ?_) (fun h8 => ?_)
      · have e8 := bl_shift (x) 8 (by omega)
        have l8 : (x) >>> 8 < 256 := by rw [Nat.shiftRight_eq_div_pow]; omega
        have hx8 : (x) >>> 8 % 256 = (x) >>> 8 := Nat.mod_eq_of_lt (by omega)
        have hbl := bl_le ((x) >>> 8) 8 (by omega)
        repeat (first
          |(rw [hx8])|(refine st_index_tab bl (by rfl) (by rfl) (by rfl) (by omega) (by kernel_rfl) (by kernel_rfl) (by rfl) ?_)|refine Z01 ?_|refine Z02 ?_|refine Z03 ?_
          |refine Z04 ?_|refine Z05 ?_|refine Z06 ?_|refine Z07 ?_|refine Z08 ?_|refine Z09 ?_|refine Z10 ?_|refine Z11 ?_|refine Z12 ?_|refine Z13 ?_|refine Z14 ?_
          |refine Z15 ?_|refine Z17 ?_|refine Z18 ?_|refine Z42 ?_|refine Z44 ?_|refine Z45 ?_|refine Z57 ?_|refine Z70 ?_|refine Z74 ?_|refine Z80 ?_)
        refine Ze1 fun _ hw => post_of hw SubW.nil ⟨?_, rfl⟩
        exact congrArg (N .i64) (by omega)
      · have hx8 : x % 256 = x := Nat.mod_eq_of_lt (by omega)
        have hbl := bl_le (x) 8 (by omega)
        repeat (first
          |(rw [hx8])|(refine st_index_tab bl (by rfl) (by rfl) (by rfl) (by omega) (by kernel_rfl) (by kernel_rfl) (by rfl) ?_)|refine Z01 ?_|refine Z02 ?_|refine Z03 ?_
          |refine Z04 ?_|refine Z05 ?_|refine Z06 ?_|refine Z07 ?_|refine Z08 ?_|refine Z09 ?_|refine Z10 ?_|refine Z11 ?_|refine Z12 ?_|refine Z13 ?_|refine Z14 ?_
          |refine Z15 ?_|refine Z17 ?_|refine Z18 ?_|refine Z42 ?_|refine Z44 ?_|refine Z45 ?_|refine Z57 ?_|refine Z70 ?_|refine Z74 ?_|refine Z80 ?_)
        refine Ze1 fun _ hw => post_of hw SubW.nil ⟨?_, rfl⟩
        exact congrArg (N .i64) (by omega)
theorem lz64_spec (x : Nat) (hx : x < 18446744073709551616) : Spec Try.prog 103 [N .u64 x] NoPre [] (IsV (N .i64 (64 - bl x))) := by
  refine mk_spec Try.func103 rfl rfl rfl fun w _ => ?_
  have hb := bl_le x 64 hx
  repeat (first
    |(refine st_callV (by rfl) (by rfl) (by rfl) (len64_spec x hx) (fun _ _ => trivial) (by rfl) ?_)|refine Z01 ?_|refine Z02 ?_|refine Z03 ?_|refine Z04 ?_|refine Z05 ?_
    |refine Z06 ?_|refine Z07 ?_|refine Z08 ?_|refine Z09 ?_|refine Z10 ?_|refine Z11 ?_|refine Z12 ?_|refine Z13 ?_|refine Z14 ?_|refine Z16 ?_|refine Z71 ?_)
  refine Ze1 fun _ hw => post_of hw SubW.nil ⟨?_, rfl⟩
  rfl
end Go.Proofs.Ytbjfjkmidhfgcaa.L
namespace Go.Proofs.Ytbjfjkmidhfgcaa.L
open Go Go.Proofs
set_option maxRecDepth 100000
attribute [local irreducible] Code.wp wpList Af bodyPost L.Go
open Num
set_option maxHeartbeats 4000000 in
theorem div64_spec (hi lo y : Nat) (hy : hi < y) (hlo : lo < 18446744073709551616) (hyW : y < 18446744073709551616) :
    Spec Try.prog 94 [N .u64 hi, N .u64 lo, N .u64 y] NoPre [] (IsV (.tuple [N .u64 ((hi * 18446744073709551616 + lo) / y), N .u64 ((hi * 18446744073709551616 + lo) % y)].toArray)) := by
  refine mk_spec Try.func94 rfl rfl rfl fun w _ => ?_
  repeat (first
    |(refine st_cmp (r := false) (by rfl) (by rfl) (cmpN_f (by first | (simp only [cmpQ]; done) | (simp only [cmpQ]; omega))) (by rfl) ?_)|refine Z01 ?_|refine Z02 ?_
    |refine Z03 ?_|refine Z04 ?_|refine Z05 ?_|refine Z06 ?_|refine Z07 ?_|refine Z08 ?_|refine Z09 ?_|refine Z10 ?_|refine Z11 ?_|refine Z12 ?_|refine Z13 ?_
    |refine Z14 ?_|refine Z17 ?_|refine Z18 ?_|refine Z24 ?_|refine Z25 ?_|refine Z26 ?_|refine Z27 ?_|refine Z28 ?_|refine Z33 ?_|refine Z34 ?_|refine Z35 ?_
    |refine Z37 ?_|refine Z38 ?_|refine Z40 ?_|refine Z41 ?_|refine Z42 ?_|refine Z43 ?_|refine Z44 ?_|refine Z45 ?_|refine Z49 ?_|refine Z50 ?_|refine Z51 ?_
    |refine Z52 ?_|refine Z53 ?_|refine Z67 ?_|refine Z74 ?_|refine Z80 ?_)
  refine st_cond (by rfl) (fun h0 => ?_) (fun h0 => ?_)
  · subst h0
    repeat (first
      |refine Z01 ?_|refine Z02 ?_|refine Z03 ?_|refine Z04 ?_|refine Z05 ?_|refine Z06 ?_|refine Z07 ?_|refine Z08 ?_|refine Z09 ?_|refine Z10 ?_|refine Z11 ?_
      |refine Z12 ?_|refine Z13 ?_|refine Z14 ?_|refine Z17 ?_|refine Z18 ?_|refine Z24 ?_|refine Z25 ?_|refine Z26 ?_|refine Z27 ?_|refine Z28 ?_|refine Z33 ?_
      |refine Z34 ?_|refine Z35 ?_|refine Z37 ?_|refine Z38 ?_|refine Z40 ?_|refine Z41 ?_|refine Z42 ?_|refine Z43 ?_|refine Z44 ?_|refine Z45 ?_|refine Z49 ?_
      |refine Z50 ?_|refine Z51 ?_|refine Z52 ?_|refine Z53 ?_|refine Z67 ?_|refine Z74 ?_|refine Z80 ?_)
    refine st_draw1 (by rfl) ?_
    repeat (first
      |refine Zqf (by intro _ _ _;(first
        |(refine st_udiv (by rfl) (by rfl) (by rfl) (by omega) (by omega) (by rfl) ?_)|(refine st_umod (by rfl) (by rfl) (by omega) (by rfl) ?_)|refine Z01 ?_
        |refine Z02 ?_|refine Z17 ?_|refine Z18 ?_|refine Z33 ?_|refine Z34 ?_|refine Z35 ?_|refine Z37 ?_|refine Z38 ?_|refine Z40 ?_|refine Z41 ?_|refine Z42 ?_
        |refine Z43 ?_|refine Z44 ?_|refine Z45 ?_|refine Z49 ?_|refine Z50 ?_|refine Z74 ?_|refine Z80 ?_);exact Zq) ?_
      |refine Zqp (by intro _ _ _;(first
        |refine Z24 ?_|refine Z25 ?_|refine Z26 ?_|refine Z27 ?_|refine Z28 ?_|refine Z67 ?_);exact Zq) ?_
      |refine Zqn ?_)
    refine Zq0 ?_ (by kernel_rfl)
    repeat (first
      |refine Z01 ?_|refine Z02 ?_|refine Z03 ?_|refine Z04 ?_|refine Z05 ?_|refine Z06 ?_|refine Z07 ?_|refine Z08 ?_|refine Z09 ?_|refine Z10 ?_|refine Z11 ?_
      |refine Z12 ?_|refine Z13 ?_|refine Z14 ?_|refine Z17 ?_|refine Z18 ?_|refine Z24 ?_|refine Z25 ?_|refine Z26 ?_|refine Z27 ?_|refine Z28 ?_|refine Z33 ?_
      |refine Z34 ?_|refine Z35 ?_|refine Z37 ?_|refine Z38 ?_|refine Z40 ?_|refine Z41 ?_|refine Z42 ?_|refine Z43 ?_|refine Z44 ?_|refine Z45 ?_|refine Z49 ?_
      |refine Z50 ?_|refine Z51 ?_|refine Z52 ?_|refine Z53 ?_|refine Z67 ?_|refine Z74 ?_|refine Z80 ?_)
    refine Ze2 fun _ hw => post_of hw SubW.nil ⟨?_, rfl⟩
    rw [Nat.zero_mul, Nat.zero_add]
  obtain ⟨hb1, hb2, hb3⟩ := bl_spec y (by omega)
  have hb4 := bl_le y 64 hyW
  obtain ⟨s, hs⟩ : ∃ s, s = 64 - bl y := ⟨_, rfl⟩
  have hsl : s ≤ 63 := by omega
  obtain ⟨Y, hYs⟩ : ∃ Y, Y = y * 2 ^ s := ⟨_, rfl⟩
  have hYW : Y < 18446744073709551616 := by
    have := Nat.mul_lt_mul_of_pos_right hb1 (Nat.two_pow_pos s)
    rw [← Nat.pow_add, show bl y + s = 64 by omega] at this
    rw [hYs]; exact this
  have hYb : 9223372036854775808 ≤ Y := by
    have := Nat.mul_le_mul_right (2 ^ s) hb2
    rw [← Nat.pow_add, show bl y - 1 + s = 63 by omega] at this
    rw [hYs]; exact this
  have hYp : 0 < Y := by omega
  obtain ⟨v1, hv1⟩ : ∃ v1, v1 = Y / 4294967296 := ⟨_, rfl⟩
  obtain ⟨v0, hv0⟩ : ∃ v0, v0 = Y % 4294967296 := ⟨_, rfl⟩
  have hYv : Y = v1 * 4294967296 + v0 := by omega
  have hv1p : 0 < v1 := by omega
  have hv1l : v1 < 4294967296 := by omega
  have hv0l : v0 < 4294967296 := by omega
  obtain ⟨u, hu⟩ : ∃ u, u = hi * 2 ^ s + lo / 2 ^ (64 - s) := ⟨_, rfl⟩
  obtain ⟨u10, hu10'⟩ : ∃ u10, u10 = lo * 2 ^ s % 18446744073709551616 := ⟨_, rfl⟩
  obtain ⟨hN, huY⟩ := norm_div (s := s) hy hlo (by omega)
  rw [← hu, ← hu10'] at hN
  rw [← hu, ← hYs] at huY
  obtain ⟨u1, hu1'⟩ : ∃ u1, u1 = u10 / 4294967296 := ⟨_, rfl⟩
  obtain ⟨u0, hu0'⟩ : ∃ u0, u0 = u10 % 4294967296 := ⟨_, rfl⟩
  have hu10l : u10 < 18446744073709551616 := by rw [hu10']; exact Nat.mod_lt _ (by decide)
  have hu1 : u1 < 4294967296 := by omega
  have hu0 : u0 < 4294967296 := by omega
  have hu10 : u1 * 4294967296 + u0 = u10 := by rw [hu1', hu0', Nat.mul_comm]; exact Nat.div_add_mod _ _
  have e1 : (64 - bl y) % 18446744073709551616 = s := by omega
  have e2 : y <<< s % 18446744073709551616 = Y := by rw [Nat.shiftLeft_eq, ← hYs, Nat.mod_eq_of_lt hYW]
  have e3 : Y >>> 32 = v1 := by rw [shr32, hv1]
  have e4 : Y % 18446744073709551616 &&& 4294967295 % 18446744073709551616 = v0 := by rw [and32, hv0]
  have hlq : lo / 2 ^ (64 - s) < 2 ^ s := by
    rw [Nat.div_lt_iff_lt_mul (Nat.two_pow_pos _), ← Nat.pow_add, show s + (64 - s) = 64 by omega]; exact hlo
  have hhs : hi * 2 ^ s < 18446744073709551616 := Nat.lt_of_le_of_lt (by rw [hu]; exact Nat.le_add_right _ _) (Nat.lt_trans huY hYW)
  have e5 : (64 + (18446744073709551616 - s % 18446744073709551616)) % 18446744073709551616 = 64 - s := by omega
  have e6 : hi <<< s % 18446744073709551616 % 18446744073709551616 ||| lo >>> (64 - s) % 18446744073709551616 = u := by
    rw [Nat.shiftLeft_eq, Nat.shiftRight_eq_div_pow, Nat.mod_mod, Nat.mod_eq_of_lt hhs, Nat.mod_eq_of_lt (a := lo / 2 ^ (64 - s)) (Nat.lt_of_le_of_lt (Nat.div_le_self _ _) hlo), or_plus hlq, hu]
  have e7 : lo <<< s % 18446744073709551616 = u10 := by rw [Nat.shiftLeft_eq, hu10']
  have e8 : u10 >>> 32 = u1 := by rw [shr32, hu1']
  have e9 : u10 % 18446744073709551616 &&& 4294967295 % 18446744073709551616 = u0 := by rw [and32, hu0']
  have hwr := wrap_sub1 (a := u) (c := u / v1 * v1) (d := u % v1) (div_rem_eq _ _) (Nat.lt_trans (Nat.mod_lt _ hv1p) (by omega))
  obtain ⟨q1, hq1⟩ : ∃ q1, q1 = (u * 4294967296 + u1) / Y := ⟨_, rfl⟩
  repeat (first
    |(refine st_callV (by rfl) (by rfl) (by rfl) (lz64_spec y hyW) (fun _ _ => trivial) (by rfl) ?_)
    |(refine st_shr (by rfl) (by rfl) (show 64 - s ≤ 64 by omega) (by rfl) ?_)|(rw [e1])|(rw [e2])|(rw [e3])|(rw [e4])|(rw [e5])|(rw [e6])|(rw [e7])|(rw [e8])|(rw [e9])
    |(refine st_udiv (by rfl) (by rfl) (by rfl) hv1p (by omega) (by rfl) ?_)|(rw [hwr])
    |(refine st_block_join (ι := Unit) (fun _ => True) (fun _ => [(2, N .u64 Y), (8, N .u64 s), (9, N .u64 v1), (10, N .u64 v0), (11, N .u64 u), (13, N .u64 u1), (14, N .u64 u0), (15, N .u64 q1)]) (fun _ => []) ?_ ?_)
    |refine Z01 ?_|refine Z02 ?_|refine Z03 ?_|refine Z04 ?_|refine Z05 ?_|refine Z06 ?_|refine Z07 ?_|refine Z08 ?_|refine Z09 ?_|refine Z10 ?_|refine Z11 ?_
    |refine Z12 ?_|refine Z13 ?_|refine Z14 ?_|refine Z17 ?_|refine Z18 ?_|refine Z24 ?_|refine Z25 ?_|refine Z26 ?_|refine Z27 ?_|refine Z28 ?_|refine Z33 ?_
    |refine Z34 ?_|refine Z35 ?_|refine Z37 ?_|refine Z38 ?_|refine Z40 ?_|refine Z41 ?_|refine Z42 ?_|refine Z43 ?_|refine Z44 ?_|refine Z45 ?_|refine Z49 ?_
    |refine Z50 ?_|refine Z51 ?_|refine Z52 ?_|refine Z53 ?_|refine Z67 ?_|refine Z74 ?_|refine Z80 ?_)
  · clear e1 e2 e3 e4 e5 e6 e7 e8 e9 hwr hN hu10' hu1' hu0' hlq hhs hu hs hb1 hb2 hb3 hb4 hYs hu10 hu10l
    refine st_loop (ι := Nat × Nat) (fun p => p.1 * v1 + p.2 = u ∧ p.2 < 4294967296 ∧ (u * 4294967296 + u1) / Y ≤ p.1)
      (fun p => [(2, N .u64 Y), (8, N .u64 s), (9, N .u64 v1), (10, N .u64 v0), (11, N .u64 u), (13, N .u64 u1), (14, N .u64 u0), (15, N .u64 p.1), (16, N .u64 p.2)]) (fun p => []) (fun p => p.1) (u / v1, u % v1)
      ⟨(div_rem_eq _ _).symm, by simp only; have := Nat.mod_lt u hv1p; omega, by simp only; rw [hYv]; exact qhat_ge hv1p hu1⟩ (by repeat (first | apply subL.nil | refine subL.cons (by rfl) ?_)) (by repeat (first | apply SubW.nil | refine SubW.cons (by repeat (first | apply Find.here | apply Find.there)) ?_)) ?_
    rintro ⟨q, r⟩ ⟨hqr, hr, hqq⟩
    simp only at hqr hr hqq ⊢
    have hqle : q ≤ u := Nat.le_trans (Nat.le_mul_of_pos_right q hv1p) (by omega)
    by_cases hbig : 4294967296 ≤ q
    · have hlt := qhat_step (v0 := v0) (u1 := u1) (by rw [← hYv]; exact huY) hqr hu1 (.inl hbig)
      rw [← hYv] at hlt
      have hqpos : 0 < q := Nat.lt_of_le_of_lt (Nat.zero_le _) hlt
      have hdq := wrap_dec (q := q) hqpos (by omega)
      have hrr : (r + v1) % 18446744073709551616 = r + v1 := Nat.mod_eq_of_lt (by omega)
      have hqr' : (q - 1) * v1 + (r + v1) = u := by
        obtain ⟨k, rfl⟩ : ∃ k, q = k + 1 := ⟨q - 1, by omega⟩
        rw [Nat.add_mul, Nat.one_mul] at hqr
        simp only [Nat.add_sub_cancel]; omega
      repeat (first
        |(refine st_cmp (r := true) (by rfl) (by rfl) (cmpN_t (by first | (simp only [cmpP]; done) | (simp only [cmpP]; omega))) (by rfl) ?_)
        |(refine st_cmp (r := false) (by rfl) (by rfl) (cmpN_f (by first | (simp only [cmpQ]; done) | (simp only [cmpQ]; omega))) (by rfl) ?_)|(rw [hdq])|(rw [hrr])
        |(rw [hp2])|(rw [hp3])|refine Z01 ?_|refine Z02 ?_|refine Z03 ?_|refine Z04 ?_|refine Z05 ?_|refine Z06 ?_|refine Z07 ?_|refine Z08 ?_|refine Z09 ?_|refine Z10 ?_
        |refine Z11 ?_|refine Z12 ?_|refine Z13 ?_|refine Z14 ?_|refine Z17 ?_|refine Z18 ?_|refine Z24 ?_|refine Z25 ?_|refine Z26 ?_|refine Z27 ?_|refine Z28 ?_
        |refine Z33 ?_|refine Z34 ?_|refine Z35 ?_|refine Z37 ?_|refine Z38 ?_|refine Z40 ?_|refine Z41 ?_|refine Z42 ?_|refine Z43 ?_|refine Z44 ?_|refine Z45 ?_
        |refine Z49 ?_|refine Z50 ?_|refine Z51 ?_|refine Z52 ?_|refine Z53 ?_|refine Z67 ?_|refine Z74 ?_|refine Z80 ?_)
      refine st_cond (by rfl) (fun hbr => ?_) (fun hbr => ?_)
      · have hend : q - 1 = q1 := by rw [hq1, hYv]; rw [hYv] at hlt; exact qhat_stop (by omega) hqr' (qhat_break (by omega) (by rw [← hYv]; exact huY) hqr' hbr) (by omega)
        repeat (first
          |refine Z01 ?_|refine Z02 ?_|refine Z03 ?_|refine Z04 ?_|refine Z05 ?_|refine Z06 ?_|refine Z07 ?_|refine Z08 ?_|refine Z09 ?_|refine Z10 ?_|refine Z11 ?_
          |refine Z12 ?_|refine Z13 ?_|refine Z14 ?_|refine Z17 ?_|refine Z18 ?_|refine Z24 ?_|refine Z25 ?_|refine Z26 ?_|refine Z27 ?_|refine Z28 ?_|refine Z33 ?_
          |refine Z34 ?_|refine Z35 ?_|refine Z37 ?_|refine Z38 ?_|refine Z40 ?_|refine Z41 ?_|refine Z42 ?_|refine Z43 ?_|refine Z44 ?_|refine Z45 ?_|refine Z49 ?_
          |refine Z50 ?_|refine Z51 ?_|refine Z52 ?_|refine Z53 ?_|refine Z67 ?_|refine Z74 ?_|refine Z80 ?_)
        rw [hend]
        exact st_met () trivial (by repeat (first | apply subL.nil | refine subL.cons (by rfl) ?_)) (by repeat (first | apply SubW.nil | refine SubW.cons (by repeat (first | apply Find.here | apply Find.there)) ?_))
      · repeat (first
          |refine Z01 ?_|refine Z02 ?_|refine Z03 ?_|refine Z04 ?_|refine Z05 ?_|refine Z06 ?_|refine Z07 ?_|refine Z08 ?_|refine Z09 ?_|refine Z10 ?_|refine Z11 ?_
          |refine Z12 ?_|refine Z13 ?_|refine Z14 ?_|refine Z17 ?_|refine Z18 ?_|refine Z24 ?_|refine Z25 ?_|refine Z26 ?_|refine Z27 ?_|refine Z28 ?_|refine Z33 ?_
          |refine Z34 ?_|refine Z35 ?_|refine Z37 ?_|refine Z38 ?_|refine Z40 ?_|refine Z41 ?_|refine Z42 ?_|refine Z43 ?_|refine Z44 ?_|refine Z45 ?_|refine Z49 ?_
          |refine Z50 ?_|refine Z51 ?_|refine Z52 ?_|refine Z53 ?_|refine Z67 ?_|refine Z74 ?_|refine Z80 ?_)
        exact st_round (q - 1, r + v1) ⟨hqr', by simp only; omega, by simp only; omega⟩ (by simp only; omega) (by repeat (first | apply subL.nil | refine subL.cons (by rfl) ?_)) (by repeat (first | apply SubW.nil | refine SubW.cons (by repeat (first | apply Find.here | apply Find.there)) ?_))
    · have hp1 : q * v0 < 18446744073709551616 := Nat.lt_of_le_of_lt (Nat.mul_le_mul (show q ≤ 4294967295 by omega) (show v0 ≤ 4294967295 by omega)) (by decide)
      have hp2 : q * v0 % 18446744073709551616 = q * v0 := Nat.mod_eq_of_lt hp1
      have hp3 : (4294967296 * r % 18446744073709551616 + u1) % 18446744073709551616 = r * 4294967296 + u1 := by omega
      by_cases hc : r * 4294967296 + u1 < q * v0
      · have hlt := qhat_step (v0 := v0) (u1 := u1) (by rw [← hYv]; exact huY) hqr hu1 (.inr hc)
        rw [← hYv] at hlt
        have hqpos : 0 < q := Nat.lt_of_le_of_lt (Nat.zero_le _) hlt
        have hdq := wrap_dec (q := q) hqpos (by omega)
        have hrr : (r + v1) % 18446744073709551616 = r + v1 := Nat.mod_eq_of_lt (by omega)
        have hqr' : (q - 1) * v1 + (r + v1) = u := by
          obtain ⟨k, rfl⟩ : ∃ k, q = k + 1 := ⟨q - 1, by omega⟩
          rw [Nat.add_mul, Nat.one_mul] at hqr
          simp only [Nat.add_sub_cancel]; omega
        repeat (first
          |(refine st_cmp (r := true) (by rfl) (by rfl) (cmpN_t (by first | (simp only [cmpP]; done) | (simp only [cmpP]; omega))) (by rfl) ?_)
          |(refine st_cmp (r := false) (by rfl) (by rfl) (cmpN_f (by first | (simp only [cmpQ]; done) | (simp only [cmpQ]; omega))) (by rfl) ?_)|(rw [hdq])|(rw [hrr])
          |(rw [hp2])|(rw [hp3])|refine Z01 ?_|refine Z02 ?_|refine Z03 ?_|refine Z04 ?_|refine Z05 ?_|refine Z06 ?_|refine Z07 ?_|refine Z08 ?_|refine Z09 ?_
          |refine Z10 ?_|refine Z11 ?_|refine Z12 ?_|refine Z13 ?_|refine Z14 ?_|refine Z17 ?_|refine Z18 ?_|refine Z24 ?_|refine Z25 ?_|refine Z26 ?_|refine Z27 ?_
          |refine Z28 ?_|refine Z33 ?_|refine Z34 ?_|refine Z35 ?_|refine Z37 ?_|refine Z38 ?_|refine Z40 ?_|refine Z41 ?_|refine Z42 ?_|refine Z43 ?_|refine Z44 ?_
          |refine Z45 ?_|refine Z49 ?_|refine Z50 ?_|refine Z51 ?_|refine Z52 ?_|refine Z53 ?_|refine Z67 ?_|refine Z74 ?_|refine Z80 ?_)
        refine st_cond (by rfl) (fun hbr => ?_) (fun hbr => ?_)
        · have hend : q - 1 = q1 := by rw [hq1, hYv]; rw [hYv] at hlt; exact qhat_stop (by omega) hqr' (qhat_break (by omega) (by rw [← hYv]; exact huY) hqr' hbr) (by omega)
          repeat (first
            |refine Z01 ?_|refine Z02 ?_|refine Z03 ?_|refine Z04 ?_|refine Z05 ?_|refine Z06 ?_|refine Z07 ?_|refine Z08 ?_|refine Z09 ?_|refine Z10 ?_|refine Z11 ?_
            |refine Z12 ?_|refine Z13 ?_|refine Z14 ?_|refine Z17 ?_|refine Z18 ?_|refine Z24 ?_|refine Z25 ?_|refine Z26 ?_|refine Z27 ?_|refine Z28 ?_|refine Z33 ?_
            |refine Z34 ?_|refine Z35 ?_|refine Z37 ?_|refine Z38 ?_|refine Z40 ?_|refine Z41 ?_|refine Z42 ?_|refine Z43 ?_|refine Z44 ?_|refine Z45 ?_|refine Z49 ?_
            |refine Z50 ?_|refine Z51 ?_|refine Z52 ?_|refine Z53 ?_|refine Z67 ?_|refine Z74 ?_|refine Z80 ?_)
          rw [hend]
          exact st_met () trivial (by repeat (first | apply subL.nil | refine subL.cons (by rfl) ?_)) (by repeat (first | apply SubW.nil | refine SubW.cons (by repeat (first | apply Find.here | apply Find.there)) ?_))
        · repeat (first
            |refine Z01 ?_|refine Z02 ?_|refine Z03 ?_|refine Z04 ?_|refine Z05 ?_|refine Z06 ?_|refine Z07 ?_|refine Z08 ?_|refine Z09 ?_|refine Z10 ?_|refine Z11 ?_
            |refine Z12 ?_|refine Z13 ?_|refine Z14 ?_|refine Z17 ?_|refine Z18 ?_|refine Z24 ?_|refine Z25 ?_|refine Z26 ?_|refine Z27 ?_|refine Z28 ?_|refine Z33 ?_
            |refine Z34 ?_|refine Z35 ?_|refine Z37 ?_|refine Z38 ?_|refine Z40 ?_|refine Z41 ?_|refine Z42 ?_|refine Z43 ?_|refine Z44 ?_|refine Z45 ?_|refine Z49 ?_
            |refine Z50 ?_|refine Z51 ?_|refine Z52 ?_|refine Z53 ?_|refine Z67 ?_|refine Z74 ?_|refine Z80 ?_)
          exact st_round (q - 1, r + v1) ⟨hqr', by simp only; omega, by simp only; omega⟩ (by simp only; omega) (by repeat (first | apply subL.nil | refine subL.cons (by rfl) ?_)) (by repeat (first | apply SubW.nil | refine SubW.cons (by repeat (first | apply Find.here | apply Find.there)) ?_))
      · have hend : q = q1 := by rw [hq1, hYv]; rw [hYv] at hqq; exact qhat_stop (by omega) hqr (by omega) hqq
        repeat (first
          |(refine st_cmp (r := false) (by rfl) (by rfl) (cmpN_f (by first | (simp only [cmpQ]; done) | (simp only [cmpQ]; omega))) (by rfl) ?_)|(rw [hp2])|(rw [hp3])
          |refine Z01 ?_|refine Z02 ?_|refine Z03 ?_|refine Z04 ?_|refine Z05 ?_|refine Z06 ?_|refine Z07 ?_|refine Z08 ?_|refine Z09 ?_|refine Z10 ?_|refine Z11 ?_
          |refine Z12 ?_|refine Z13 ?_|refine Z14 ?_|refine Z17 ?_|refine Z18 ?_|refine Z24 ?_|refine Z25 ?_|refine Z26 ?_|refine Z27 ?_|refine Z28 ?_|refine Z33 ?_
          |refine Z34 ?_|refine Z35 ?_|refine Z37 ?_|refine Z38 ?_|refine Z40 ?_|refine Z41 ?_|refine Z42 ?_|refine Z43 ?_|refine Z44 ?_|refine Z45 ?_|refine Z49 ?_
          |refine Z50 ?_|refine Z51 ?_|refine Z52 ?_|refine Z53 ?_|refine Z67 ?_|refine Z74 ?_|refine Z80 ?_)
        rw [hend]
        exact st_met () trivial (by repeat (first | apply subL.nil | refine subL.cons (by rfl) ?_)) (by repeat (first | apply SubW.nil | refine SubW.cons (by repeat (first | apply Find.here | apply Find.there)) ?_))
  intro _ _
  clear e1 e2 e3 e4 e5 e6 e7 e8 e9 hwr
  have hq1l : q1 < 4294967296 := by rw [hq1]; exact qhat_lt huY hu1
  obtain ⟨un21, hun21⟩ : ∃ z, z = (u * 4294967296 + u1) % Y := ⟨_, rfl⟩
  have h21Y : un21 < Y := by rw [hun21]; exact Nat.mod_lt _ hYp
  have hw21 := wrap_sub (a := u * 4294967296) (b := u1) (c := q1 * Y) (d := un21) (by rw [hq1, hun21]; exact div_rem_eq _ _) (by omega)
  have hd1 : un21 / v1 < 18446744073709551616 := Nat.lt_of_le_of_lt (Nat.div_le_self _ _) (by omega)
  have hwr := wrap_sub1 (a := un21) (c := un21 / v1 * v1) (d := un21 % v1) (div_rem_eq _ _) (Nat.lt_trans (Nat.mod_lt _ hv1p) (by omega))
  obtain ⟨q0, hq0⟩ : ∃ q0, q0 = (un21 * 4294967296 + u0) / Y := ⟨_, rfl⟩
  repeat (first
    |(rw [hw21])|(refine st_udiv (by rfl) (by rfl) (by rfl) hv1p (by omega) (by rfl) ?_)|(rw [hwr])
    |(refine st_block_join (ι := Unit) (fun _ => True) (fun _ => [(2, N .u64 Y), (8, N .u64 s), (14, N .u64 u0), (15, N .u64 q1), (17, N .u64 un21), (18, N .u64 q0)]) (fun _ => []) ?_ ?_)
    |refine Z01 ?_|refine Z02 ?_|refine Z03 ?_|refine Z04 ?_|refine Z05 ?_|refine Z06 ?_|refine Z07 ?_|refine Z08 ?_|refine Z09 ?_|refine Z10 ?_|refine Z11 ?_
    |refine Z12 ?_|refine Z13 ?_|refine Z14 ?_|refine Z17 ?_|refine Z18 ?_|refine Z24 ?_|refine Z25 ?_|refine Z26 ?_|refine Z27 ?_|refine Z28 ?_|refine Z33 ?_
    |refine Z34 ?_|refine Z35 ?_|refine Z37 ?_|refine Z38 ?_|refine Z40 ?_|refine Z41 ?_|refine Z42 ?_|refine Z43 ?_|refine Z44 ?_|refine Z45 ?_|refine Z49 ?_
    |refine Z50 ?_|refine Z51 ?_|refine Z52 ?_|refine Z53 ?_|refine Z67 ?_|refine Z74 ?_|refine Z80 ?_)
  · clear hwr hN hu10' hu1' hu0' hlq hhs hu hs hb1 hb2 hb3 hb4 hYs hu10 hu10l hq1 hun21 hw21 huY
    refine st_loop (ι := Nat × Nat) (fun p => p.1 * v1 + p.2 = un21 ∧ p.2 < 4294967296 ∧ (un21 * 4294967296 + u0) / Y ≤ p.1)
      (fun p => [(2, N .u64 Y), (8, N .u64 s), (9, N .u64 v1), (10, N .u64 v0), (14, N .u64 u0), (15, N .u64 q1), (16, N .u64 p.2), (17, N .u64 un21), (18, N .u64 p.1)]) (fun p => []) (fun p => p.1) (un21 / v1, un21 % v1)
      ⟨(div_rem_eq _ _).symm, by simp only; have := Nat.mod_lt un21 hv1p; omega, by simp only; rw [hYv]; exact qhat_ge hv1p hu0⟩ (by repeat (first | apply subL.nil | refine subL.cons (by rfl) ?_)) (by repeat (first | apply SubW.nil | refine SubW.cons (by repeat (first | apply Find.here | apply Find.there)) ?_)) ?_
    rintro ⟨q, r⟩ ⟨hqr, hr, hqq⟩
    simp only at hqr hr hqq ⊢
    have hqle : q ≤ un21 := Nat.le_trans (Nat.le_mul_of_pos_right q hv1p) (by omega)
    by_cases hbig : 4294967296 ≤ q
    · have hlt := qhat_step (v0 := v0) (u1 := u0) (by rw [← hYv]; exact h21Y) hqr hu0 (.inl hbig)
      rw [← hYv] at hlt
      have hqpos : 0 < q := Nat.lt_of_le_of_lt (Nat.zero_le _) hlt
      have hdq := wrap_dec (q := q) hqpos (by omega)
      have hrr : (r + v1) % 18446744073709551616 = r + v1 := Nat.mod_eq_of_lt (by omega)
      have hqr' : (q - 1) * v1 + (r + v1) = un21 := by
        obtain ⟨k, rfl⟩ : ∃ k, q = k + 1 := ⟨q - 1, by omega⟩
        rw [Nat.add_mul, Nat.one_mul] at hqr
        simp only [Nat.add_sub_cancel]; omega
      repeat (first
        |(refine st_cmp (r := true) (by rfl) (by rfl) (cmpN_t (by first | (simp only [cmpP]; done) | (simp only [cmpP]; omega))) (by rfl) ?_)
        |(refine st_cmp (r := false) (by rfl) (by rfl) (cmpN_f (by first | (simp only [cmpQ]; done) | (simp only [cmpQ]; omega))) (by rfl) ?_)|(rw [hdq])|(rw [hrr])
        |(rw [hp2])|(rw [hp3])|refine Z01 ?_|refine Z02 ?_|refine Z03 ?_|refine Z04 ?_|refine Z05 ?_|refine Z06 ?_|refine Z07 ?_|refine Z08 ?_|refine Z09 ?_|refine Z10 ?_
        |refine Z11 ?_|refine Z12 ?_|refine Z13 ?_|refine Z14 ?_|refine Z17 ?_|refine Z18 ?_|refine Z24 ?_|refine Z25 ?_|refine Z26 ?_|refine Z27 ?_|refine Z28 ?_
        |refine Z33 ?_|refine Z34 ?_|refine Z35 ?_|refine Z37 ?_|refine Z38 ?_|refine Z40 ?_|refine Z41 ?_|refine Z42 ?_|refine Z43 ?_|refine Z44 ?_|refine Z45 ?_
        |refine Z49 ?_|refine Z50 ?_|refine Z51 ?_|refine Z52 ?_|refine Z53 ?_|refine Z67 ?_|refine Z74 ?_|refine Z80 ?_)
      refine st_cond (by rfl) (fun hbr => ?_) (fun hbr => ?_)
      · have hend : q - 1 = q0 := by rw [hq0, hYv]; rw [hYv] at hlt; exact qhat_stop (by omega) hqr' (qhat_break (by omega) (by rw [← hYv]; exact h21Y) hqr' hbr) (by omega)
        repeat (first
          |refine Z01 ?_|refine Z02 ?_|refine Z03 ?_|refine Z04 ?_|refine Z05 ?_|refine Z06 ?_|refine Z07 ?_|refine Z08 ?_|refine Z09 ?_|refine Z10 ?_|refine Z11 ?_
          |refine Z12 ?_|refine Z13 ?_|refine Z14 ?_|refine Z17 ?_|refine Z18 ?_|refine Z24 ?_|refine Z25 ?_|refine Z26 ?_|refine Z27 ?_|refine Z28 ?_|refine Z33 ?_
          |refine Z34 ?_|refine Z35 ?_|refine Z37 ?_|refine Z38 ?_|refine Z40 ?_|refine Z41 ?_|refine Z42 ?_|refine Z43 ?_|refine Z44 ?_|refine Z45 ?_|refine Z49 ?_
          |refine Z50 ?_|refine Z51 ?_|refine Z52 ?_|refine Z53 ?_|refine Z67 ?_|refine Z74 ?_|refine Z80 ?_)
        rw [hend]
        exact st_met () trivial (by repeat (first | apply subL.nil | refine subL.cons (by rfl) ?_)) (by repeat (first | apply SubW.nil | refine SubW.cons (by repeat (first | apply Find.here | apply Find.there)) ?_))
      · repeat (first
          |refine Z01 ?_|refine Z02 ?_|refine Z03 ?_|refine Z04 ?_|refine Z05 ?_|refine Z06 ?_|refine Z07 ?_|refine Z08 ?_|refine Z09 ?_|refine Z10 ?_|refine Z11 ?_
          |refine Z12 ?_|refine Z13 ?_|refine Z14 ?_|refine Z17 ?_|refine Z18 ?_|refine Z24 ?_|refine Z25 ?_|refine Z26 ?_|refine Z27 ?_|refine Z28 ?_|refine Z33 ?_
          |refine Z34 ?_|refine Z35 ?_|refine Z37 ?_|refine Z38 ?_|refine Z40 ?_|refine Z41 ?_|refine Z42 ?_|refine Z43 ?_|refine Z44 ?_|refine Z45 ?_|refine Z49 ?_
          |refine Z50 ?_|refine Z51 ?_|refine Z52 ?_|refine Z53 ?_|refine Z67 ?_|refine Z74 ?_|refine Z80 ?_)
        exact st_round (q - 1, r + v1) ⟨hqr', by simp only; omega, by simp only; omega⟩ (by simp only; omega) (by repeat (first | apply subL.nil | refine subL.cons (by rfl) ?_)) (by repeat (first | apply SubW.nil | refine SubW.cons (by repeat (first | apply Find.here | apply Find.there)) ?_))
    · have hp1 : q * v0 < 18446744073709551616 := Nat.lt_of_le_of_lt (Nat.mul_le_mul (show q ≤ 4294967295 by omega) (show v0 ≤ 4294967295 by omega)) (by decide)
      have hp2 : q * v0 % 18446744073709551616 = q * v0 := Nat.mod_eq_of_lt hp1
      have hp3 : (4294967296 * r % 18446744073709551616 + u0) % 18446744073709551616 = r * 4294967296 + u0 := by omega
      by_cases hc : r * 4294967296 + u0 < q * v0
      · have hlt := qhat_step (v0 := v0) (u1 := u0) (by rw [← hYv]; exact h21Y) hqr hu0 (.inr hc)
        rw [← hYv] at hlt
        have hqpos : 0 < q := Nat.lt_of_le_of_lt (Nat.zero_le _) hlt
        have hdq := wrap_dec (q := q) hqpos (by omega)
        have hrr : (r + v1) % 18446744073709551616 = r + v1 := Nat.mod_eq_of_lt (by omega)
        have hqr' : (q - 1) * v1 + (r + v1) = un21 := by
          obtain ⟨k, rfl⟩ : ∃ k, q = k + 1 := ⟨q - 1, by omega⟩
          rw [Nat.add_mul, Nat.one_mul] at hqr
          simp only [Nat.add_sub_cancel]; omega
        repeat (first
          |(refine st_cmp (r := true) (by rfl) (by rfl) (cmpN_t (by first | (simp only [cmpP]; done) | (simp only [cmpP]; omega))) (by rfl) ?_)
          |(refine st_cmp (r := false) (by rfl) (by rfl) (cmpN_f (by first | (simp only [cmpQ]; done) | (simp only [cmpQ]; omega))) (by rfl) ?_)|(rw [hdq])|(rw [hrr])
          |(rw [hp2])|(rw [hp3])|refine Z01 ?_|refine Z02 ?_|refine Z03 ?_|refine Z04 ?_|refine Z05 ?_|refine Z06 ?_|refine Z07 ?_|refine Z08 ?_|refine Z09 ?_
          |refine Z10 ?_|refine Z11 ?_|refine Z12 ?_|refine Z13 ?_|refine Z14 ?_|refine Z17 ?_|refine Z18 ?_|refine Z24 ?_|refine Z25 ?_|refine Z26 ?_|refine Z27 ?_
          |refine Z28 ?_|refine Z33 ?_|refine Z34 ?_|refine Z35 ?_|refine Z37 ?_|refine Z38 ?_|refine Z40 ?_|refine Z41 ?_|refine Z42 ?_|refine Z43 ?_|refine Z44 ?_
          |refine Z45 ?_|refine Z49 ?_|refine Z50 ?_|refine Z51 ?_|refine Z52 ?_|refine Z53 ?_|refine Z67 ?_|refine Z74 ?_|refine Z80 ?_)
        refine st_cond (by rfl) (fun hbr => ?_) (fun hbr => ?_)
        · have hend : q - 1 = q0 := by rw [hq0, hYv]; rw [hYv] at hlt; exact qhat_stop (by omega) hqr' (qhat_break (by omega) (by rw [← hYv]; exact h21Y) hqr' hbr) (by omega)
          repeat (first
            |refine Z01 ?_|refine Z02 ?_|refine Z03 ?_|refine Z04 ?_|refine Z05 ?_|refine Z06 ?_|refine Z07 ?_|refine Z08 ?_|refine Z09 ?_|refine Z10 ?_|refine Z11 ?_
            |refine Z12 ?_|refine Z13 ?_|refine Z14 ?_|refine Z17 ?_|refine Z18 ?_|refine Z24 ?_|refine Z25 ?_|refine Z26 ?_|refine Z27 ?_|refine Z28 ?_|refine Z33 ?_
            |refine Z34 ?_|refine Z35 ?_|refine Z37 ?_|refine Z38 ?_|refine Z40 ?_|refine Z41 ?_|refine Z42 ?_|refine Z43 ?_|refine Z44 ?_|refine Z45 ?_|refine Z49 ?_
            |refine Z50 ?_|refine Z51 ?_|refine Z52 ?_|refine Z53 ?_|refine Z67 ?_|refine Z74 ?_|refine Z80 ?_)
          rw [hend]
          exact st_met () trivial (by repeat (first | apply subL.nil | refine subL.cons (by rfl) ?_)) (by repeat (first | apply SubW.nil | refine SubW.cons (by repeat (first | apply Find.here | apply Find.there)) ?_))
        · repeat (first
            |refine Z01 ?_|refine Z02 ?_|refine Z03 ?_|refine Z04 ?_|refine Z05 ?_|refine Z06 ?_|refine Z07 ?_|refine Z08 ?_|refine Z09 ?_|refine Z10 ?_|refine Z11 ?_
            |refine Z12 ?_|refine Z13 ?_|refine Z14 ?_|refine Z17 ?_|refine Z18 ?_|refine Z24 ?_|refine Z25 ?_|refine Z26 ?_|refine Z27 ?_|refine Z28 ?_|refine Z33 ?_
            |refine Z34 ?_|refine Z35 ?_|refine Z37 ?_|refine Z38 ?_|refine Z40 ?_|refine Z41 ?_|refine Z42 ?_|refine Z43 ?_|refine Z44 ?_|refine Z45 ?_|refine Z49 ?_
            |refine Z50 ?_|refine Z51 ?_|refine Z52 ?_|refine Z53 ?_|refine Z67 ?_|refine Z74 ?_|refine Z80 ?_)
          exact st_round (q - 1, r + v1) ⟨hqr', by simp only; omega, by simp only; omega⟩ (by simp only; omega) (by repeat (first | apply subL.nil | refine subL.cons (by rfl) ?_)) (by repeat (first | apply SubW.nil | refine SubW.cons (by repeat (first | apply Find.here | apply Find.there)) ?_))
      · have hend : q = q0 := by rw [hq0, hYv]; rw [hYv] at hqq; exact qhat_stop (by omega) hqr (by omega) hqq
        repeat (first
          |(refine st_cmp (r := false) (by rfl) (by rfl) (cmpN_f (by first | (simp only [cmpQ]; done) | (simp only [cmpQ]; omega))) (by rfl) ?_)|(rw [hp2])|(rw [hp3])
          |refine Z01 ?_|refine Z02 ?_|refine Z03 ?_|refine Z04 ?_|refine Z05 ?_|refine Z06 ?_|refine Z07 ?_|refine Z08 ?_|refine Z09 ?_|refine Z10 ?_|refine Z11 ?_
          |refine Z12 ?_|refine Z13 ?_|refine Z14 ?_|refine Z17 ?_|refine Z18 ?_|refine Z24 ?_|refine Z25 ?_|refine Z26 ?_|refine Z27 ?_|refine Z28 ?_|refine Z33 ?_
          |refine Z34 ?_|refine Z35 ?_|refine Z37 ?_|refine Z38 ?_|refine Z40 ?_|refine Z41 ?_|refine Z42 ?_|refine Z43 ?_|refine Z44 ?_|refine Z45 ?_|refine Z49 ?_
          |refine Z50 ?_|refine Z51 ?_|refine Z52 ?_|refine Z53 ?_|refine Z67 ?_|refine Z74 ?_|refine Z80 ?_)
        rw [hend]
        exact st_met () trivial (by repeat (first | apply subL.nil | refine subL.cons (by rfl) ?_)) (by repeat (first | apply SubW.nil | refine SubW.cons (by repeat (first | apply Find.here | apply Find.there)) ?_))
  intro _ _
  have hr2 := wrap_sub (a := un21 * 4294967296) (b := u0) (c := q0 * Y) (d := (un21 * 4294967296 + u0) % Y) (by rw [hq0]; exact div_rem_eq _ _) (Nat.lt_trans (Nat.mod_lt _ hYp) hYW)
  have hQ0 : q0 < 4294967296 := by rw [hq0]; exact qhat_lt h21Y hu0
  have hqq : q1 * 4294967296 % 18446744073709551616 = q1 * 4294967296 := Nat.mod_eq_of_lt (by omega)
  have hqs : (q1 * 4294967296 + q0) % 18446744073709551616 = q1 * 4294967296 + q0 := Nat.mod_eq_of_lt (by omega)
  repeat (first
    |(rw [hr2])|(rw [hqq])|(rw [hqs])|(refine st_shr (by rfl) (by rfl) (show s ≤ 64 by omega) (by rfl) ?_)|refine Z01 ?_|refine Z02 ?_|refine Z03 ?_|refine Z04 ?_
    |refine Z05 ?_|refine Z06 ?_|refine Z07 ?_|refine Z08 ?_|refine Z09 ?_|refine Z10 ?_|refine Z11 ?_|refine Z12 ?_|refine Z13 ?_|refine Z14 ?_|refine Z17 ?_
    |refine Z18 ?_|refine Z24 ?_|refine Z25 ?_|refine Z26 ?_|refine Z27 ?_|refine Z28 ?_|refine Z33 ?_|refine Z34 ?_|refine Z35 ?_|refine Z37 ?_|refine Z38 ?_
    |refine Z40 ?_|refine Z41 ?_|refine Z42 ?_|refine Z43 ?_|refine Z44 ?_|refine Z45 ?_|refine Z49 ?_|refine Z50 ?_|refine Z51 ?_|refine Z52 ?_|refine Z53 ?_
    |refine Z67 ?_|refine Z74 ?_|refine Z80 ?_)
  refine Ze2 fun _ hw => post_of hw SubW.nil ⟨?_, rfl⟩
  obtain ⟨g1, g2⟩ := div_two (u := u) (u1 := u1) (u0 := u0) hYp
  rw [← hq1, ← hun21] at g1
  rw [← hun21] at g2
  rw [← hq0] at g1
  rw [hu10, hN, hYs, Nat.mul_div_mul_right _ _ (Nat.two_pow_pos s)] at g1
  rw [hu10, hN, hYs, Nat.mul_mod_mul_right] at g2
  rw [g1, hYs, g2, Nat.shiftRight_eq_div_pow, Nat.mul_div_cancel _ (Nat.two_pow_pos s)]
end Go.Proofs.Ytbjfjkmidhfgcaa.L
namespace Go.Proofs.Ytbjfjkmidhfgcaa.L
open Go Go.Proofs
set_option maxRecDepth 100000
attribute [local irreducible] Code.wp wpList Af bodyPost L.Go
open Num
attribute [local simp] D_len
set_option maxHeartbeats 4000000 in
theorem take_spec (sl sm : Value) (T : TypeId) (ls0 ms : List Nat) (L n M : Nat) (hls0 : Lt 18446744073709551616 ls0) (hL0 : ls0.length = L) (hm : Lt 18446744073709551616 ms) (hml : ms.length = n) (hn : 0 < n) (hnL : n < L) (hLb : L < 16777216) (hmv' : V ms = M)
    (htop : ms.getD (n - 1) 0 ≠ 0) (hX0W : V ls0 < Num.W * M) :
    Spec Try.prog 77 [sl, sm, N .i64 n] (fun w => RdC ⟨w, fps [.sl sl (ls0.map (N .u64)) T]⟩ sm (ms.map (N .u64))) [.sl sl (ls0.map (N .u64)) T]
      (fun _ Wr => Wr = [.sl sl ((D L (V ls0 % M)).map (N .u64)) T]) := by
  refine mk_spec Try.func77 rfl rfl rfl fun w hrm => ?_
  have hMlo : Num.W ^ (n - 1) ≤ M := by rw [← hmv']; exact ge_top hm htop
  have hMp : 0 < M := Nat.lt_of_lt_of_le (W_pow_pos _) hMlo
  have hMhi : M < Num.W ^ n := by rw [← hmv', ← hml]; exact V_lt hm
  repeat (first
    |(refine st_scope0 ?_)|(refine st_label ?_)|refine Z01 ?_|refine Z02 ?_|refine Z03 ?_|refine Z04 ?_|refine Z05 ?_|refine Z06 ?_|refine Z07 ?_|refine Z08 ?_
    |refine Z09 ?_|refine Z10 ?_|refine Z11 ?_|refine Z12 ?_|refine Z13 ?_|refine Z14 ?_|refine Z15 ?_|refine Z16 ?_|refine Z17 ?_|refine Z18 ?_|refine Z19 ?_
    |refine Z20 ?_|refine Z21 ?_|refine Z22 ?_|refine Z23 ?_|refine Z24 ?_|refine Z25 ?_|refine Z26 ?_|refine Z27 ?_|refine Z28 ?_|refine Z29 ?_|refine Z30 ?_
    |refine Z31 ?_|refine Z32 ?_|refine Z33 ?_|refine Z58 ?_|refine Z59 ?_|refine Z60 ?_|refine Z67 ?_|refine Z70 ?_|refine Z71 ?_)
  refine st_loop (ι := List Nat) (fun ls => ls.length = L ∧ Lt 18446744073709551616 ls ∧ V ls % M = V ls0 % M ∧ V ls < Num.W * M) (fun ls => [(0, sl), (1, sm), (2, N .i64 n)]) (fun ls => [.sl sl (ls.map (N .u64)) T]) (fun ls => V ls) ls0 ⟨hL0, hls0, rfl, hX0W⟩ (by repeat (first | apply subL.nil | refine subL.cons (by rfl) ?_)) (by repeat (first | apply SubW.nil | refine SubW.cons (by repeat (first | apply Find.here | apply Find.there)) ?_)) ?_
  rintro ls ⟨hL, hls, hX0, hXW⟩
  obtain ⟨X, hX⟩ : ∃ X, V ls = X := ⟨_, rfl⟩
  rw [hX] at hX0 hXW
  repeat (first
    |(refine st_label ?_)
    |(refine st_callV (by rfl) (by rfl) (by rfl) (cmp_spec sl sm ls ms hls hm (by omega) (by omega)) (fun w hw => ⟨RdW.own (by repeat (first | apply Find.here | apply Find.there)) w hw, RdW.old hrm w hw⟩) (by rfl) ?_)
    |refine Z01 ?_|refine Z02 ?_|refine Z03 ?_|refine Z04 ?_|refine Z05 ?_|refine Z06 ?_|refine Z07 ?_|refine Z08 ?_|refine Z09 ?_|refine Z10 ?_|refine Z11 ?_
    |refine Z12 ?_|refine Z13 ?_|refine Z14 ?_|refine Z15 ?_|refine Z16 ?_|refine Z17 ?_|refine Z18 ?_|refine Z19 ?_|refine Z20 ?_|refine Z21 ?_|refine Z22 ?_
    |refine Z23 ?_|refine Z24 ?_|refine Z25 ?_|refine Z26 ?_|refine Z27 ?_|refine Z28 ?_|refine Z29 ?_|refine Z30 ?_|refine Z31 ?_|refine Z32 ?_|refine Z33 ?_
    |refine Z58 ?_|refine Z59 ?_|refine Z60 ?_|refine Z67 ?_|refine Z70 ?_|refine Z71 ?_)
  rw [hX, hmv']
  refine st_cond (by rfl) (fun hge => ?_) (fun hlt => ?_)
  · have hge : M ≤ X := by
      rcases Nat.lt_or_ge X M with h | h
      · rw [ord3_lt h] at hge; exact absurd hge (by decide)
      · exact h
    have hone : 1 * M ≤ X := by omega
    have htb := hm.getD (by decide) (n - 1)
    have htl : n - 1 < ms.length := by omega
    have hnl : n < ls.length := by omega
    have hn1 : n - 1 < ls.length := by omega
    have hlb := hls.getD (by decide) n
    have hlb1 := hls.getD (by decide) (n - 1)
    have hlv := V_getD hls n
    have hlv1 := V_getD hls (n - 1)
    have hmt := V_getD hm (n - 1)
    rw [hX] at hlv hlv1
    rw [hmv'] at hmt
    have hMtop : M < (ms.getD (n - 1) 0 + 1) * Num.W ^ (n - 1) := by rw [hmt]; exact top_word (by rw [show n - 1 + 1 = n by omega]; exact hMhi)
    have hB1 : True := trivial
    repeat (first
      |((refine st_block ?_; clear hB1))
      |(refine st_block_join (ι := Nat) (fun q => q * M ≤ X ∧ q < 18446744073709551616) (fun q => [(0, sl), (1, sm), (2, N .i64 n), (6, N .u64 q)]) (fun _ => [.sl sl (ls.map (N .u64)) T]) ?_ ?_)
      |refine Z01 ?_|refine Z02 ?_|refine Z03 ?_|refine Z04 ?_|refine Z05 ?_|refine Z06 ?_|refine Z07 ?_|refine Z08 ?_|refine Z09 ?_|refine Z10 ?_|refine Z11 ?_
      |refine Z12 ?_|refine Z13 ?_|refine Z14 ?_|refine Z15 ?_|refine Z16 ?_|refine Z17 ?_|refine Z18 ?_|refine Z19 ?_|refine Z20 ?_|refine Z21 ?_|refine Z22 ?_
      |refine Z23 ?_|refine Z24 ?_|refine Z25 ?_|refine Z26 ?_|refine Z27 ?_|refine Z28 ?_|refine Z29 ?_|refine Z30 ?_|refine Z31 ?_|refine Z32 ?_|refine Z33 ?_
      |refine Z58 ?_|refine Z59 ?_|refine Z60 ?_|refine Z67 ?_|refine Z70 ?_|refine Z71 ?_)
    · repeat (first
        |refine Z01 ?_|refine Z02 ?_|refine Z03 ?_|refine Z04 ?_|refine Z05 ?_|refine Z06 ?_|refine Z07 ?_|refine Z08 ?_|refine Z09 ?_|refine Z10 ?_|refine Z11 ?_
        |refine Z12 ?_|refine Z13 ?_|refine Z14 ?_|refine Z15 ?_|refine Z16 ?_|refine Z17 ?_|refine Z18 ?_|refine Z19 ?_|refine Z20 ?_|refine Z21 ?_|refine Z22 ?_
        |refine Z23 ?_|refine Z24 ?_|refine Z25 ?_|refine Z26 ?_|refine Z27 ?_|refine Z28 ?_|refine Z29 ?_|refine Z30 ?_|refine Z31 ?_|refine Z32 ?_|refine Z33 ?_
        |refine Z58 ?_|refine Z59 ?_|refine Z60 ?_|refine Z67 ?_|refine Z70 ?_|refine Z71 ?_)
      refine st_cond (by rfl) (fun h0 => ?_) (fun h0 => ?_)
      · repeat (first
          |refine Z01 ?_|refine Z02 ?_|refine Z03 ?_|refine Z04 ?_|refine Z05 ?_|refine Z06 ?_|refine Z07 ?_|refine Z08 ?_|refine Z09 ?_|refine Z10 ?_|refine Z11 ?_
          |refine Z12 ?_|refine Z13 ?_|refine Z14 ?_|refine Z15 ?_|refine Z16 ?_|refine Z17 ?_|refine Z18 ?_|refine Z19 ?_|refine Z20 ?_|refine Z21 ?_|refine Z22 ?_
          |refine Z23 ?_|refine Z24 ?_|refine Z25 ?_|refine Z26 ?_|refine Z27 ?_|refine Z28 ?_|refine Z29 ?_|refine Z30 ?_|refine Z31 ?_|refine Z32 ?_|refine Z33 ?_
          |refine Z58 ?_|refine Z59 ?_|refine Z60 ?_|refine Z67 ?_|refine Z70 ?_|refine Z71 ?_)
        exact st_met (ls.getD n 0) ⟨by rw [hlv]; exact Nat.le_trans (Nat.mul_le_mul (Nat.mod_le _ _) (Nat.le_of_lt hMhi)) (Nat.div_mul_le_self _ _), hlb⟩ (by repeat (first | apply subL.nil | refine subL.cons (by rfl) ?_)) (by repeat (first | apply SubW.nil | refine SubW.cons (by repeat (first | apply Find.here | apply Find.there)) ?_))
      · have ht1 : (ms.getD (n - 1) 0 + 1) % 18446744073709551616 = ms.getD (n - 1) 0 + 1 := by omega
        repeat (first
          |(rw [ht1])|refine Z01 ?_|refine Z02 ?_|refine Z03 ?_|refine Z04 ?_|refine Z05 ?_|refine Z06 ?_|refine Z07 ?_|refine Z08 ?_|refine Z09 ?_|refine Z10 ?_
          |refine Z11 ?_|refine Z12 ?_|refine Z13 ?_|refine Z14 ?_|refine Z15 ?_|refine Z16 ?_|refine Z17 ?_|refine Z18 ?_|refine Z19 ?_|refine Z20 ?_|refine Z21 ?_
          |refine Z22 ?_|refine Z23 ?_|refine Z24 ?_|refine Z25 ?_|refine Z26 ?_|refine Z27 ?_|refine Z28 ?_|refine Z29 ?_|refine Z30 ?_|refine Z31 ?_|refine Z32 ?_
          |refine Z33 ?_|refine Z58 ?_|refine Z59 ?_|refine Z60 ?_|refine Z67 ?_|refine Z70 ?_|refine Z71 ?_)
        refine st_cond (by rfl) (fun h1 => ?_) (fun h1 => ?_)
        · have hqb := quo_lt h1 hlb1
          have hq2 : (ls.getD n 0 * 18446744073709551616 + ls.getD (n - 1) 0) / (ms.getD (n - 1) 0 + 1) * M ≤ X := by
            refine qM_le_two (n := n - 1) hMtop ?_
            have := two_words X (n - 1)
            rw [show n - 1 + 1 = n by omega, ← hlv, ← hlv1] at this
            exact this
          repeat (first
            |refine Z01 ?_|refine Z02 ?_|refine Z03 ?_|refine Z04 ?_|refine Z05 ?_|refine Z06 ?_|refine Z07 ?_|refine Z08 ?_|refine Z09 ?_|refine Z10 ?_|refine Z11 ?_
            |refine Z12 ?_|refine Z13 ?_|refine Z14 ?_|refine Z15 ?_|refine Z16 ?_|refine Z17 ?_|refine Z18 ?_|refine Z19 ?_|refine Z20 ?_|refine Z21 ?_|refine Z22 ?_
            |refine Z23 ?_|refine Z24 ?_|refine Z25 ?_|refine Z26 ?_|refine Z27 ?_|refine Z28 ?_|refine Z29 ?_|refine Z30 ?_|refine Z31 ?_|refine Z32 ?_|refine Z33 ?_
            |refine Z58 ?_|refine Z59 ?_|refine Z60 ?_|refine Z67 ?_|refine Z70 ?_|refine Z71 ?_)
          refine st_draw1 (by rfl) ?_
          repeat (first
            |refine Zqf (by intro _ _ _;(first
              
              |(refine st_callV (by rfl) (by rfl) (by rfl) (div64_spec (ls.getD n 0) (ls.getD (n - 1) 0) (ms.getD (n - 1) 0 + 1) h1 hlb1 (by omega)) (fun _ _ => trivial) (by rfl) ?_)
              |refine Z01 ?_|refine Z02 ?_|refine Z15 ?_|refine Z16 ?_|refine Z17 ?_|refine Z18 ?_|refine Z19 ?_|refine Z20 ?_|refine Z21 ?_|refine Z22 ?_|refine Z23 ?_
              |refine Z33 ?_|refine Z58 ?_|refine Z59 ?_|refine Z60 ?_|refine Z70 ?_|refine Z71 ?_);exact Zq) ?_
            |refine Zqp (by intro _ _ _;(first
              |refine Z24 ?_|refine Z25 ?_|refine Z26 ?_|refine Z27 ?_|refine Z28 ?_|refine Z67 ?_|refine Z23 ?_|refine Z20 ?_|refine Z21 ?_);exact Zq) ?_
            |refine Zqe (by intro _ _ _;(first
              |refine Z29 ?_|refine Z30 ?_|refine Z31 ?_|refine Z32 ?_);exact Zqq) ?_
            |refine Zqn ?_)
          refine Zq0 ?_ (by kernel_rfl)
          repeat (first
            |refine Z01 ?_|refine Z02 ?_|refine Z03 ?_|refine Z04 ?_|refine Z05 ?_|refine Z06 ?_|refine Z07 ?_|refine Z08 ?_|refine Z09 ?_|refine Z10 ?_|refine Z11 ?_
            |refine Z12 ?_|refine Z13 ?_|refine Z14 ?_|refine Z15 ?_|refine Z16 ?_|refine Z17 ?_|refine Z18 ?_|refine Z19 ?_|refine Z20 ?_|refine Z21 ?_|refine Z22 ?_
            |refine Z23 ?_|refine Z24 ?_|refine Z25 ?_|refine Z26 ?_|refine Z27 ?_|refine Z28 ?_|refine Z29 ?_|refine Z30 ?_|refine Z31 ?_|refine Z32 ?_|refine Z33 ?_
            |refine Z58 ?_|refine Z59 ?_|refine Z60 ?_|refine Z67 ?_|refine Z70 ?_|refine Z71 ?_)
          exact st_met _ ⟨hq2, hqb⟩ (by repeat (first | apply subL.nil | refine subL.cons (by rfl) ?_)) (by repeat (first | apply SubW.nil | refine SubW.cons (by repeat (first | apply Find.here | apply Find.there)) ?_))
        · repeat (first
            |refine Z01 ?_|refine Z02 ?_|refine Z03 ?_|refine Z04 ?_|refine Z05 ?_|refine Z06 ?_|refine Z07 ?_|refine Z08 ?_|refine Z09 ?_|refine Z10 ?_|refine Z11 ?_
            |refine Z12 ?_|refine Z13 ?_|refine Z14 ?_|refine Z15 ?_|refine Z16 ?_|refine Z17 ?_|refine Z18 ?_|refine Z19 ?_|refine Z20 ?_|refine Z21 ?_|refine Z22 ?_
            |refine Z23 ?_|refine Z24 ?_|refine Z25 ?_|refine Z26 ?_|refine Z27 ?_|refine Z28 ?_|refine Z29 ?_|refine Z30 ?_|refine Z31 ?_|refine Z32 ?_|refine Z33 ?_
            |refine Z58 ?_|refine Z59 ?_|refine Z60 ?_|refine Z67 ?_|refine Z70 ?_|refine Z71 ?_)
          exact st_met 0 ⟨by omega, by decide⟩ (by repeat (first | apply subL.nil | refine subL.cons (by rfl) ?_)) (by repeat (first | apply SubW.nil | refine SubW.cons (by repeat (first | apply Find.here | apply Find.there)) ?_))
    · rintro q0 ⟨hq0M, hq0W⟩
      obtain ⟨q, hqd⟩ : ∃ q, q = max q0 1 := ⟨_, rfl⟩
      have hqM : q * M ≤ X := by
        rcases Nat.le_total q0 1 with h | h
        · rw [hqd, Nat.max_eq_right h]; exact hone
        · rw [hqd, Nat.max_eq_left h]; exact hq0M
      have hqW : q < 18446744073709551616 := by omega
      have hq1 : 1 ≤ q := by rw [hqd]; exact Nat.le_max_right _ _
      repeat (first
        |(rw [← hqd])|refine Z01 ?_|refine Z02 ?_|refine Z03 ?_|refine Z04 ?_|refine Z05 ?_|refine Z06 ?_|refine Z07 ?_|refine Z08 ?_|refine Z09 ?_|refine Z10 ?_
        |refine Z11 ?_|refine Z12 ?_|refine Z13 ?_|refine Z14 ?_|refine Z15 ?_|refine Z16 ?_|refine Z17 ?_|refine Z18 ?_|refine Z19 ?_|refine Z20 ?_|refine Z21 ?_
        |refine Z22 ?_|refine Z23 ?_|refine Z24 ?_|refine Z25 ?_|refine Z26 ?_|refine Z27 ?_|refine Z28 ?_|refine Z29 ?_|refine Z30 ?_|refine Z31 ?_|refine Z32 ?_
        |refine Z33 ?_|refine Z58 ?_|refine Z59 ?_|refine Z60 ?_|refine Z67 ?_|refine Z70 ?_|refine Z71 ?_)
      refine st_loop (ι := Nat) (fun i => i ≤ L) (fun i => [(0, sl), (1, sm), (2, N .i64 n), (6, N .u64 q), (8, N .u64 (bw X (q * M) i)), (9, N .i64 i), (10, N .u64 (q * (M % Num.W ^ i) / Num.W ^ i))])
        (fun i => [.sl sl ((D i (sb X (q * M) i) ++ ls.drop i).map (N .u64)) T]) (fun i => L - i) 0 (by omega) (by simp only [Nat.pow_zero, Nat.mod_one, Nat.mul_zero, Nat.zero_div, bw_0]; exact (by repeat (first | apply subL.nil | refine subL.cons (by rfl) ?_))) (by simp only [D_0, List.drop_zero, List.nil_append]; exact (by repeat (first | apply SubW.nil | refine SubW.cons (by repeat (first | apply Find.here | apply Find.there)) ?_))) ?_
      intro i hi
      have hll : (D i (sb X (q * M) i) ++ ls.drop i).length = L := by rw [List.length_append, D_len, List.length_drop]; omega
      repeat (first
        |refine Z01 ?_|refine Z02 ?_|refine Z03 ?_|refine Z04 ?_|refine Z05 ?_|refine Z06 ?_|refine Z07 ?_|refine Z08 ?_|refine Z09 ?_|refine Z10 ?_|refine Z11 ?_
        |refine Z12 ?_|refine Z13 ?_|refine Z14 ?_|refine Z15 ?_|refine Z16 ?_|refine Z17 ?_|refine Z18 ?_|refine Z19 ?_|refine Z20 ?_|refine Z21 ?_|refine Z22 ?_
        |refine Z23 ?_|refine Z24 ?_|refine Z25 ?_|refine Z26 ?_|refine Z27 ?_|refine Z28 ?_|refine Z29 ?_|refine Z30 ?_|refine Z31 ?_|refine Z32 ?_|refine Z33 ?_
        |refine Z58 ?_|refine Z59 ?_|refine Z60 ?_|refine Z67 ?_|refine Z70 ?_|refine Z71 ?_)
      refine st_cond (by rfl) (fun h => ?_) (fun h => ?_)
      · rw [hll] at h
        have hmi := hm.getD (by decide) i
        have hmv := V_getD hm i
        have hcl := mulw_lt q M i hqW
        have hc1 := mulw_next q M i
        have hc2 := mulw_word q M i
        have hbl := bw_le X (q * M) i
        have hgw := take_word (q := q) (M := M) hls hL hX h
        have hb1 := mul_bound hqW hmi
        rw [hmv'] at hmv
        rw [← hmv] at hc1 hc2
        have hw1 : (q * ms.getD i 0 % 18446744073709551616 + q * (M % Num.W ^ i) / Num.W ^ i) % 18446744073709551616 = q * M / Num.W ^ i % Num.W := by rw [hc2]; show _ = _ % 18446744073709551616; omega
        have hw2 : (q * ms.getD i 0 / 18446744073709551616 + (q * ms.getD i 0 % 18446744073709551616 + q * (M % Num.W ^ i) / Num.W ^ i) / 18446744073709551616) % 18446744073709551616 = q * (M % Num.W ^ (i + 1)) / Num.W ^ (i + 1) := by
          rw [hc1]
          have : q * (M % Num.W ^ i) / Num.W ^ i < 18446744073709551616 := hcl
          show _ = _ / 18446744073709551616
          generalize q * (M % Num.W ^ i) / Num.W ^ i = c at *
          generalize q * ms.getD i 0 = z at *
          omega
        have hsc := sub_carry X (q * M) i
        repeat (first
          |(refine st_callV (by rfl) (by rfl) (by rfl) (at_spec sm ms i (by omega)) (RdW.old hrm) (by rfl) ?_)
          |(refine st_callV (by rfl) (by rfl) (by rfl) (mul64_spec q (ms.getD i 0) hqW hmi) (fun _ _ => trivial) (by rfl) ?_)
          |(refine st_callX (by rfl) (by rfl) (by rfl) (add64X0 _ _) (by rfl) ?_)|(rw [hw1])|(rw [hw2])|(rw [hgw])
          |(refine st_callX (by rfl) (by rfl) (by rfl) (sub64X _ _ _ hbl) (by rfl) ?_)|refine Z01 ?_|refine Z02 ?_|refine Z03 ?_|refine Z04 ?_|refine Z05 ?_|refine Z06 ?_
          |refine Z07 ?_|refine Z08 ?_|refine Z09 ?_|refine Z10 ?_|refine Z11 ?_|refine Z12 ?_|refine Z13 ?_|refine Z14 ?_|refine Z15 ?_|refine Z16 ?_|refine Z17 ?_
          |refine Z18 ?_|refine Z19 ?_|refine Z20 ?_|refine Z21 ?_|refine Z22 ?_|refine Z23 ?_|refine Z24 ?_|refine Z25 ?_|refine Z26 ?_|refine Z27 ?_|refine Z28 ?_
          |refine Z29 ?_|refine Z30 ?_|refine Z31 ?_|refine Z32 ?_|refine Z33 ?_|refine Z58 ?_|refine Z59 ?_|refine Z60 ?_|refine Z67 ?_|refine Z70 ?_|refine Z71 ?_)
        rw [take_set hL h rfl]
        refine st_round (i + 1) (by omega) (by omega) (by rw [hsc]; exact (by repeat (first | apply subL.nil | refine subL.cons (by rfl) ?_))) (by repeat (first | apply SubW.nil | refine SubW.cons (by repeat (first | apply Find.here | apply Find.there)) ?_))
      · rw [hll] at h
        have hie : i = L := by omega
        subst hie
        have hXL : X < Num.W ^ i := by rw [← hX, ← hL]; exact V_lt hls
        have hval : X - q * M < Num.W ^ i := by omega
        rw [take_end hqM hXL, List.drop_eq_nil_of_le (by omega), List.append_nil]
        repeat (first
          |refine Z01 ?_|refine Z02 ?_|refine Z03 ?_|refine Z04 ?_|refine Z05 ?_|refine Z06 ?_|refine Z07 ?_|refine Z08 ?_|refine Z09 ?_|refine Z10 ?_|refine Z11 ?_
          |refine Z12 ?_|refine Z13 ?_|refine Z14 ?_|refine Z15 ?_|refine Z16 ?_|refine Z17 ?_|refine Z18 ?_|refine Z19 ?_|refine Z20 ?_|refine Z21 ?_|refine Z22 ?_
          |refine Z23 ?_|refine Z24 ?_|refine Z25 ?_|refine Z26 ?_|refine Z27 ?_|refine Z28 ?_|refine Z29 ?_|refine Z30 ?_|refine Z31 ?_|refine Z32 ?_|refine Z33 ?_
          |refine Z58 ?_|refine Z59 ?_|refine Z60 ?_|refine Z67 ?_|refine Z70 ?_|refine Z71 ?_)
        refine st_round (D i (X - q * M)) ⟨D_len _ _, D_lt _ _, by rw [V_D' hval, mod_sub hqM, hX0], by rw [V_D' hval]; omega⟩ ?_ (by repeat (first | apply subL.nil | refine subL.cons (by rfl) ?_)) (by repeat (first | apply SubW.nil | refine SubW.cons (by repeat (first | apply Find.here | apply Find.there)) ?_))
        rw [V_D' hval]
        have : M ≤ q * M := Nat.le_mul_of_pos_left M hq1
        omega
  · have hlt : X < M := by
      rcases Nat.lt_or_ge X M with h | h
      · exact h
      · rcases Nat.eq_or_lt_of_le h with h | h
        · rw [ord3_eq h.symm] at hlt; exact absurd (by decide) hlt
        · rw [ord3_gt h] at hlt; exact absurd (by decide) hlt
    have hfin : ls = D L (V ls0 % M) := by
      refine D_of_V hls hL ?_
      rw [hX, ← hX0, Nat.mod_eq_of_lt hlt]
    rw [hfin]
    repeat (first
      |(with_reducible refine st_ng_normal ?_)|refine Z01 ?_|refine Z02 ?_|refine Z03 ?_|refine Z04 ?_|refine Z05 ?_|refine Z06 ?_|refine Z07 ?_|refine Z08 ?_
      |refine Z09 ?_|refine Z10 ?_|refine Z11 ?_|refine Z12 ?_|refine Z13 ?_|refine Z14 ?_|refine Z15 ?_|refine Z16 ?_|refine Z17 ?_|refine Z18 ?_|refine Z19 ?_
      |refine Z20 ?_|refine Z21 ?_|refine Z22 ?_|refine Z23 ?_|refine Z24 ?_|refine Z25 ?_|refine Z26 ?_|refine Z27 ?_|refine Z28 ?_|refine Z29 ?_|refine Z30 ?_
      |refine Z31 ?_|refine Z32 ?_|refine Z33 ?_|refine Z58 ?_|refine Z59 ?_|refine Z60 ?_|refine Z67 ?_|refine Z70 ?_|refine Z71 ?_)
    exact st_end0 rfl fun _ hw => post_of hw (Wout := [.sl sl ((D L (V ls0 % M)).map (N .u64)) T]) (by exact (by repeat (first | apply SubW.nil | refine SubW.cons (by repeat (first | apply Find.here | apply Find.there)) ?_))) rfl
end Go.Proofs.Ytbjfjkmidhfgcaa.L
namespace Go.Proofs.Ytbjfjkmidhfgcaa.L
open Go Go.Proofs
set_option maxRecDepth 100000
attribute [local irreducible] Code.wp wpList Af bodyPost L.Go
open Num
attribute [local simp] D_len
theorem take_top {ms : List Nat} {n : Nat} (hn : n ≤ ms.length) (h : ∀ j, n ≤ j → ms.getD j 0 = 0) : V (ms.take n) = V ms := by
  have e : ms = ms.take n ++ List.replicate (ms.length - n) 0 := by
    apply List.ext_getElem?
    intro i
    rcases Nat.lt_or_ge i n with hi | hi
    · rw [List.getElem?_append_left (by simp; omega), List.getElem?_take, if_pos hi]
    · rw [List.getElem?_append_right (by simp; omega), List.getElem?_replicate]
      rcases Nat.lt_or_ge i ms.length with hl | hl
      · have := h i hi
        rw [List.getD_eq_getElem?_getD, List.getElem?_eq_getElem hl] at this
        rw [List.getElem?_eq_getElem hl, if_pos (by simp; omega)]
        simpa using this
      · rw [List.getElem?_eq_none hl, if_neg (by simp; omega)]
  conv => rhs; rw [e]
  rw [V_append, V_rep0, Nat.mul_zero, Nat.add_zero]
set_option maxHeartbeats 4000000 in
theorem mod_spec (s t : Value) (xs ms : List Nat) (hx : Lt 18446744073709551616 xs) (hm : Lt 18446744073709551616 ms) (hl1 : xs.length < 1000000) (hl2 : ms.length < 1000000) :
    Spec Try.prog 31 [s, t] (fun w => Rd w s (xs.map (N .u64)) ∧ Rd w t (ms.map (N .u64))) []
      (fun v Wr => (V ms = 0 ∧ v = .tuple [.slice none 0 0, N .i64 30].toArray ∧ Wr = []) ∨ (0 < V ms ∧ ∃ u, v = .tuple [u, N .i64 0].toArray ∧ Wr = [.sl u ((D ms.length (V xs % V ms)).map (N .u64)) 30])) := by
  refine mk_spec Try.func31 rfl rfl rfl fun w hr => ?_
  have hr1 := RdC.mk0 hr.1
  have hr2 := RdC.mk0 hr.2
  repeat (first
    
    |(refine st_block_join (ι := Nat) (fun n => n ≤ ms.length ∧ (∀ j, n ≤ j → ms.getD j 0 = 0) ∧ (n = 0 ∨ ms.getD (n - 1) 0 ≠ 0)) (fun n => [(0, s), (1, t), (6, N .i64 n)]) (fun _ => []) ?_ ?_)
    |refine Z01 ?_|refine Z02 ?_|refine Z03 ?_|refine Z04 ?_|refine Z05 ?_|refine Z06 ?_|refine Z07 ?_|refine Z08 ?_|refine Z09 ?_|refine Z10 ?_|refine Z11 ?_
    |refine Z12 ?_|refine Z13 ?_|refine Z14 ?_|refine Z15 ?_|refine Z16 ?_|refine Z17 ?_|refine Z18 ?_|refine Z20 ?_|refine Z21 ?_|refine Z22 ?_|refine Z23 ?_
    |refine Z24 ?_|refine Z25 ?_|refine Z26 ?_|refine Z27 ?_|refine Z28 ?_|refine Z29 ?_|refine Z30 ?_|refine Z31 ?_|refine Z32 ?_|refine Z49 ?_|refine Z50 ?_
    |refine Z51 ?_|refine Z52 ?_|refine Z53 ?_|refine Z58 ?_|refine Z59 ?_|refine Z62 ?_|refine Z63 ?_|refine Z64 ?_|refine Z67 ?_|refine Z70 ?_|refine Z71 ?_
    |refine Z75 ?_|refine Z76 ?_|refine Z83 fun _ => ?_)
  · refine st_loop (ι := Nat) (fun n => n ≤ ms.length ∧ ∀ j, n ≤ j → ms.getD j 0 = 0) (fun n => [(0, s), (1, t), (6, N .i64 n)]) (fun _ => []) (fun n => n) ms.length ⟨Nat.le_refl _, fun j hj => getD_out hj⟩ (by repeat (first | apply subL.nil | refine subL.cons (by rfl) ?_)) (by repeat (first | apply SubW.nil | refine SubW.cons (by repeat (first | apply Find.here | apply Find.there)) ?_)) ?_
    rintro n ⟨hn, hz⟩
    by_cases h0 : n = 0
    · repeat (first
        |(refine st_cmp (r := false) (by rfl) (by rfl) (cmpN_f (by first | (simp only [cmpQ]; done) | (simp only [cmpQ]; omega))) (by rfl) ?_)|refine Z01 ?_|refine Z02 ?_
        |refine Z03 ?_|refine Z04 ?_|refine Z05 ?_|refine Z06 ?_|refine Z07 ?_|refine Z08 ?_|refine Z09 ?_|refine Z10 ?_|refine Z11 ?_|refine Z12 ?_|refine Z13 ?_
        |refine Z14 ?_|refine Z15 ?_|refine Z16 ?_|refine Z17 ?_|refine Z18 ?_|refine Z20 ?_|refine Z21 ?_|refine Z22 ?_|refine Z23 ?_|refine Z24 ?_|refine Z25 ?_
        |refine Z26 ?_|refine Z27 ?_|refine Z28 ?_|refine Z29 ?_|refine Z30 ?_|refine Z31 ?_|refine Z32 ?_|refine Z49 ?_|refine Z50 ?_|refine Z51 ?_|refine Z52 ?_
        |refine Z53 ?_|refine Z58 ?_|refine Z59 ?_|refine Z62 ?_|refine Z63 ?_|refine Z64 ?_|refine Z67 ?_|refine Z70 ?_|refine Z71 ?_|refine Z75 ?_|refine Z76 ?_
        |refine Z83 fun _ => ?_)
      exact st_met n ⟨hn, hz, .inl h0⟩ (by repeat (first | apply subL.nil | refine subL.cons (by rfl) ?_)) (by repeat (first | apply SubW.nil | refine SubW.cons (by repeat (first | apply Find.here | apply Find.there)) ?_))
    · have hnl : n - 1 < ms.length := by omega
      by_cases hw : ms.getD (n - 1) 0 = 0
      · repeat (first
          |(refine st_cmp (r := true) (by rfl) (by rfl) (cmpN_t (by first | (simp only [cmpP]; done) | (simp only [cmpP]; omega))) (by rfl) ?_)|refine Z01 ?_
          |refine Z02 ?_|refine Z03 ?_|refine Z04 ?_|refine Z05 ?_|refine Z06 ?_|refine Z07 ?_|refine Z08 ?_|refine Z09 ?_|refine Z10 ?_|refine Z11 ?_|refine Z12 ?_
          |refine Z13 ?_|refine Z14 ?_|refine Z15 ?_|refine Z16 ?_|refine Z17 ?_|refine Z18 ?_|refine Z20 ?_|refine Z21 ?_|refine Z22 ?_|refine Z23 ?_|refine Z24 ?_
          |refine Z25 ?_|refine Z26 ?_|refine Z27 ?_|refine Z28 ?_|refine Z29 ?_|refine Z30 ?_|refine Z31 ?_|refine Z32 ?_|refine Z49 ?_|refine Z50 ?_|refine Z51 ?_
          |refine Z52 ?_|refine Z53 ?_|refine Z58 ?_|refine Z59 ?_|refine Z62 ?_|refine Z63 ?_|refine Z64 ?_|refine Z67 ?_|refine Z70 ?_|refine Z71 ?_|refine Z75 ?_
          |refine Z76 ?_|refine Z83 fun _ => ?_)
        refine st_round (n - 1) ⟨by omega, fun j hj => ?_⟩ (by omega) (by repeat (first | apply subL.nil | refine subL.cons (by rfl) ?_)) (by repeat (first | apply SubW.nil | refine SubW.cons (by repeat (first | apply Find.here | apply Find.there)) ?_))
        rcases Nat.eq_or_lt_of_le hj with h | h
        · rw [← h]; exact hw
        · exact hz j (by omega)
      · repeat (first
          |(refine st_cmp (r := true) (by rfl) (by rfl) (cmpN_t (by first | (simp only [cmpP]; done) | (simp only [cmpP]; omega))) (by rfl) ?_)|(rw [decide_eq_false hw])
          |refine Z01 ?_|refine Z02 ?_|refine Z03 ?_|refine Z04 ?_|refine Z05 ?_|refine Z06 ?_|refine Z07 ?_|refine Z08 ?_|refine Z09 ?_|refine Z10 ?_|refine Z11 ?_
          |refine Z12 ?_|refine Z13 ?_|refine Z14 ?_|refine Z15 ?_|refine Z16 ?_|refine Z17 ?_|refine Z18 ?_|refine Z20 ?_|refine Z21 ?_|refine Z22 ?_|refine Z23 ?_
          |refine Z24 ?_|refine Z25 ?_|refine Z26 ?_|refine Z27 ?_|refine Z28 ?_|refine Z29 ?_|refine Z30 ?_|refine Z31 ?_|refine Z32 ?_|refine Z49 ?_|refine Z50 ?_
          |refine Z51 ?_|refine Z52 ?_|refine Z53 ?_|refine Z58 ?_|refine Z59 ?_|refine Z62 ?_|refine Z63 ?_|refine Z64 ?_|refine Z67 ?_|refine Z70 ?_|refine Z71 ?_
          |refine Z75 ?_|refine Z76 ?_|refine Z83 fun _ => ?_)
        exact st_met n ⟨hn, hz, .inr hw⟩ (by repeat (first | apply subL.nil | refine subL.cons (by rfl) ?_)) (by repeat (first | apply SubW.nil | refine SubW.cons (by repeat (first | apply Find.here | apply Find.there)) ?_))
  rintro n ⟨hn, hz, htop⟩
  by_cases h0 : n = 0
  · repeat (first
      |(refine st_cmp (r := true) (by rfl) (by rfl) (cmpN_t (by first | (simp only [cmpP]; done) | (simp only [cmpP]; omega))) (by rfl) ?_)|refine Z01 ?_|refine Z02 ?_
      |refine Z03 ?_|refine Z04 ?_|refine Z05 ?_|refine Z06 ?_|refine Z07 ?_|refine Z08 ?_|refine Z09 ?_|refine Z10 ?_|refine Z11 ?_|refine Z12 ?_|refine Z13 ?_
      |refine Z14 ?_|refine Z15 ?_|refine Z16 ?_|refine Z17 ?_|refine Z18 ?_|refine Z20 ?_|refine Z21 ?_|refine Z22 ?_|refine Z23 ?_|refine Z24 ?_|refine Z25 ?_
      |refine Z26 ?_|refine Z27 ?_|refine Z28 ?_|refine Z29 ?_|refine Z30 ?_|refine Z31 ?_|refine Z32 ?_|refine Z49 ?_|refine Z50 ?_|refine Z51 ?_|refine Z52 ?_
      |refine Z53 ?_|refine Z58 ?_|refine Z59 ?_|refine Z62 ?_|refine Z63 ?_|refine Z64 ?_|refine Z67 ?_|refine Z70 ?_|refine Z71 ?_|refine Z75 ?_|refine Z76 ?_
      |refine Z83 fun _ => ?_)
    refine Ze2 fun _ hw => post_of hw SubW.nil (.inl ⟨?_, rfl, rfl⟩)
    have := take_top hn hz
    rw [h0, List.take_zero, V_nil] at this
    exact this.symm
  have htop : ms.getD (n - 1) 0 ≠ 0 := by rcases htop with h | h; exact absurd h h0; exact h
  obtain ⟨M, hM⟩ : ∃ M, V ms = M := ⟨_, rfl⟩
  have hMt : V (ms.take n) = M := by rw [take_top hn hz, hM]
  have htl : (ms.take n).length = n := by rw [List.length_take]; omega
  have htt : (ms.take n).getD (n - 1) 0 ≠ 0 := by
    rw [List.getD_eq_getElem?_getD, List.getElem?_take, if_pos (by omega), ← List.getD_eq_getElem?_getD]; exact htop
  have htb := hm.take n
  have hMp : 0 < M := by rw [← hMt]; exact Nat.lt_of_lt_of_le (W_pow_pos _) (ge_top htb htt)
  have hMW : M < Num.W ^ ms.length := by rw [← hM]; exact V_lt hm
  rw [hM]
  repeat (first
    |(refine st_cmp (r := false) (by rfl) (by rfl) (cmpN_f (by first | (simp only [cmpQ]; done) | (simp only [cmpQ]; omega))) (by rfl) ?_)|refine Z01 ?_|refine Z02 ?_
    |refine Z03 ?_|refine Z04 ?_|refine Z05 ?_|refine Z06 ?_|refine Z07 ?_|refine Z08 ?_|refine Z09 ?_|refine Z10 ?_|refine Z11 ?_|refine Z12 ?_|refine Z13 ?_
    |refine Z14 ?_|refine Z15 ?_|refine Z16 ?_|refine Z17 ?_|refine Z18 ?_|refine Z20 ?_|refine Z21 ?_|refine Z22 ?_|refine Z23 ?_|refine Z24 ?_|refine Z25 ?_
    |refine Z26 ?_|refine Z27 ?_|refine Z28 ?_|refine Z29 ?_|refine Z30 ?_|refine Z31 ?_|refine Z32 ?_|refine Z49 ?_|refine Z50 ?_|refine Z51 ?_|refine Z52 ?_
    |refine Z53 ?_|refine Z58 ?_|refine Z59 ?_|refine Z62 ?_|refine Z63 ?_|refine Z64 ?_|refine Z67 ?_|refine Z70 ?_|refine Z71 ?_|refine Z75 ?_|refine Z76 ?_
    |refine Z83 fun _ => ?_)
  rename_i u
  obtain ⟨L, hL⟩ : ∃ L, L = ms.length := ⟨_, rfl⟩
  refine st_loop (ι := Nat) (fun j => j ≤ xs.length) (fun j => [(0, s), (1, t), (6, N .i64 n), (7, u), (8, .int .i64 ((j : Int) - 1))]) (fun j => [.sl u ((D (ms.length + 1) (V xs / Num.W ^ j % M)).map (N .u64)) 30]) (fun j => j) xs.length (Nat.le_refl _) (by repeat (first | apply subL.nil | refine subL.cons (by rfl) ?_)) ?_ ?_
  · rw [Nat.div_eq_of_lt (V_lt hx), Nat.zero_mod, D_zero]
    exact (by repeat (first | apply SubW.nil | refine SubW.cons (by repeat (first | apply Find.here | apply Find.there)) ?_))
  intro j hj
  have hDl := D_len (ms.length + 1) (V xs / Num.W ^ j % M)
  repeat (first
    |refine Z01 ?_|refine Z02 ?_|refine Z03 ?_|refine Z04 ?_|refine Z05 ?_|refine Z06 ?_|refine Z07 ?_|refine Z08 ?_|refine Z09 ?_|refine Z10 ?_|refine Z11 ?_
    |refine Z12 ?_|refine Z13 ?_|refine Z14 ?_|refine Z15 ?_|refine Z16 ?_|refine Z17 ?_|refine Z18 ?_|refine Z20 ?_|refine Z21 ?_|refine Z22 ?_|refine Z23 ?_
    |refine Z24 ?_|refine Z25 ?_|refine Z26 ?_|refine Z27 ?_|refine Z28 ?_|refine Z29 ?_|refine Z30 ?_|refine Z31 ?_|refine Z32 ?_|refine Z49 ?_|refine Z50 ?_
    |refine Z51 ?_|refine Z52 ?_|refine Z53 ?_|refine Z58 ?_|refine Z59 ?_|refine Z62 ?_|refine Z63 ?_|refine Z64 ?_|refine Z67 ?_|refine Z70 ?_|refine Z71 ?_
    |refine Z75 ?_|refine Z76 ?_|refine Z83 fun _ => ?_)
  refine st_cond (by rfl) (fun h => ?_) (fun h => ?_)
  · have hp : (0 : Int) ≤ (j : Int) - 1 := h
    obtain ⟨i, rfl⟩ : ∃ i, j = i + 1 := ⟨j - 1, by omega⟩
    rw [show ((i + 1 : Nat) : Int) - 1 = Int.ofNat i by simp]
    obtain ⟨R, hR⟩ : ∃ R, R = V xs / Num.W ^ (i + 1) % M := ⟨_, rfl⟩
    rw [← hR] at hDl ⊢
    have hRM : R < M := by rw [hR]; exact Nat.mod_lt _ hMp
    have hRW : R < Num.W ^ (ms.length + 1) := Nat.lt_of_lt_of_le (Nat.lt_trans hRM hMW) (W_le (Nat.le_succ _))
    have hxi := hx.getD (by decide) i
    have hil : i < xs.length := by omega
    have hDb := D_lt (ms.length + 1) R
    have hcl : (List.take 1 (D (ms.length + 1) R) ++ List.take ((D (ms.length + 1) R).length - 1) (D (ms.length + 1) R)).length = ms.length + 1 := by rw [List.length_append, List.length_take, List.length_take, hDl]; omega
    repeat (first
      |(rw [List.length_map])
      |(refine st_copy_selfN (lo := 1) (by rfl) (by rfl) (by repeat (first | apply Find.here | apply Find.there)) (by omega) (by rfl) (by rfl) (by rfl) ?_)|refine Z01 ?_
      |refine Z02 ?_|refine Z03 ?_|refine Z04 ?_|refine Z05 ?_|refine Z06 ?_|refine Z07 ?_|refine Z08 ?_|refine Z09 ?_|refine Z10 ?_|refine Z11 ?_|refine Z12 ?_
      |refine Z13 ?_|refine Z14 ?_|refine Z15 ?_|refine Z16 ?_|refine Z17 ?_|refine Z18 ?_|refine Z20 ?_|refine Z21 ?_|refine Z22 ?_|refine Z23 ?_|refine Z24 ?_
      |refine Z25 ?_|refine Z26 ?_|refine Z27 ?_|refine Z28 ?_|refine Z29 ?_|refine Z30 ?_|refine Z31 ?_|refine Z32 ?_|refine Z49 ?_|refine Z50 ?_|refine Z51 ?_
      |refine Z52 ?_|refine Z53 ?_|refine Z58 ?_|refine Z59 ?_|refine Z62 ?_|refine Z63 ?_|refine Z64 ?_|refine Z67 ?_|refine Z70 ?_|refine Z71 ?_|refine Z75 ?_
      |refine Z76 ?_|refine Z83 fun _ => ?_)
    have hset : (List.take 1 (D (ms.length + 1) R) ++ List.take ((D (ms.length + 1) R).length - 1) (D (ms.length + 1) R)).set 0 (xs.getD i 0) = xs.getD i 0 :: (D (ms.length + 1) R).take ms.length := by
      rw [hDl, Nat.add_sub_cancel]
      cases hd : D (ms.length + 1) R with
      | nil => rw [hd] at hDl; simp at hDl
      | cons a r => simp
    rw [hset]
    have hnb : Lt 18446744073709551616 (xs.getD i 0 :: (D (ms.length + 1) R).take ms.length) := Num.Lt.cons hxi (hDb.take _)
    have hnl : (xs.getD i 0 :: (D (ms.length + 1) R).take ms.length).length = ms.length + 1 := by rw [List.length_cons, List.length_take, hDl]; omega
    have hnv : V (xs.getD i 0 :: (D (ms.length + 1) R).take ms.length) = xs.getD i 0 + Num.W * R := by
      rw [shift_val hDl hDb (by rw [V_D' hRW]; exact Nat.lt_trans hRM hMW), V_D' hRW]
    have hnW : V (xs.getD i 0 :: (D (ms.length + 1) R).take ms.length) < Num.W * M := by
      rw [hnv]
      have := Nat.mul_le_mul_left Num.W (show R + 1 ≤ M from hRM)
      rw [Nat.mul_add, Nat.mul_one] at this
      have h2 : xs.getD i 0 < Num.W := hxi
      omega
    have hrv : V (xs.getD i 0 :: (D (ms.length + 1) R).take ms.length) % M = V xs / Num.W ^ i % M := by
      rw [hnv, hR, V_getD hx, mod_step]
    have hcut : List.drop 0 (List.take n ms) = ms.take n := List.drop_zero
    have hsub : RdC ⟨w, fps []⟩ (sub t 0 n) ((ms.take n).map (N .u64)) := by
      have h := RdC.subC (lo := 0) (hi := n) (k := .u64) hr2 (by omega) hn
      rw [hcut] at h; exact h
    repeat (first
      
      |((refine st_call (by rfl) (by rfl) (by rfl) (take_spec u _ 30 _ (ms.take n) (ms.length + 1) n M hnb hnl htb htl (by omega) (by omega) (by omega) hMt htt hnW) (.cons (by repeat (first | apply Find.here | apply Find.there)) .nil) (fun w' hw' => RdC.toWin hsub hw' (.cons Find.here .nil)) (by rfl) ?_; rintro v _ rfl; rw [hrv]))
      |refine Z01 ?_|refine Z02 ?_|refine Z03 ?_|refine Z04 ?_|refine Z05 ?_|refine Z06 ?_|refine Z07 ?_|refine Z08 ?_|refine Z09 ?_|refine Z10 ?_|refine Z11 ?_
      |refine Z12 ?_|refine Z13 ?_|refine Z14 ?_|refine Z15 ?_|refine Z16 ?_|refine Z17 ?_|refine Z18 ?_|refine Z20 ?_|refine Z21 ?_|refine Z22 ?_|refine Z23 ?_
      |refine Z24 ?_|refine Z25 ?_|refine Z26 ?_|refine Z27 ?_|refine Z28 ?_|refine Z29 ?_|refine Z30 ?_|refine Z31 ?_|refine Z32 ?_|refine Z49 ?_|refine Z50 ?_
      |refine Z51 ?_|refine Z52 ?_|refine Z53 ?_|refine Z58 ?_|refine Z59 ?_|refine Z62 ?_|refine Z63 ?_|refine Z64 ?_|refine Z67 ?_|refine Z70 ?_|refine Z71 ?_
      |refine Z75 ?_|refine Z76 ?_|refine Z83 fun _ => ?_)
    refine st_round i (by omega) (by omega) ?_ (by repeat (first | apply SubW.nil | refine SubW.cons (by repeat (first | apply Find.here | apply Find.there)) ?_))
    rw [show ((i : Int) - 1) = Int.ofNat i - Int.ofNat 1 from rfl]
    exact (by repeat (first | apply subL.nil | refine subL.cons (by rfl) ?_))
  · have hp : ¬ (0 : Int) ≤ (j : Int) - 1 := h
    have hj0 : j = 0 := by omega
    subst hj0
    rw [Nat.pow_zero, Nat.div_one] at hDl ⊢
    have hRM : V xs % M < M := Nat.mod_lt _ hMp
    repeat (first
      |refine Z01 ?_|refine Z02 ?_|refine Z03 ?_|refine Z04 ?_|refine Z05 ?_|refine Z06 ?_|refine Z07 ?_|refine Z08 ?_|refine Z09 ?_|refine Z10 ?_|refine Z11 ?_
      |refine Z12 ?_|refine Z13 ?_|refine Z14 ?_|refine Z15 ?_|refine Z16 ?_|refine Z17 ?_|refine Z18 ?_|refine Z20 ?_|refine Z21 ?_|refine Z22 ?_|refine Z23 ?_
      |refine Z24 ?_|refine Z25 ?_|refine Z26 ?_|refine Z27 ?_|refine Z28 ?_|refine Z29 ?_|refine Z30 ?_|refine Z31 ?_|refine Z32 ?_|refine Z49 ?_|refine Z50 ?_
      |refine Z51 ?_|refine Z52 ?_|refine Z53 ?_|refine Z58 ?_|refine Z59 ?_|refine Z62 ?_|refine Z63 ?_|refine Z64 ?_|refine Z67 ?_|refine Z70 ?_|refine Z71 ?_
      |refine Z75 ?_|refine Z76 ?_|refine Z83 fun _ => ?_)
    refine st_resl (s := u) 0 ms.length (by repeat (first | apply Find.here | apply Find.there)) (by omega) (by rw [List.length_map, hDl]; omega) ?_
    have hcut : List.drop 0 (List.take ms.length (List.map (N .u64) (D (ms.length + 1) (V xs % M)))) = (D ms.length (V xs % M)).map (N .u64) := by
      rw [List.drop_zero, ← List.map_take]
      congr 1
      refine D_of_V ((D_lt _ _).take _) (by rw [List.length_take, hDl]; omega) ?_
      rw [V_take (D_lt _ _), V_D, Nat.mod_eq_of_lt (a := V xs % M) (Nat.lt_of_lt_of_le (Nat.lt_trans hRM hMW) (W_le (Nat.le_succ _))), Nat.mod_eq_of_lt (Nat.lt_trans hRM hMW)]
    rw [hcut]
    exact Ze2 fun _ hw => post_of hw (Wout := [.sl (sub u 0 ms.length) ((D ms.length (V xs % M)).map (N .u64)) 30]) (by exact (by repeat (first | apply SubW.nil | refine SubW.cons (by repeat (first | apply Find.here | apply Find.there)) ?_))) (.inr ⟨hMp, _, rfl, rfl⟩)
end Go.Proofs.Ytbjfjkmidhfgcaa.L
namespace Go.Proofs.Ytbjfjkmidhfgcaa.L
open Go Go.Proofs
set_option maxRecDepth 100000
attribute [local irreducible] Code.wp wpList Af bodyPost L.Go
open Num
attribute [local simp] D_len
theorem pwide_spec (s : Value) (xs : List Nat) (hx : Lt 18446744073709551616 xs) (hl : xs.length < 1000000) :
    Spec Try.prog 67 [s] (fun w => Rd w s (xs.map (N .u64))) [] (IsV (LV .u64 (D 6 (V xs % p)))) := by
  refine mk_spec Try.func67 rfl rfl rfl fun w hr => ?_
  have hr := RdC.mk0 hr
  have hrl := D_len 6 p
  have hv := V_D' p_lt
  have hml := D_len 6 (V xs % p)
  have htk : (D 6 (V xs % p)).take 6 = D 6 (V xs % p) := List.take_of_length_le (by omega)
  repeat (first
    |(refine st_alloc (v := LV .u64 (List.replicate 6 0)) (by rfl) (by rfl) fun _ => ?_)
    |(refine st_callV (by rfl) (by rfl) (by rfl) (pP_spec) (fun _ _ => trivial) (by rfl) ?_)
    |((refine st_call (by rfl) (by rfl) (by rfl) (mod_spec s _ xs (D 6 p) hx (D_lt _ _) hl (by omega)) .nil (fun w hw => ⟨RdW.old hr w hw, RdW.arrAll (m := 6) (by repeat (first | apply Find.here | apply Find.there)) hrl w hw⟩) (by rfl) ?_; rintro _ _ (⟨hz, _, _⟩ | ⟨_, u, rfl, rfl⟩); exact absurd hz (by rw [hv]; exact Nat.ne_of_gt p_pos); rw [hv, hrl]))
    |(rw [htk])|refine Z01 ?_|refine Z02 ?_|refine Z03 ?_|refine Z04 ?_|refine Z05 ?_|refine Z06 ?_|refine Z07 ?_|refine Z08 ?_|refine Z09 ?_|refine Z10 ?_|refine Z11 ?_
    |refine Z12 ?_|refine Z13 ?_|refine Z14 ?_|refine Z19 ?_|refine Z24 ?_|refine Z25 ?_|refine Z26 ?_|refine Z27 ?_|refine Z28 ?_|refine Z29 ?_|refine Z30 ?_
    |refine Z31 ?_|refine Z32 ?_|refine Z62 ?_|refine Z63 ?_|refine Z64 ?_|refine Z66 ?_|refine Z67 ?_|refine Z82 fun _ => ?_)
  refine Zec fun _ hw => post_of hw SubW.nil ⟨?_, rfl⟩
  rfl
def fel (b : List Nat) : List Nat := D 6 (bval (b.take 64) % p) ++ D 6 (bval ((b.take 128).drop 64) % p)
def fels (b : List Nat) : Nat → List (List Nat)
  | 0 => []
  | i + 1 => fels b i ++ [fel (b.drop (128 * i))]
theorem fel_def (b : List Nat) : fel b = D 6 (bval (b.take 64) % p) ++ D 6 (bval ((b.take 128).drop 64) % p) := rfl
theorem fel_len (b : List Nat) : (fel b).length = 12 := by simp [fel]
theorem fels_0 (b : List Nat) : fels b 0 = [] := rfl
theorem fels_succ (b : List Nat) (i : Nat) : fels b (i + 1) = fels b i ++ [fel (b.drop (128 * i))] := rfl
theorem fels_len (b : List Nat) (i : Nat) : (fels b i).length = i := by
  induction i with
  | zero => rfl
  | succ i ih => rw [fels, List.length_append, ih]; rfl
theorem fels_each (b : List Nat) (i : Nat) : ∀ v ∈ fels b i, v.length = 12 := by
  induction i with
  | zero => intro v hv; cases hv
  | succ i ih =>
    intro v hv
    rcases List.mem_append.1 hv with hv | hv
    · exact ih v hv
    · rw [List.mem_singleton.1 hv]; exact fel_len _
theorem flat12_len {l : List (List Nat)} (h : ∀ v ∈ l, v.length = 12) : l.flatten.length = l.length * 12 := by
  induction l with
  | nil => rfl
  | cons a r ih =>
    rw [List.flatten_cons, List.length_append, ih fun v hv => h v (List.mem_cons_of_mem _ hv), h a (List.mem_cons_self ..), List.length_cons]
    omega
theorem fels_flat (b : List Nat) (i : Nat) : (fels b i).flatten.length = (fels b i).length * 12 := flat12_len (fels_each b i)
theorem fels_get (b : List Nat) : ∀ {k i : Nat}, i < k → (fels b k)[i]? = some (fel (b.drop (128 * i)))
  | 0, _, h => by omega
  | k + 1, i, h => by
    rw [fels_succ]
    rcases Nat.lt_or_ge i k with h2 | h2
    · rw [List.getElem?_append_left (by rw [fels_len]; exact h2)]
      exact fels_get b h2
    · have : i = k := by omega
      subst this
      rw [List.getElem?_append_right (by rw [fels_len]; exact Nat.le_refl _), fels_len, Nat.sub_self]
      rfl
theorem w64 {bs : List Nat} (h : Lt 256 bs) (hl : bs.length = 64) : V (D 8 (bval bs)) = bval bs := by
  refine V_D' ?_
  have := bval_lt h
  rw [hl] at this
  exact this
/-- The number of sixty-four bytes. -/
theorem pwide64 (s : Value) (bs : List Nat) (h : Lt 256 bs) (hl : bs.length = 64) : Spec Try.prog 67 [s] (fun w => Rd w s ((D 8 (bval bs)).map (N .u64))) [] (IsV (LV .u64 (D 6 (bval bs % p)))) := by
  have := pwide_spec s (D 8 (bval bs)) (D_lt _ _) (by rw [D_len]; decide)
  rwa [w64 h hl] at this
attribute [irreducible] fel fels
end Go.Proofs.Ytbjfjkmidhfgcaa.L
namespace Go.Proofs.Ytbjfjkmidhfgcaa.L.R
open Go Go.Proofs
section
variable {P : Program} {c : Cx} {n : Nat} {os : List Oper} {K : Act → World → Prop} {E : En} {W : List Res} {l : Sl} {i d : Nat} {o : Oper} {rest : List Nat}
theorem Zpcc {xs xs' : List Value} {T T' : TypeId} (n1 n2 : List Nat) {j d' : Nat} {o' : Oper} (ho : os[i]? = some o) (ho' : os[j]? = some o') (h : OpC P c n W (fun v => [.sl v xs T]) d (restr os.toArray o l) (noG o)) (h' : OpC P c n W (fun v => [.sl v xs' T']) d' (restr os.toArray o' l) (noG o'))
    (hr : ∀ v, QF P c n os K (E ++ [(i, .alc)]) (.sl v xs T :: W) ((d, v) :: l) n1) (hr' : ∀ v, QF P c n os K (E ++ [(j, .alc)]) (.sl v xs' T' :: W) ((d', v) :: l) n2)
    (hij : Nat.beq i j = false := by rfl) (hi : newP i E = true := by rfl) (hi' : newP j E = true := by rfl) (hd : o.dst = some d := by rfl) (hd' : o'.dst = some d' := by rfl) (hn : Nat.blt d n = true := by rfl) (hn' : Nat.blt d' n = true := by rfl)
    (hg : gSays os.toArray l o = some true := by rfl) (hg' : gSays os.toArray l o' = some true := by rfl)
    (hc : chkP os (E ++ [(i, .alc)]) = true := by rfl) (hc' : chkP os (E ++ [(j, .alc)]) = true := by rfl) (hdesc : descP os [i, j] rest E = true := by rfl) : QF P c n os K E W l (i :: j :: rest) := by
  have hne : ¬ j = i := fun h => by subst h; rw [Nat.beq_refl] at hij; cases hij
  refine QF.nd (is := [i, j]) (nx := fun k => if k = i then n1 else n2) (o := fun k => if k = i then o else o') (Φ := fun k u W' => if k = i then ∃ v, u = some (d, v) ∧ W' = .sl v xs T :: W else ∃ v, u = some (d', v) ∧ W' = .sl v xs' T' :: W)
    (kd := fun _ => .alc) (by simp) (two hi hi') (two ?_ ?_) (two hc hc') hdesc (two ?_ ?_) (two ?_ ?_) (two ?_ ?_) (two ?_ ?_)
  · simp only [if_true]; exact ho
  · simp only [if_neg hne]; exact ho'
  · simp only [if_true]
    intro u W' ⟨b, hu, hW⟩; subst hu; exact ⟨hd, fun q hq => by rw [hd] at hq; cases hq; exact hn, .inr ⟨by trivial, [_], hW⟩⟩
  · simp only [if_neg hne]
    intro u W' ⟨b, hu, hW⟩; subst hu; exact ⟨hd', fun q hq => by rw [hd'] at hq; cases hq; exact hn', .inr ⟨by trivial, [_], hW⟩⟩
  · simp only [if_true]; exact hg
  · simp only [if_neg hne]; exact hg'
  · simp only [if_true]
    exact fun w0 m hw a w ha hw' => single_mono (h w0 m hw a w ha hw') rfl (fun _ _ _ h => h.1) fun a w ⟨h1, b, h2, h3⟩ => ⟨h1, some (d, b), _, ⟨b, rfl, rfl⟩, h2, h3⟩
  · simp only [if_neg hne]
    exact fun w0 m hw a w ha hw' => single_mono (h' w0 m hw a w ha hw') rfl (fun _ _ _ h => h.1) fun a w ⟨h1, b, h2, h3⟩ => ⟨h1, some (d', b), _, ⟨b, rfl, rfl⟩, h2, h3⟩
  · simp only [if_true]
    intro u W' ⟨b, hu, hW⟩; subst hu; subst hW
    exact hr b
  · simp only [if_neg hne]
    intro u W' ⟨b, hu, hW⟩; subst hu; subst hW
    exact hr' b
end
end Go.Proofs.Ytbjfjkmidhfgcaa.L.R
namespace Go.Proofs.Ytbjfjkmidhfgcaa.L
open Go Go.Proofs
set_option maxRecDepth 100000
attribute [local irreducible] Code.wp wpList Af bodyPost L.Go
open Num
attribute [local simp] D_len
set_option maxHeartbeats 8000000 in
theorem fields_ok (s1 s2 : Value) (m d : List Nat) (k : Nat) (hm : Lt 256 m) (hd : Lt 256 d) (hl1 : m.length < 1073741824) (h1 : 1 ≤ d.length) (h2 : d.length ≤ 255) (hk1 : 1 ≤ k) (hk : k ≤ 63) :
    Spec Try.prog 63 [s1, s2, N .i64 k] (fun w => Rd w s1 (m.map (N .u8)) ∧ Rd w s2 (d.map (N .u8))) [] (fun v W => ∃ x, v = .tuple [x, N .i64 0].toArray ∧ W = [.sl (wide 12 x) ((fels (xpand m d (128 * k)) k).flatten.map (N .u64)) 71]) := by
  refine mk_spec Try.func63 rfl rfl rfl fun w hr => ?_
  have hr1 := RdC.mk0 hr.1
  have hr2 := RdC.mk0 hr.2
  have hxl := xpand_len m d (128 * k)
  have hxb := xpand_lt m d (128 * k)
  repeat (first
    |(refine st_cmp (r := true) (by rfl) (by rfl) (cmpN_t (by first | (simp only [cmpP]; done) | (simp only [cmpP]; omega))) (by rfl) ?_)
    |((refine st_call (by rfl) (by rfl) (by rfl) (xexpand_ok s1 s2 m d (128 * k) hm hd hl1 h1 h2 (by omega) (by omega)) .nil (fun w hw => ⟨RdW.old hr1 w hw, RdW.old hr2 w hw⟩) (by rfl) ?_; rintro _ _ ⟨x, rfl, rfl⟩))
    |refine Z01 ?_|refine Z02 ?_|refine Z03 ?_|refine Z04 ?_|refine Z05 ?_|refine Z06 ?_|refine Z07 ?_|refine Z08 ?_|refine Z09 ?_|refine Z10 ?_|refine Z11 ?_
    |refine Z12 ?_|refine Z13 ?_|refine Z14 ?_|refine Z17 ?_|refine Z18 ?_|refine Z19 ?_|refine Z20 ?_|refine Z21 ?_|refine Z36 ?_|refine Z49 ?_|refine Z50 ?_
    |refine Z51 ?_|refine Z52 ?_|refine Z53 ?_|refine Z58 ?_|refine Z59 ?_|refine Z62 ?_|refine Z63 ?_|refine Z64 ?_|refine Z65 ?_|refine Z84 fun _ => ?_
    |refine Z85 fun _ => ?_)
  generalize xpand m d (128 * k) = b at *
  refine st_own_nilM 12 71 ?_
  refine st_loop (ι := Nat × Value × Value) (fun q => q.1 ≤ k) (fun q => [(9, q.2.1), (10, N .i64 0), (11, q.2.2)]) (fun q => [.sl (wide 12 q.2.2) ((fels b q.1).flatten.map (N .u64)) 71, .sl q.2.1 ((b.drop (128 * q.1)).map (N .u8)) 5]) (fun q => k - q.1) (0, x, .slice none 0 0) (by simp) (by repeat (first | apply subL.nil | refine subL.cons (by rfl) ?_)) (by simp only [fels_0]; exact (by repeat (first | apply SubW.nil | refine SubW.cons (by repeat (first | apply Find.here | apply Find.there)) ?_))) ?_
  rintro ⟨i, v, u⟩ hi
  simp only at hi ⊢
  have hdl : (b.drop (128 * i)).length = 128 * k - 128 * i := by rw [List.length_drop, hxl]
  have hfs := fels_succ b i
  have hdb : Lt 256 (b.drop (128 * i)) := fun y hy => hxb y (List.mem_of_mem_drop hy)
  have hnx : b.drop (128 * (i + 1)) = (b.drop (128 * i)).drop 128 := by rw [List.drop_drop]; congr 1
  have hfl := fels_flat b i
  have hfl' := fels_len b i
  generalize b.drop (128 * i) = e at *
  generalize hL : fels b i = L at *
  repeat (first
    |refine Z01 ?_|refine Z02 ?_|refine Z03 ?_|refine Z04 ?_|refine Z05 ?_|refine Z06 ?_|refine Z07 ?_|refine Z08 ?_|refine Z09 ?_|refine Z10 ?_|refine Z11 ?_
    |refine Z12 ?_|refine Z13 ?_|refine Z14 ?_|refine Z17 ?_|refine Z18 ?_|refine Z19 ?_|refine Z20 ?_|refine Z21 ?_|refine Z36 ?_|refine Z49 ?_|refine Z50 ?_
    |refine Z51 ?_|refine Z52 ?_|refine Z53 ?_|refine Z58 ?_|refine Z59 ?_|refine Z62 ?_|refine Z63 ?_|refine Z64 ?_|refine Z65 ?_|refine Z84 fun _ => ?_
    |refine Z85 fun _ => ?_)
  refine st_cond (by rfl) (fun h => ?_) (fun h => ?_)
  · rw [hdl] at h
    have ha : (e.take 64).length = 64 := by rw [List.length_take, hdl]; omega
    have hc : ((e.take 128).drop 64).length = 64 := by rw [List.length_drop, List.length_take, hdl]; omega
    have hab : Lt 256 (e.take 64) := fun y hy => hdb y (List.mem_of_mem_take hy)
    have hcb : Lt 256 ((e.take 128).drop 64) := fun y hy => hdb y (List.mem_of_mem_take (List.mem_of_mem_drop hy))
    have hw1 := fun s => words_spec s (e.take 64) hab (by omega)
    have hw2 := fun s => words_spec s ((e.take 128).drop 64) hcb (by omega)
    rw [ha] at hw1
    rw [hc] at hw2
    have hv1 := fun s => pwide64 s (e.take 64) hab ha
    have hv2 := fun s => pwide64 s ((e.take 128).drop 64) hcb hc
    have hfe := fel_def e
    have hE : ∀ y ∈ [fel e], y.length = 12 := fun y hy => by rw [List.mem_singleton.1 hy]; exact fel_len _
    have hE1 := flat12_len hE
    have hs1 : ∀ (c : Cx) (W : List Res), RdW c W v (e.map (N .u8)) → RdW c W (sub v 0 64) ((e.take 64).map (N .u8)) := fun c W h => RdW.subN h (lo := 0) (hi := 64) (by omega) (by omega)
    have hs2 : ∀ (c : Cx) (W : List Res), RdW c W v (e.map (N .u8)) → RdW c W (sub v 64 128) (((e.take 128).drop 64).map (N .u8)) := fun c W h => RdW.subN h (lo := 64) (hi := 128) (by omega) (by omega)
    have hbd : (L.length + [fel e].length) * 96 ≤ 140737488355328 := by rw [hfl']; simp; omega
    have hbd2 : L.length + [fel e].length < 9223372036854775808 := by rw [hfl']; simp; omega
    have hone : 0 < [fel e].length := Nat.one_pos
    repeat (first
      |refine Z01 ?_|refine Z02 ?_|refine Z03 ?_|refine Z04 ?_|refine Z05 ?_|refine Z06 ?_|refine Z07 ?_|refine Z08 ?_|refine Z09 ?_|refine Z10 ?_|refine Z11 ?_
      |refine Z12 ?_|refine Z13 ?_|refine Z14 ?_|refine Z17 ?_|refine Z18 ?_|refine Z19 ?_|refine Z20 ?_|refine Z21 ?_|refine Z36 ?_|refine Z49 ?_|refine Z50 ?_
      |refine Z51 ?_|refine Z52 ?_|refine Z53 ?_|refine Z58 ?_|refine Z59 ?_|refine Z62 ?_|refine Z63 ?_|refine Z64 ?_|refine Z65 ?_|refine Z84 fun _ => ?_
      |refine Z85 fun _ => ?_)
    refine R.st_perm [0, 1, 5, 2, 6, 3, 7, 4, 8, 9, 10, 11, 12] (by rfl) ?_
    repeat (first
      |refine R.Zpf (by rfl)
        (by intro _ _ _;(first
        
        |((refine st_build2 (by rfl) (by rfl) (by rfl) (by rfl) (by first | exact D_len _ _ | (simp; done)) (by first | exact D_len _ _ | (simp; done)) (by rfl) ?_; rw [← hfe]))
        |refine Z01 ?_|refine Z02 ?_|refine Z17 ?_|refine Z18 ?_|refine Z19 ?_|refine Z20 ?_|refine Z21 ?_|refine Z36 ?_|refine Z49 ?_|refine Z50 ?_|refine Z58 ?_
        |refine Z59 ?_|refine Z62 ?_|refine Z63 ?_|refine Z64 ?_|refine Z65 ?_);exact Zq) ?_
      |refine R.Zpp (by rfl)
        (by intro _ _ _;(first
        |refine Z20 ?_|refine Z21 ?_|refine Z62 ?_);exact Zq) ?_
      |refine R.Zpp (by rfl)
        (by intro _ _ _;refine st_callV (by rfl) (by rfl) (by rfl) (hv1 _) (RdW.own (by repeat (first | apply Find.here | apply Find.there))) (by rfl) ?_;exact Zq) ?_
      |refine R.Zpp (by rfl)
        (by intro _ _ _;refine st_callV (by rfl) (by rfl) (by rfl) (hv2 _) (RdW.own (by repeat (first | apply Find.here | apply Find.there))) (by rfl) ?_;exact Zq) ?_
      |refine R.Zpd (by rfl)
        (by intro _ _ _;(refine st_buildSliceM (m := 12) (kk := .u64) (vss := [fel e]) (by rfl) (by rfl) (by rfl) (by rfl) (by rfl) (by rfl) (by rfl) hE (by rfl) (by rfl) fun _ => ?_);exact R.Zpdx) fun _ => ?_
      |refine R.Zpcc [4, 7, 8, 9, 10, 11, 12] [8, 3, 4, 9, 10, 11, 12] (by rfl) (by rfl)
        (by intro _ _ _;(refine st_call (by rfl) (by rfl) (by rfl) (hw1 _) .nil (hs1 _ _ (RdW.own (by repeat (first | apply Find.here | apply Find.there)))) (by rfl) ?_; rintro x1 _ rfl);exact R.Zpcx)
        (by intro _ _ _;(refine st_call (by rfl) (by rfl) (by rfl) (hw2 _) .nil (hs2 _ _ (RdW.own (by repeat (first | apply Find.here | apply Find.there)))) (by rfl) ?_; rintro x2 _ rfl);exact R.Zpcx) (fun _ => ?_) (fun _ => ?_)
      |refine R.Zpc (by rfl)
        (by intro _ _ _;(refine st_call (by rfl) (by rfl) (by rfl) (hw1 _) .nil (hs1 _ _ (RdW.own (by repeat (first | apply Find.here | apply Find.there)))) (by rfl) ?_; rintro x1 _ rfl);exact R.Zpcx) fun _ => ?_
      |refine R.Zpc (by rfl)
        (by intro _ _ _;(refine st_call (by rfl) (by rfl) (by rfl) (hw2 _) .nil (hs2 _ _ (RdW.own (by repeat (first | apply Find.here | apply Find.there)))) (by rfl) ?_; rintro x2 _ rfl);exact R.Zpcx) fun _ => ?_
      |refine R.Zpn (by rfl)
        (by intro _ _ _;(first
        |refine Z84 fun _ => ?_|refine Z85 fun _ => ?_);exact R.Zpx) fun _ => ?_
      |refine R.Zpn (by rfl)
        (by intro _ _ _;(refine st_append_M (m := 12) (kk := .u64) (xss := L) (yss := [fel e]) (by rfl) (by rfl) (by repeat (first | apply Find.here | apply Find.there)) (RdW.slv (by repeat (first | apply Find.here | apply Find.there)) hE1) (by rfl) (by rfl) (by rfl) (by rfl) (by decide) hfl hE1 hone hbd hbd2 (by rfl) fun _ => ?_; rw [← hfs]);exact R.Zpx) fun _ => ?_
      |refine R.Zpo (by rfl) ?_)
    all_goals
      repeat (first
        |refine R.Zpf (by rfl)
          (by intro _ _ _;(first
          
          |((refine st_build2 (by rfl) (by rfl) (by rfl) (by rfl) (by first | exact D_len _ _ | (simp; done)) (by first | exact D_len _ _ | (simp; done)) (by rfl) ?_; rw [← hfe]))
          |refine Z01 ?_|refine Z02 ?_|refine Z17 ?_|refine Z18 ?_|refine Z19 ?_|refine Z20 ?_|refine Z21 ?_|refine Z36 ?_|refine Z49 ?_|refine Z50 ?_|refine Z58 ?_
          |refine Z59 ?_|refine Z62 ?_|refine Z63 ?_|refine Z64 ?_|refine Z65 ?_);exact Zq) ?_
        |refine R.Zpp (by rfl)
          (by intro _ _ _;(first
          |refine Z20 ?_|refine Z21 ?_|refine Z62 ?_);exact Zq) ?_
        |refine R.Zpp (by rfl)
          (by intro _ _ _;refine st_callV (by rfl) (by rfl) (by rfl) (hv1 _) (RdW.own (by repeat (first | apply Find.here | apply Find.there))) (by rfl) ?_;exact Zq) ?_
        |refine R.Zpp (by rfl)
          (by intro _ _ _;refine st_callV (by rfl) (by rfl) (by rfl) (hv2 _) (RdW.own (by repeat (first | apply Find.here | apply Find.there))) (by rfl) ?_;exact Zq) ?_
        |refine R.Zpd (by rfl)
          (by intro _ _ _;(refine st_buildSliceM (m := 12) (kk := .u64) (vss := [fel e]) (by rfl) (by rfl) (by rfl) (by rfl) (by rfl) (by rfl) (by rfl) hE (by rfl) (by rfl) fun _ => ?_);exact R.Zpdx) fun _ => ?_
        |refine R.Zpcc [4, 7, 8, 9, 10, 11, 12] [8, 3, 4, 9, 10, 11, 12] (by rfl) (by rfl)
          (by intro _ _ _;(refine st_call (by rfl) (by rfl) (by rfl) (hw1 _) .nil (hs1 _ _ (RdW.own (by repeat (first | apply Find.here | apply Find.there)))) (by rfl) ?_; rintro x1 _ rfl);exact R.Zpcx)
          (by intro _ _ _;(refine st_call (by rfl) (by rfl) (by rfl) (hw2 _) .nil (hs2 _ _ (RdW.own (by repeat (first | apply Find.here | apply Find.there)))) (by rfl) ?_; rintro x2 _ rfl);exact R.Zpcx) (fun _ => ?_) (fun _ => ?_)
        |refine R.Zpc (by rfl)
          (by intro _ _ _;(refine st_call (by rfl) (by rfl) (by rfl) (hw1 _) .nil (hs1 _ _ (RdW.own (by repeat (first | apply Find.here | apply Find.there)))) (by rfl) ?_; rintro x1 _ rfl);exact R.Zpcx) fun _ => ?_
        |refine R.Zpc (by rfl)
          (by intro _ _ _;(refine st_call (by rfl) (by rfl) (by rfl) (hw2 _) .nil (hs2 _ _ (RdW.own (by repeat (first | apply Find.here | apply Find.there)))) (by rfl) ?_; rintro x2 _ rfl);exact R.Zpcx) fun _ => ?_
        |refine R.Zpn (by rfl)
          (by intro _ _ _;(first
          |refine Z84 fun _ => ?_|refine Z85 fun _ => ?_);exact R.Zpx) fun _ => ?_
        |refine R.Zpn (by rfl)
          (by intro _ _ _;(refine st_append_M (m := 12) (kk := .u64) (xss := L) (yss := [fel e]) (by rfl) (by rfl) (by repeat (first | apply Find.here | apply Find.there)) (RdW.slv (by repeat (first | apply Find.here | apply Find.there)) hE1) (by rfl) (by rfl) (by rfl) (by rfl) (by decide) hfl hE1 hone hbd hbd2 (by rfl) fun _ => ?_; rw [← hfs]);exact R.Zpx) fun _ => ?_
        |refine R.Zpo (by rfl) ?_)
    all_goals refine R.Zp0 ?_
    all_goals
      repeat (first
        |refine Z01 ?_|refine Z02 ?_|refine Z03 ?_|refine Z04 ?_|refine Z05 ?_|refine Z06 ?_|refine Z07 ?_|refine Z08 ?_|refine Z09 ?_|refine Z10 ?_|refine Z11 ?_
        |refine Z12 ?_|refine Z13 ?_|refine Z14 ?_|refine Z17 ?_|refine Z18 ?_|refine Z19 ?_|refine Z20 ?_|refine Z21 ?_|refine Z36 ?_|refine Z49 ?_|refine Z50 ?_
        |refine Z51 ?_|refine Z52 ?_|refine Z53 ?_|refine Z58 ?_|refine Z59 ?_|refine Z62 ?_|refine Z63 ?_|refine Z64 ?_|refine Z65 ?_|refine Z84 fun _ => ?_
        |refine Z85 fun _ => ?_)
      rename_i v9
      refine st_resl (s := v) 128 (List.map (N .u8) e).length (by repeat (first | apply Find.here | apply Find.there)) (by rw [List.length_map]; omega) (Nat.le_refl _) ?_
      rw [List.take_length, ← List.map_drop, ← hnx]
      exact st_round (i + 1, sub v 128 _, v9) (by simp only; omega) (by simp only; omega) (by repeat (first | apply subL.nil | refine subL.cons (by rfl) ?_)) (by repeat (first | apply SubW.nil | refine SubW.cons (by repeat (first | apply Find.here | apply Find.there)) ?_))
  · rw [hdl] at h
    have hik : i = k := by omega
    subst hik
    subst hL
    repeat (first
      |refine Z01 ?_|refine Z02 ?_|refine Z03 ?_|refine Z04 ?_|refine Z05 ?_|refine Z06 ?_|refine Z07 ?_|refine Z08 ?_|refine Z09 ?_|refine Z10 ?_|refine Z11 ?_
      |refine Z12 ?_|refine Z13 ?_|refine Z14 ?_|refine Z17 ?_|refine Z18 ?_|refine Z19 ?_|refine Z20 ?_|refine Z21 ?_|refine Z36 ?_|refine Z49 ?_|refine Z50 ?_
      |refine Z51 ?_|refine Z52 ?_|refine Z53 ?_|refine Z58 ?_|refine Z59 ?_|refine Z62 ?_|refine Z63 ?_|refine Z64 ?_|refine Z65 ?_|refine Z84 fun _ => ?_
      |refine Z85 fun _ => ?_)
    exact Ze2 fun _ hw => post_of hw (Wout := [.sl (wide 12 u) ((fels b i).flatten.map (N .u64)) 71]) (by exact (by repeat (first | apply SubW.nil | refine SubW.cons (by repeat (first | apply Find.here | apply Find.there)) ?_))) ⟨_, rfl, rfl⟩
theorem fields_bad (s1 s2 : Value) (d : List Nat) (c n : Int) (er : Nat) (hn : n = if 1 ≤ c ∧ c ≤ 63 then 128 * c else 0)
    (hx : Spec Try.prog 61 [s1, s2, .int .i64 n] (fun w => Rd w s2 (d.map (N .u8))) [] (IsV (.tuple [.slice none 0 0, N .i64 er].toArray))) :
    Spec Try.prog 63 [s1, s2, .int .i64 c] (fun w => Rd w s2 (d.map (N .u8))) [] (IsV (.tuple [.slice none 0 0, N .i64 er].toArray)) := by
  refine mk_spec Try.func63 rfl rfl rfl fun w hr => ?_
  have hr2 := RdC.mk0 hr
  by_cases h1 : (1 : Int) ≤ c
  · by_cases h2 : c ≤ 63
    · rw [if_pos ⟨h1, h2⟩] at hn
      obtain ⟨k, rfl⟩ := Int.eq_ofNat_of_zero_le (show 0 ≤ c by omega)
      have hx' : Spec Try.prog 61 [s1, s2, N .i64 (128 * k)] (fun w => Rd w s2 (d.map (N .u8))) [] (IsV (.tuple [.slice none 0 0, N .i64 er].toArray)) := by
        rw [hn] at hx
        exact hx
      change Go _ _ [(0, s1), (1, s2), (2, N .i64 k)] _ _
      repeat (first
        |(refine st_cmp (r := true) (by rfl) (by rfl) (cmpN_t (by first | (simp only [cmpP]; done) | (simp only [cmpP]; omega))) (by rfl) ?_)
        |(refine st_callV (by rfl) (by rfl) (by rfl) (hx') (RdW.old hr2) (by rfl) ?_)|(refine st_len (by rfl) (by rfl) RdW.nil (by rfl) ?_)|refine Z01 ?_|refine Z02 ?_
        |refine Z03 ?_|refine Z04 ?_|refine Z05 ?_|refine Z06 ?_|refine Z07 ?_|refine Z08 ?_|refine Z09 ?_|refine Z10 ?_|refine Z11 ?_|refine Z12 ?_|refine Z13 ?_
        |refine Z14 ?_|refine Z17 ?_|refine Z18 ?_|refine Z19 ?_|refine Z20 ?_|refine Z21 ?_|refine Z36 ?_|refine Z49 ?_|refine Z50 ?_|refine Z51 ?_|refine Z52 ?_
        |refine Z53 ?_|refine Z58 ?_|refine Z59 ?_|refine Z62 ?_|refine Z63 ?_|refine Z64 ?_|refine Z65 ?_|refine Z84 fun _ => ?_|refine Z85 fun _ => ?_)
      refine st_loop (ι := Nat) (fun _ => True) (fun _ => [(9, .slice none 0 0), (10, N .i64 er), (11, .slice none 0 0)]) (fun _ => []) (fun _ => 0) 0 trivial (by repeat (first | apply subL.nil | refine subL.cons (by rfl) ?_)) (by repeat (first | apply SubW.nil | refine SubW.cons (by repeat (first | apply Find.here | apply Find.there)) ?_)) ?_
      intro _ _
      repeat (first
        |(refine st_len (by rfl) (by rfl) RdW.nil (by rfl) ?_)|refine Z01 ?_|refine Z02 ?_|refine Z03 ?_|refine Z04 ?_|refine Z05 ?_|refine Z06 ?_|refine Z07 ?_
        |refine Z08 ?_|refine Z09 ?_|refine Z10 ?_|refine Z11 ?_|refine Z12 ?_|refine Z13 ?_|refine Z14 ?_|refine Z17 ?_|refine Z18 ?_|refine Z19 ?_|refine Z20 ?_
        |refine Z21 ?_|refine Z36 ?_|refine Z49 ?_|refine Z50 ?_|refine Z51 ?_|refine Z52 ?_|refine Z53 ?_|refine Z58 ?_|refine Z59 ?_|refine Z62 ?_|refine Z63 ?_
        |refine Z64 ?_|refine Z65 ?_|refine Z84 fun _ => ?_|refine Z85 fun _ => ?_)
      exact Ze2 fun _ hw => post_of hw SubW.nil ⟨rfl, rfl⟩
    · rw [if_neg (by omega)] at hn
      subst hn
      obtain ⟨k, rfl⟩ := Int.eq_ofNat_of_zero_le (show 0 ≤ c by omega)
      change Go _ _ [(0, s1), (1, s2), (2, N .i64 k)] _ _
      repeat (first
        |(refine st_cmp (r := true) (by rfl) (by rfl) (cmpN_t (by first | (simp only [cmpP]; done) | (simp only [cmpP]; omega))) (by rfl) ?_)
        |(refine st_cmp (r := false) (by rfl) (by rfl) (cmpN_f (by first | (simp only [cmpQ]; done) | (simp only [cmpQ]; omega))) (by rfl) ?_)
        |(refine st_callV (by rfl) (by rfl) (by rfl) (hx) (RdW.old hr2) (by rfl) ?_)|refine Z01 ?_|refine Z02 ?_|refine Z03 ?_|refine Z04 ?_|refine Z05 ?_|refine Z06 ?_
        |refine Z07 ?_|refine Z08 ?_|refine Z09 ?_|refine Z10 ?_|refine Z11 ?_|refine Z12 ?_|refine Z13 ?_|refine Z14 ?_|refine Z17 ?_|refine Z18 ?_|refine Z19 ?_
        |refine Z20 ?_|refine Z21 ?_|refine Z36 ?_|refine Z49 ?_|refine Z50 ?_|refine Z51 ?_|refine Z52 ?_|refine Z53 ?_|refine Z58 ?_|refine Z59 ?_|refine Z62 ?_
        |refine Z63 ?_|refine Z64 ?_|refine Z65 ?_|refine Z84 fun _ => ?_|refine Z85 fun _ => ?_)
      refine st_loop (ι := Nat) (fun _ => True) (fun _ => [(9, .slice none 0 0), (10, N .i64 er), (11, .slice none 0 0)]) (fun _ => []) (fun _ => 0) 0 trivial (by repeat (first | apply subL.nil | refine subL.cons (by rfl) ?_)) (by repeat (first | apply SubW.nil | refine SubW.cons (by repeat (first | apply Find.here | apply Find.there)) ?_)) ?_
      intro _ _
      repeat (first
        |(refine st_len (by rfl) (by rfl) RdW.nil (by rfl) ?_)|refine Z01 ?_|refine Z02 ?_|refine Z03 ?_|refine Z04 ?_|refine Z05 ?_|refine Z06 ?_|refine Z07 ?_
        |refine Z08 ?_|refine Z09 ?_|refine Z10 ?_|refine Z11 ?_|refine Z12 ?_|refine Z13 ?_|refine Z14 ?_|refine Z17 ?_|refine Z18 ?_|refine Z19 ?_|refine Z20 ?_
        |refine Z21 ?_|refine Z36 ?_|refine Z49 ?_|refine Z50 ?_|refine Z51 ?_|refine Z52 ?_|refine Z53 ?_|refine Z58 ?_|refine Z59 ?_|refine Z62 ?_|refine Z63 ?_
        |refine Z64 ?_|refine Z65 ?_|refine Z84 fun _ => ?_|refine Z85 fun _ => ?_)
      exact Ze2 fun _ hw => post_of hw SubW.nil ⟨rfl, rfl⟩
  · rw [if_neg (by omega)] at hn
    subst hn
    repeat (first
      |(rw [decide_eq_false (p := Int.ofNat 1 ≤ c) h1])|(refine st_callV (by rfl) (by rfl) (by rfl) (hx) (RdW.old hr2) (by rfl) ?_)|refine Z01 ?_|refine Z02 ?_
      |refine Z03 ?_|refine Z04 ?_|refine Z05 ?_|refine Z06 ?_|refine Z07 ?_|refine Z08 ?_|refine Z09 ?_|refine Z10 ?_|refine Z11 ?_|refine Z12 ?_|refine Z13 ?_
      |refine Z14 ?_|refine Z17 ?_|refine Z18 ?_|refine Z19 ?_|refine Z20 ?_|refine Z21 ?_|refine Z36 ?_|refine Z49 ?_|refine Z50 ?_|refine Z51 ?_|refine Z52 ?_
      |refine Z53 ?_|refine Z58 ?_|refine Z59 ?_|refine Z62 ?_|refine Z63 ?_|refine Z64 ?_|refine Z65 ?_|refine Z84 fun _ => ?_|refine Z85 fun _ => ?_)
    refine st_loop (ι := Nat) (fun _ => True) (fun _ => [(9, .slice none 0 0), (10, N .i64 er), (11, .slice none 0 0)]) (fun _ => []) (fun _ => 0) 0 trivial (by repeat (first | apply subL.nil | refine subL.cons (by rfl) ?_)) (by repeat (first | apply SubW.nil | refine SubW.cons (by repeat (first | apply Find.here | apply Find.there)) ?_)) ?_
    intro _ _
    repeat (first
      |(refine st_len (by rfl) (by rfl) RdW.nil (by rfl) ?_)|refine Z01 ?_|refine Z02 ?_|refine Z03 ?_|refine Z04 ?_|refine Z05 ?_|refine Z06 ?_|refine Z07 ?_
      |refine Z08 ?_|refine Z09 ?_|refine Z10 ?_|refine Z11 ?_|refine Z12 ?_|refine Z13 ?_|refine Z14 ?_|refine Z17 ?_|refine Z18 ?_|refine Z19 ?_|refine Z20 ?_
      |refine Z21 ?_|refine Z36 ?_|refine Z49 ?_|refine Z50 ?_|refine Z51 ?_|refine Z52 ?_|refine Z53 ?_|refine Z58 ?_|refine Z59 ?_|refine Z62 ?_|refine Z63 ?_
      |refine Z64 ?_|refine Z65 ?_|refine Z84 fun _ => ?_|refine Z85 fun _ => ?_)
    exact Ze2 fun _ hw => post_of hw SubW.nil ⟨rfl, rfl⟩
end Go.Proofs.Ytbjfjkmidhfgcaa.L
namespace Go.Proofs.Ytbjfjkmidhfgcaa.L.Kf
open Pr
section ring
variable {n : Nat} [NeZero n]
def κ (n : Nat) [NeZero n] (a : Nat) : Fin n := Fin.ofNat n a
end ring
section field
variable {n : Nat} [NeZero n] (hp : Prime n)
include hp
omit hp
def inv (a : Fin n) : Fin n := a ^ (n - 2)
include hp
end field
end Go.Proofs.Ytbjfjkmidhfgcaa.L.Kf
namespace Go.Proofs.Ytbjfjkmidhfgcaa.L
open Go Go.Proofs
set_option maxRecDepth 100000
attribute [local irreducible] Code.wp wpList Af bodyPost L.Go
open Num
attribute [local simp] D_len
instance nzp : NeZero p := ⟨Nat.ne_of_gt p_pos⟩
end Go.Proofs.Ytbjfjkmidhfgcaa.L
namespace Go.Proofs.Ytbjfjkmidhfgcaa.L.Kf
open Pr
abbrev P3 (n : Nat) : Prop := Prime n ∧ n % 4 = 3
section roots
variable {n : Nat} [NeZero n]
variable (hp : P3 n)
include hp
omit hp
include hp
omit hp
end roots
structure K2 (n : Nat) where
  re : Fin n
  im : Fin n
deriving DecidableEq
namespace K2
variable {n : Nat} [NeZero n]
def zero : K2 n := ⟨0, 0⟩
def one : K2 n := ⟨1, 0⟩
def add (a b : K2 n) : K2 n := ⟨a.re + b.re, a.im + b.im⟩
def neg (a : K2 n) : K2 n := ⟨-a.re, -a.im⟩
def sub (a b : K2 n) : K2 n := ⟨a.re - b.re, a.im - b.im⟩
def mul (a b : K2 n) : K2 n := ⟨a.re * b.re - a.im * b.im, a.re * b.im + a.im * b.re⟩
def conj (a : K2 n) : K2 n := ⟨a.re, -a.im⟩
def scale (a : K2 n) (k : Fin n) : K2 n := ⟨a.re * k, a.im * k⟩
def norm (a : K2 n) : Fin n := a.re * a.re + a.im * a.im
def inv (a : K2 n) : K2 n := scale (conj a) (Kf.inv (norm a))
def pw (a : K2 n) : Nat → K2 n
  | 0 => one
  | k + 1 => mul (pw a k) a
variable (hp : P3 n)
include hp
omit hp
include hp
omit hp
include hp
end K2
end Go.Proofs.Ytbjfjkmidhfgcaa.L.Kf
namespace Go.Proofs.Ytbjfjkmidhfgcaa.L.Kf
open Pr
namespace K2
variable {n : Nat} [NeZero n]
def ch : Nat → Nat → Nat
  | _, 0 => 1
  | 0, _ + 1 => 0
  | m + 1, k + 1 => ch m k + ch m (k + 1)
def sm (f : Nat → K2 n) : Nat → K2 n
  | 0 => zero
  | k + 1 => add (sm f k) (f k)
variable (hp : P3 n)
include hp
omit hp
def hv (n : Nat) [NeZero n] : Fin n := κ n ((n + 1) / 2)
include hp
omit hp
include hp
omit hp
include hp
end K2
end Go.Proofs.Ytbjfjkmidhfgcaa.L.Kf
namespace Go.Proofs.Ytbjfjkmidhfgcaa.L
open Go Go.Proofs
set_option maxRecDepth 100000
attribute [local irreducible] Code.wp wpList Af bodyPost L.Go
open Num
attribute [local simp] D_len
abbrev Fq := Fin p
abbrev kp (a : Nat) : Fq := Kf.κ p a
theorem val_lt (x : Fq) : x.val < W ^ 6 := Nat.lt_trans x.isLt p_lt
end Go.Proofs.Ytbjfjkmidhfgcaa.L
namespace Go.Proofs.Ytbjfjkmidhfgcaa.L
open Go Go.Proofs
set_option maxRecDepth 100000
attribute [local irreducible] Code.wp wpList Af bodyPost L.Go
open Num
attribute [local simp] D_len
abbrev F2 := Kf.K2 p
abbrev k2 (a b : Nat) : F2 := ⟨kp a, kp b⟩
end Go.Proofs.Ytbjfjkmidhfgcaa.L
namespace Go.Proofs.Ytbjfjkmidhfgcaa.L
open Go Go.Proofs
set_option maxRecDepth 100000
attribute [local irreducible] Code.wp wpList Af bodyPost L.Go
open Sha
def kQ : List Nat := [81, 85, 85, 88, 45, 86, 48, 49, 45, 67, 83, 48, 50, 45, 119, 105, 116, 104, 45, 101, 120, 112, 97, 110, 100, 101, 114, 45, 83, 72, 65, 50, 53, 54, 45, 49, 50, 56]
def kX : List Nat := [120]
theorem kQ_lt : Lt 256 kQ := by unfold Lt kQ; decide
theorem kX_lt : Lt 256 kX := by unfold Lt kX; decide
theorem nilLt (m : Nat) : Lt m [] := by intro x hx; cases hx
theorem xq_0 : (xpand [] kQ 32).getD 0 0 = 104 := by decide +kernel
theorem xq_1 : (xpand [] kQ 32).getD 1 0 = 169 := by decide +kernel
set_option maxHeartbeats 2000000 in
theorem awake17_spec : Spec Try.prog 59 [] NoPre [] (IsV (.bool true)) := by
  refine mk_spec Try.func59 rfl rfl rfl fun w hr => ?_
  have e0 : decide ((xpand [] kQ 32).getD 0 0 = 104) = true := decide_eq_true xq_0
  have e1 : decide ((xpand [] kQ 32).getD 1 0 = 169) = true := decide_eq_true xq_1
  have hxl := xpand_len [] kQ 32
  have hfl : (((fels (xpand [] kX (128 * 2)) 2).flatten).map (N .u64)).length = 2 * 12 := by rw [List.length_map, fels_flat, fels_len]
  repeat (first
    |(rw [e0])|(rw [e1])|(rw [hxl])|((refine st_buildSliceN (vs := kQ) (kk := .u8) (by rfl) (by rfl) (by rfl) (by rfl) (by rfl) (by rfl) (by rfl) (by rfl) fun _ => ?_))
    |((refine st_buildSliceN (vs := kX) (kk := .u8) (by rfl) (by rfl) (by rfl) (by rfl) (by rfl) (by rfl) (by rfl) (by rfl) fun _ => ?_))
    |(refine st_conv_sl (xs := kQ.map (N .u8)) (by rfl) (by repeat (first | apply Find.here | apply Find.there)) (by simp [kQ]) (by rfl) (by rfl) (by rfl) ?_)
    |(refine st_conv_sl (xs := kX.map (N .u8)) (by rfl) (by repeat (first | apply Find.here | apply Find.there)) (by simp [kX]) (by rfl) (by rfl) (by rfl) ?_)
    |((refine st_call (by rfl) (by rfl) (by rfl) (xexpand_ok (.slice none 0 0) _ [] kQ 32 (nilLt _) kQ_lt (by simp) (by simp [kQ]) (by simp [kQ]) (by decide) (by decide)) .nil (fun w hw => ⟨RdW.nil w hw, RdW.own (by repeat (first | apply Find.here | apply Find.there)) w hw⟩) (by rfl) ?_; rintro _ _ ⟨x, rfl, rfl⟩))
    |(refine st_callV (by rfl) (by rfl) (by rfl) (xexpand_dst (.slice none 0 0) (.slice none 0 0) [] 32 (.inl (by decide))) (RdW.nil) (by rfl) ?_)
    |(refine st_callV (by rfl) (by rfl) (by rfl) (xexpand_len (.slice none 0 0) _ kX 0 (by simp [kX]) (by simp [kX]) (.inl (by decide))) (RdW.own (by repeat (first | apply Find.here | apply Find.there))) (by rfl) ?_)
    |((refine st_call (by rfl) (by rfl) (by rfl) (fields_ok (.slice none 0 0) _ [] kX 2 (nilLt _) kX_lt (by simp) (by simp [kX]) (by simp [kX]) (by decide) (by decide)) .nil (fun w hw => ⟨RdW.nil w hw, RdW.own (by repeat (first | apply Find.here | apply Find.there)) w hw⟩) (by rfl) ?_; rintro _ _ ⟨y, rfl, rfl⟩))
    |((refine st_len_M (m := 12) (k := 2) (by rfl) (by rfl) (RdW.own (by repeat (first | apply Find.here | apply Find.there))) (by decide) hfl (by rfl) ?_))|refine Z01 ?_
    |refine Z02 ?_|refine Z03 ?_|refine Z04 ?_|refine Z05 ?_|refine Z06 ?_|refine Z07 ?_|refine Z08 ?_|refine Z09 ?_|refine Z10 ?_|refine Z11 ?_|refine Z12 ?_
    |refine Z13 ?_|refine Z14 ?_|refine Z17 ?_|refine Z18 ?_|refine Z19 ?_|refine Z20 ?_|refine Z21 ?_|refine Z22 ?_|refine Z23 ?_|refine Z24 ?_|refine Z25 ?_
    |refine Z26 ?_|refine Z27 ?_|refine Z28 ?_|refine Z44 ?_|refine Z45 ?_|refine Z49 ?_|refine Z50 ?_|refine Z51 ?_|refine Z52 ?_|refine Z53 ?_|refine Z58 ?_
    |refine Z59 ?_|refine Z67 ?_|refine Z74 ?_|refine Z80 ?_|refine Z85 fun _ => ?_)

  refine Ze1 fun _ hw => post_of hw SubW.nil ⟨?_, rfl⟩
  rfl
theorem few17_spec (s t : Value) (a b : List Nat) (h1 : a.length < 9223372036854775808) (h2 : b.length < 9223372036854775808) :
    Spec Try.prog 60 [s, t] (fun w => Rd w s (a.map (N .u8)) ∧ Rd w t (b.map (N .u8))) [] (IsV (.bool (decide (a.length ≤ 500 ∧ b.length ≤ 500)))) := by
  refine mk_spec Try.func60 rfl rfl rfl fun w hr => ?_
  have hr1 := RdC.mk0 hr.1
  have hr2 := RdC.mk0 hr.2
  by_cases ha : a.length ≤ 500
  · by_cases hb : b.length ≤ 500
    · repeat (first
        |(refine st_cmp (r := true) (by rfl) (by rfl) (cmpN_t (by first | (simp only [cmpP]; done) | (simp only [cmpP]; omega))) (by rfl) ?_)|refine Z01 ?_|refine Z02 ?_
        |refine Z03 ?_|refine Z04 ?_|refine Z05 ?_|refine Z06 ?_|refine Z07 ?_|refine Z08 ?_|refine Z09 ?_|refine Z10 ?_|refine Z11 ?_|refine Z12 ?_|refine Z13 ?_
        |refine Z14 ?_|refine Z17 ?_|refine Z18 ?_|refine Z20 ?_|refine Z21 ?_|refine Z49 ?_|refine Z50 ?_|refine Z51 ?_|refine Z52 ?_|refine Z53 ?_|refine Z58 ?_
        |refine Z59 ?_)
      refine Ze1 fun _ hw => post_of hw SubW.nil ⟨?_, rfl⟩
      rw [decide_eq_true ⟨ha, hb⟩]
    · repeat (first
        |(refine st_cmp (r := true) (by rfl) (by rfl) (cmpN_t (by first | (simp only [cmpP]; done) | (simp only [cmpP]; omega))) (by rfl) ?_)
        |(refine st_cmp (r := false) (by rfl) (by rfl) (cmpN_f (by first | (simp only [cmpQ]; done) | (simp only [cmpQ]; omega))) (by rfl) ?_)|refine Z01 ?_|refine Z02 ?_
        |refine Z03 ?_|refine Z04 ?_|refine Z05 ?_|refine Z06 ?_|refine Z07 ?_|refine Z08 ?_|refine Z09 ?_|refine Z10 ?_|refine Z11 ?_|refine Z12 ?_|refine Z13 ?_
        |refine Z14 ?_|refine Z17 ?_|refine Z18 ?_|refine Z20 ?_|refine Z21 ?_|refine Z49 ?_|refine Z50 ?_|refine Z51 ?_|refine Z52 ?_|refine Z53 ?_|refine Z58 ?_
        |refine Z59 ?_)
      refine Ze1 fun _ hw => post_of hw SubW.nil ⟨?_, rfl⟩
      rw [decide_eq_false (fun h => hb h.2)]
  · repeat (first
      |(refine st_cmp (r := false) (by rfl) (by rfl) (cmpN_f (by first | (simp only [cmpQ]; done) | (simp only [cmpQ]; omega))) (by rfl) ?_)|refine Z01 ?_|refine Z02 ?_
      |refine Z03 ?_|refine Z04 ?_|refine Z05 ?_|refine Z06 ?_|refine Z07 ?_|refine Z08 ?_|refine Z09 ?_|refine Z10 ?_|refine Z11 ?_|refine Z12 ?_|refine Z13 ?_
      |refine Z14 ?_|refine Z17 ?_|refine Z18 ?_|refine Z20 ?_|refine Z21 ?_|refine Z49 ?_|refine Z50 ?_|refine Z51 ?_|refine Z52 ?_|refine Z53 ?_|refine Z58 ?_
      |refine Z59 ?_)
    refine Ze1 fun _ hw => post_of hw SubW.nil ⟨?_, rfl⟩
    rw [decide_eq_false (fun h => ha h.1)]
end Go.Proofs.Ytbjfjkmidhfgcaa.L
namespace Go.Proofs.Ytbjfjkmidhfgcaa.L
open Go Go.Proofs
set_option maxRecDepth 100000
attribute [local irreducible] Code.wp wpList Af bodyPost L.Go
open Sha
attribute [local simp] sum_len
theorem neg_or (m : Int) : 0 ≤ m ∨ ∃ k : Nat, -(m + 1) = Int.ofNat k := by
  by_cases h : 0 ≤ m
  · exact .inl h
  · exact .inr ⟨(-(m + 1)).toNat, by show -(m + 1) = ((-(m + 1)).toNat : Int); omega⟩
end Go.Proofs.Ytbjfjkmidhfgcaa.L
namespace Go.Proofs.Ytbjfjkmidhfgcaa.L
open Go Go.Proofs
set_option maxRecDepth 100000
attribute [local irreducible] Code.wp wpList Af bodyPost L.Go
open Num
attribute [local simp] D_len
set_option maxHeartbeats 8000000 in
theorem lawNumbers17_spec (s1 : Value) (m : List Nat) (hm : Lt 256 m) (m63 : m.length < 9223372036854775808) (s2 : Value) (d : List Nat) (hd : Lt 256 d) (d63 : d.length < 9223372036854775808) (x : Int) (_ : -9223372036854775808 ≤ x ∧ x < 9223372036854775808) :
    Spec Try.prog 18 [s1, s2, .int .i64 x] (fun w => Rd w s1 (m.map (N .u8)) ∧ Rd w s2 (d.map (N .u8))) [] (IsV (.bool true)) := by
  refine mk_spec Try.func18 rfl rfl rfl fun w hr => ?_
  have hr1 := RdC.mk0 hr.1
  have hr2 := RdC.mk0 hr.2
  repeat (first
    |(refine st_callV (by rfl) (by rfl) (by rfl) (awake17_spec) (fun _ _ => trivial) (by rfl) ?_)
    |(refine st_callV (by rfl) (by rfl) (by rfl) (few17_spec s1 s2 m d m63 d63) (fun w hw => ⟨RdW.old hr1 w hw, RdW.old hr2 w hw⟩) (by rfl) ?_)|refine Z01 ?_
    |refine Z02 ?_|refine Z03 ?_|refine Z04 ?_|refine Z05 ?_|refine Z06 ?_|refine Z07 ?_|refine Z08 ?_|refine Z09 ?_|refine Z10 ?_|refine Z11 ?_|refine Z12 ?_
    |refine Z13 ?_|refine Z14 ?_|refine Z15 ?_|refine Z17 ?_|refine Z18 ?_|refine Z19 ?_|refine Z20 ?_|refine Z21 ?_|refine Z22 ?_|refine Z23 ?_|refine Z24 ?_
    |refine Z25 ?_|refine Z26 ?_|refine Z27 ?_|refine Z28 ?_|refine Z29 ?_|refine Z30 ?_|refine Z31 ?_|refine Z32 ?_|refine Z36 ?_|refine Z38 ?_|refine Z49 ?_
    |refine Z50 ?_|refine Z51 ?_|refine Z52 ?_|refine Z53 ?_|refine Z54 ?_|refine Z58 ?_|refine Z59 ?_|refine Z62 ?_|refine Z63 ?_|refine Z64 ?_|refine Z65 ?_
    |refine Z67 ?_|refine Z70 ?_|refine Z72 ?_|refine Z73 ?_|refine Z77 ?_|refine Z78 ?_|refine Z79 ?_|refine Z82 fun _ => ?_)
  by_cases hfew : m.length ≤ 500 ∧ d.length ≤ 500
  case neg =>
    rw [decide_eq_false hfew]
    repeat (first
      |refine Z01 ?_|refine Z02 ?_|refine Z03 ?_|refine Z04 ?_|refine Z05 ?_|refine Z06 ?_|refine Z07 ?_|refine Z08 ?_|refine Z09 ?_|refine Z10 ?_|refine Z11 ?_
      |refine Z12 ?_|refine Z13 ?_|refine Z14 ?_|refine Z15 ?_|refine Z17 ?_|refine Z18 ?_|refine Z19 ?_|refine Z20 ?_|refine Z21 ?_|refine Z22 ?_|refine Z23 ?_
      |refine Z24 ?_|refine Z25 ?_|refine Z26 ?_|refine Z27 ?_|refine Z28 ?_|refine Z29 ?_|refine Z30 ?_|refine Z31 ?_|refine Z32 ?_|refine Z36 ?_|refine Z38 ?_
      |refine Z49 ?_|refine Z50 ?_|refine Z51 ?_|refine Z52 ?_|refine Z53 ?_|refine Z54 ?_|refine Z58 ?_|refine Z59 ?_|refine Z62 ?_|refine Z63 ?_|refine Z64 ?_
      |refine Z65 ?_|refine Z67 ?_|refine Z70 ?_|refine Z72 ?_|refine Z73 ?_|refine Z77 ?_|refine Z78 ?_|refine Z79 ?_|refine Z82 fun _ => ?_)
    refine Ze1 fun _ hw => post_of hw SubW.nil ⟨?_, rfl⟩
    rfl
  rw [decide_eq_true hfew]
  have hm5 : m.length < 1073741824 := by omega
  clear hfew
  rcases neg_or x with h0 | ⟨k, hk⟩
  · obtain ⟨k, rfl⟩ : ∃ m : Nat, x = Int.ofNat m := ⟨x.toNat, by show x = ((x.toNat : Nat) : Int); omega⟩
    repeat (first
      |(refine st_cmp (r := false) (by rfl) (by rfl) (cmpN_f (by first | (simp only [cmpQ]; done) | (simp only [cmpQ]; omega))) (by rfl) ?_)|refine Z01 ?_|refine Z02 ?_
      |refine Z03 ?_|refine Z04 ?_|refine Z05 ?_|refine Z06 ?_|refine Z07 ?_|refine Z08 ?_|refine Z09 ?_|refine Z10 ?_|refine Z11 ?_|refine Z12 ?_|refine Z13 ?_
      |refine Z14 ?_|refine Z15 ?_|refine Z17 ?_|refine Z18 ?_|refine Z19 ?_|refine Z20 ?_|refine Z21 ?_|refine Z22 ?_|refine Z23 ?_|refine Z24 ?_|refine Z25 ?_
      |refine Z26 ?_|refine Z27 ?_|refine Z28 ?_|refine Z29 ?_|refine Z30 ?_|refine Z31 ?_|refine Z32 ?_|refine Z36 ?_|refine Z38 ?_|refine Z49 ?_|refine Z50 ?_
      |refine Z51 ?_|refine Z52 ?_|refine Z53 ?_|refine Z54 ?_|refine Z58 ?_|refine Z59 ?_|refine Z62 ?_|refine Z63 ?_|refine Z64 ?_|refine Z65 ?_|refine Z67 ?_
      |refine Z70 ?_|refine Z72 ?_|refine Z73 ?_|refine Z77 ?_|refine Z78 ?_|refine Z79 ?_|refine Z82 fun _ => ?_)
    have hn1 : 1 ≤ 1 + k % 4 := by omega
    have hn8 : 1 + k % 4 ≤ 4 := by omega
    obtain ⟨n, hn⟩ : ∃ n, n = 1 + k % 4 := ⟨_, rfl⟩
    rw [← hn] at hn1 hn8
    have hni : (n : Int) = 1 + (k : Int) % 4 := by omega
    have hnn : (128 * n : Nat) = (if 1 ≤ (n : Int) ∧ (n : Int) ≤ 63 then 128 * (n : Int) else 0) := by rw [if_pos ⟨by omega, by omega⟩]; simp
    by_cases hdst : d.length < 1 ∨ 255 < d.length
    · have hf1 := fields_bad s1 s2 d n (128 * n : Nat) 170 hnn (xexpand_dst s1 s2 d (128 * n : Nat) hdst)
      have hX := xexpand_dst s1 s2 d (128 * n : Nat) hdst
      repeat (first
        |(rw [← hn])|(refine st_cmp (r := false) (by rfl) (by rfl) (cmpN_f (by first | (simp only [cmpQ]; done) | (simp only [cmpQ]; omega))) (by rfl) ?_)
        |(refine st_callV (by rfl) (by rfl) (by rfl) (hf1) (RdW.old hr2) (by rfl) ?_)|(refine st_callV (by rfl) (by rfl) (by rfl) (hX) (RdW.old hr2) (by rfl) ?_)
        |(refine st_len (by rfl) (by rfl) RdW.nil (by rfl) ?_)|refine Z01 ?_|refine Z02 ?_|refine Z03 ?_|refine Z04 ?_|refine Z05 ?_|refine Z06 ?_|refine Z07 ?_
        |refine Z08 ?_|refine Z09 ?_|refine Z10 ?_|refine Z11 ?_|refine Z12 ?_|refine Z13 ?_|refine Z14 ?_|refine Z15 ?_|refine Z17 ?_|refine Z18 ?_|refine Z19 ?_
        |refine Z20 ?_|refine Z21 ?_|refine Z22 ?_|refine Z23 ?_|refine Z24 ?_|refine Z25 ?_|refine Z26 ?_|refine Z27 ?_|refine Z28 ?_|refine Z29 ?_|refine Z30 ?_
        |refine Z31 ?_|refine Z32 ?_|refine Z36 ?_|refine Z38 ?_|refine Z49 ?_|refine Z50 ?_|refine Z51 ?_|refine Z52 ?_|refine Z53 ?_|refine Z54 ?_|refine Z58 ?_
        |refine Z59 ?_|refine Z62 ?_|refine Z63 ?_|refine Z64 ?_|refine Z65 ?_|refine Z67 ?_|refine Z70 ?_|refine Z72 ?_|refine Z73 ?_|refine Z77 ?_|refine Z78 ?_
        |refine Z79 ?_|refine Z82 fun _ => ?_)
      refine Ze1 fun _ hw => post_of hw SubW.nil ⟨?_, rfl⟩
      rfl
    have hd1 : 1 ≤ d.length := by omega
    have hd2 : d.length ≤ 255 := by omega
    clear hdst hnn hni
    have hxl := xpand_len m d (128 * n)
    have hxb := xpand_lt m d (128 * n)
    have hfl : (((fels (xpand m d (128 * n)) n).flatten).map (N .u64)).length = n * 12 := by rw [List.length_map, fels_flat, fels_len]
    repeat (first
      |(rw [← hn])|(refine st_cmp (r := false) (by rfl) (by rfl) (cmpN_f (by first | (simp only [cmpQ]; done) | (simp only [cmpQ]; omega))) (by rfl) ?_)
      |((refine st_call (by rfl) (by rfl) (by rfl) (fields_ok s1 s2 m d n hm hd hm5 hd1 hd2 (by omega) (by omega)) .nil (fun w hw => ⟨RdW.old hr1 w hw, RdW.old hr2 w hw⟩) (by rfl) ?_; rintro _ _ ⟨x, rfl, rfl⟩))
      |((refine st_call (by rfl) (by rfl) (by rfl) (xexpand_ok s1 s2 m d (128 * n) hm hd hm5 hd1 hd2 (by omega) (by omega)) .nil (fun w hw => ⟨RdW.old hr1 w hw, RdW.old hr2 w hw⟩) (by rfl) ?_; rintro _ _ ⟨y, rfl, rfl⟩))
      |(rw [hxl])
      |((refine st_len_M (m := 12) (k := n) (s := x) (by rfl) (by rfl) (RdW.own (by repeat (first | apply Find.here | apply Find.there))) (by decide) hfl (by rfl) ?_))
      |refine Z01 ?_|refine Z02 ?_|refine Z03 ?_|refine Z04 ?_|refine Z05 ?_|refine Z06 ?_|refine Z07 ?_|refine Z08 ?_|refine Z09 ?_|refine Z10 ?_|refine Z11 ?_
      |refine Z12 ?_|refine Z13 ?_|refine Z14 ?_|refine Z15 ?_|refine Z17 ?_|refine Z18 ?_|refine Z19 ?_|refine Z20 ?_|refine Z21 ?_|refine Z22 ?_|refine Z23 ?_
      |refine Z24 ?_|refine Z25 ?_|refine Z26 ?_|refine Z27 ?_|refine Z28 ?_|refine Z29 ?_|refine Z30 ?_|refine Z31 ?_|refine Z32 ?_|refine Z36 ?_|refine Z38 ?_
      |refine Z49 ?_|refine Z50 ?_|refine Z51 ?_|refine Z52 ?_|refine Z53 ?_|refine Z54 ?_|refine Z58 ?_|refine Z59 ?_|refine Z62 ?_|refine Z63 ?_|refine Z64 ?_
      |refine Z65 ?_|refine Z67 ?_|refine Z70 ?_|refine Z72 ?_|refine Z73 ?_|refine Z77 ?_|refine Z78 ?_|refine Z79 ?_|refine Z82 fun _ => ?_)
    have hget := fun i (h : i < n) => fels_get (xpand m d (128 * n)) (k := n) (i := i) h
    have hE := fels_each (xpand m d (128 * n)) n
    generalize fels (xpand m d (128 * n)) n = L at *
    generalize xpand m d (128 * n) = b at *
    refine st_loop (ι := Nat) (fun i => i ≤ n) (fun i => [(2, N .i64 n), (7, .bool true), (8, x), (10, y), (12, N .i64 i)])
      (fun i => [.sl (wide 12 x) (L.flatten.map (N .u64)) 71, .sl y (b.map (N .u8)) 5]) (fun i => n - i) 0 (by omega) (by repeat (first | apply subL.nil | refine subL.cons (by rfl) ?_)) (by repeat (first | apply SubW.nil | refine SubW.cons (by repeat (first | apply Find.here | apply Find.there)) ?_)) ?_
    intro i hi
    repeat (first
      |refine Z01 ?_|refine Z02 ?_|refine Z03 ?_|refine Z04 ?_|refine Z05 ?_|refine Z06 ?_|refine Z07 ?_|refine Z08 ?_|refine Z09 ?_|refine Z10 ?_|refine Z11 ?_
      |refine Z12 ?_|refine Z13 ?_|refine Z14 ?_|refine Z15 ?_|refine Z17 ?_|refine Z18 ?_|refine Z19 ?_|refine Z20 ?_|refine Z21 ?_|refine Z22 ?_|refine Z23 ?_
      |refine Z24 ?_|refine Z25 ?_|refine Z26 ?_|refine Z27 ?_|refine Z28 ?_|refine Z29 ?_|refine Z30 ?_|refine Z31 ?_|refine Z32 ?_|refine Z36 ?_|refine Z38 ?_
      |refine Z49 ?_|refine Z50 ?_|refine Z51 ?_|refine Z52 ?_|refine Z53 ?_|refine Z54 ?_|refine Z58 ?_|refine Z59 ?_|refine Z62 ?_|refine Z63 ?_|refine Z64 ?_
      |refine Z65 ?_|refine Z67 ?_|refine Z70 ?_|refine Z72 ?_|refine Z73 ?_|refine Z77 ?_|refine Z78 ?_|refine Z79 ?_|refine Z82 fun _ => ?_)
    refine st_cond (by rfl) (fun h => ?_) (fun h => ?_)
    · have hg := hget i h
      have hfe := fel_def (b.drop (128 * i))
      have ha : ((b.drop (128 * i)).take 64).length = 64 := by rw [List.length_take, List.length_drop, hxl]; omega
      have hc : (((b.drop (128 * i)).take 128).drop 64).length = 64 := by rw [List.length_drop, List.length_take, List.length_drop, hxl]; omega
      have hab : Lt 256 ((b.drop (128 * i)).take 64) := fun y hy => hxb y (List.mem_of_mem_drop (List.mem_of_mem_take hy))
      have hcb : Lt 256 (((b.drop (128 * i)).take 128).drop 64) := fun y hy => hxb y (List.mem_of_mem_drop (List.mem_of_mem_take (List.mem_of_mem_drop hy)))
      have hw1 := fun s => words_spec s _ hab (by omega)
      have hw2 := fun s => words_spec s _ hcb (by omega)
      rw [ha] at hw1
      rw [hc] at hw2
      have hv1 := fun s => pwide64 s _ hab ha
      have hv2 := fun s => pwide64 s _ hcb hc
      have hs1 : ∀ (c : Cx) (W : List Res), RdW c W y (b.map (N .u8)) → RdW c W (sub y (128 * i) (128 * i + 64)) (((b.drop (128 * i)).take 64).map (N .u8)) := fun c W h => by
        have := RdW.subN h (lo := 128 * i) (hi := 128 * i + 64) (by omega) (by omega)
        rwa [List.drop_take, show 128 * i + 64 - 128 * i = 64 by omega] at this
      have hs2 : ∀ (c : Cx) (W : List Res), RdW c W y (b.map (N .u8)) → RdW c W (sub y (128 * i + 64) (128 * i + 128)) ((((b.drop (128 * i)).take 128).drop 64).map (N .u8)) := fun c W h => by
        have := RdW.subN h (lo := 128 * i + 64) (hi := 128 * i + 128) (by omega) (by omega)
        rwa [show List.drop (128 * i + 64) (List.take (128 * i + 128) b) = List.drop 64 (List.take 128 (List.drop (128 * i) b)) by rw [List.drop_take, List.drop_take, List.drop_drop, show 128 * i + 128 - (128 * i + 64) = 64 by omega]] at this
      have hr6 := preduce_spec (a := bval ((b.drop (128 * i)).take 64) % p) (Nat.lt_trans (Nat.mod_lt _ p_pos) p_lt)
      have hr7 := preduce_spec (a := bval (((b.drop (128 * i)).take 128).drop 64) % p) (Nat.lt_trans (Nat.mod_lt _ p_pos) p_lt)
      rw [Nat.mod_mod] at hr6 hr7
      generalize bval ((b.drop (128 * i)).take 64) % p = z1 at *
      generalize bval (((b.drop (128 * i)).take 128).drop 64) % p = z2 at *
      generalize (b.drop (128 * i)).take 64 = b1 at *
      generalize ((b.drop (128 * i)).take 128).drop 64 = b2 at *
      rw [hfe] at hg
      clear hfe hget
      repeat (first
        |(refine st_alloc (v := LV .u64 (List.replicate 6 0)) (by rfl) (by rfl) fun _ => ?_)
        |((refine st_call (by rfl) (by rfl) (by rfl) (hw1 _) .nil (hs1 _ _ (RdW.own (by repeat (first | apply Find.here | apply Find.there)))) (by rfl) ?_; rintro x1 _ rfl))
        |((refine st_call (by rfl) (by rfl) (by rfl) (hw2 _) .nil (hs2 _ _ (RdW.own (by repeat (first | apply Find.here | apply Find.there)))) (by rfl) ?_; rintro x2 _ rfl))
        |(refine st_callV (by rfl) (by rfl) (by rfl) (hv1 _) (RdW.own (by repeat (first | apply Find.here | apply Find.there))) (by rfl) ?_)
        |(refine st_callV (by rfl) (by rfl) (by rfl) (hv2 _) (RdW.own (by repeat (first | apply Find.here | apply Find.there))) (by rfl) ?_)|refine Z01 ?_|refine Z02 ?_
        |refine Z03 ?_|refine Z04 ?_|refine Z05 ?_|refine Z06 ?_|refine Z07 ?_|refine Z08 ?_|refine Z09 ?_|refine Z10 ?_|refine Z11 ?_|refine Z12 ?_|refine Z13 ?_
        |refine Z14 ?_|refine Z15 ?_|refine Z17 ?_|refine Z18 ?_|refine Z19 ?_|refine Z20 ?_|refine Z21 ?_|refine Z22 ?_|refine Z23 ?_|refine Z24 ?_|refine Z25 ?_
        |refine Z26 ?_|refine Z27 ?_|refine Z28 ?_|refine Z29 ?_|refine Z30 ?_|refine Z31 ?_|refine Z32 ?_|refine Z36 ?_|refine Z38 ?_|refine Z49 ?_|refine Z50 ?_
        |refine Z51 ?_|refine Z52 ?_|refine Z53 ?_|refine Z54 ?_|refine Z58 ?_|refine Z59 ?_|refine Z62 ?_|refine Z63 ?_|refine Z64 ?_|refine Z65 ?_|refine Z67 ?_
        |refine Z70 ?_|refine Z72 ?_|refine Z73 ?_|refine Z77 ?_|refine Z78 ?_|refine Z79 ?_|refine Z82 fun _ => ?_)
      have hp0 := PartAt.nth hE hg
      have hp1 : PartAt L.flatten (i * 12 + 0) 6 (D 6 z1) := hp0.trans (PartAt.l (D_len 6 z1))
      have hp2 : PartAt L.flatten (i * 12 + 6) 6 (D 6 z2) := hp0.trans (PartAt.r (D_len 6 z1) (D_len 6 z2))
      have hne : 0 < (L.flatten.map (N .u64)).length := by rw [hfl]; omega
      have hrr : (decide (D 6 z1 = D 6 z1) && decide (D 6 z2 = D 6 z2)) = true := by simp
      repeat (first
        |refine Z01 ?_|refine Z02 ?_|refine Z03 ?_|refine Z04 ?_|refine Z05 ?_|refine Z06 ?_|refine Z07 ?_|refine Z08 ?_|refine Z09 ?_|refine Z10 ?_|refine Z11 ?_
        |refine Z12 ?_|refine Z13 ?_|refine Z14 ?_|refine Z15 ?_|refine Z17 ?_|refine Z18 ?_|refine Z19 ?_|refine Z20 ?_|refine Z21 ?_|refine Z22 ?_|refine Z23 ?_
        |refine Z24 ?_|refine Z25 ?_|refine Z26 ?_|refine Z27 ?_|refine Z28 ?_|refine Z29 ?_|refine Z30 ?_|refine Z31 ?_|refine Z32 ?_|refine Z36 ?_|refine Z38 ?_
        |refine Z49 ?_|refine Z50 ?_|refine Z51 ?_|refine Z52 ?_|refine Z53 ?_|refine Z54 ?_|refine Z58 ?_|refine Z59 ?_|refine Z62 ?_|refine Z63 ?_|refine Z64 ?_
        |refine Z65 ?_|refine Z67 ?_|refine Z70 ?_|refine Z72 ?_|refine Z73 ?_|refine Z77 ?_|refine Z78 ?_|refine Z79 ?_|refine Z82 fun _ => ?_)
      refine st_draw1 (by rfl) ?_
      repeat (first
        |refine Zqf (by intro _ _ _;(first
          
          |((refine st_ne2v (hr := hrr) (by rfl) (by rfl) (by rfl) (by kernel_rfl) (by rfl) (by rfl) (by rfl) (by rfl) (by rfl) (by rfl) (by rfl) (by rfl) (by rfl) (by rfl) (by kernel_rfl) (by first | exact D_len _ _ | (simp; done)) (by first | exact D_len _ _ | (simp; done)) (by first | exact D_len _ _ | (simp; done)) (by first | exact D_len _ _ | (simp; done)) (by rfl) ?_))
          |(refine st_neSame (by rfl) (by rfl) (by rfl) (by rfl) (by rfl) (by rfl) (D_len 6 _) (by rfl) ?_)
          |(refine st_fld (by rfl) (by first | exact (show _ = some (0, 6) from rfl) | exact (show _ = some (6, 6) from rfl) | exact (show _ = some (0, 12) from rfl) | exact (show _ = some (12, 12) from rfl) | exact (show _ = some (24, 1) from rfl)) (by rfl) (by rfl) ?_)
          |(refine st_build2 (by rfl) (by rfl) (by rfl) (by rfl) (by first | exact D_len _ _ | (simp; done)) (by first | exact D_len _ _ | (simp; done)) (by rfl) ?_)
          |(refine st_build2a (by rfl) (by rfl) (by rfl) (by rfl) (by first | exact D_len _ _ | (simp; done)) (by rfl) ?_)
          |(refine st_build2b (by rfl) (by rfl) (by rfl) (by rfl) (by first | exact D_len _ _ | (simp; done)) (by rfl) ?_)
          |(refine st_build20 (by rfl) (by rfl) (by rfl) (by rfl) ?_)
          |(refine st_eq2 (by rfl) (by rfl) (by rfl) (by kernel_rfl) (by rfl) (by rfl) (by rfl) (by rfl) (by rfl) (by rfl) (by rfl) (by rfl) (by rfl) (by rfl) (by kernel_rfl) (by first | exact D_len _ _ | (simp; done)) (by first | exact D_len _ _ | (simp; done)) (by first | exact D_len _ _ | (simp; done)) (by first | exact D_len _ _ | (simp; done)) (by rfl) ?_)
          |(refine st_ne2 (by rfl) (by rfl) (by rfl) (by kernel_rfl) (by rfl) (by rfl) (by rfl) (by rfl) (by rfl) (by rfl) (by rfl) (by rfl) (by rfl) (by rfl) (by kernel_rfl) (by first | exact D_len _ _ | (simp; done)) (by first | exact D_len _ _ | (simp; done)) (by first | exact D_len _ _ | (simp; done)) (by first | exact D_len _ _ | (simp; done)) (by rfl) ?_)
          |(refine st_fieldLV (by rfl) (by first | exact (show _ = some (0, 6) from rfl) | exact (show _ = some (6, 6) from rfl) | exact (show _ = some (0, 12) from rfl) | exact (show _ = some (12, 12) from rfl) | exact (show _ = some (24, 1) from rfl)) (by first | (refine PartAt.l ?_; (first | exact D_len _ _ | (simp; done))) | (refine PartAt.r ?_ ?_ <;> (first | exact D_len _ _ | (simp; done))) | (refine PartAt.all ?_; (first | exact D_len _ _ | (simp; done)))) (by rfl) (by rfl) ?_)
          |refine Z01 ?_|refine Z02 ?_|refine Z15 ?_|refine Z17 ?_|refine Z18 ?_|refine Z19 ?_|refine Z20 ?_|refine Z21 ?_|refine Z22 ?_|refine Z23 ?_|refine Z36 ?_
          |refine Z38 ?_|refine Z49 ?_|refine Z50 ?_|refine Z54 ?_|refine Z58 ?_|refine Z59 ?_|refine Z62 ?_|refine Z63 ?_|refine Z64 ?_|refine Z65 ?_|refine Z70 ?_
          |refine Z72 ?_|refine Z73 ?_|refine Z77 ?_|refine Z78 ?_|refine Z79 ?_);exact Zq) ?_
        |refine Zqp (by intro _ _ _;(refine st_ldp (by rfl) (by repeat (first | apply Find.here | apply Find.there)) (by rfl) (by rfl) (by first | (refine PartAt.l ?_; (first | exact D_len _ _ | (simp; done))) | (refine PartAt.r ?_ ?_ <;> (first | exact D_len _ _ | (simp; done))) | (refine PartAt.all ?_; (first | exact D_len _ _ | (simp; done)))) (by rfl) ?_);exact Zq) ?_
        |refine Zqp (by intro _ _ _;(refine st_ia_M (m := 12) (s := x) (i := i) (k := n) (by rfl) (by rfl) (by rfl) (by rfl) (RdW.own (by repeat (first | apply Find.here | apply Find.there))) (by decide) hfl h (by rfl) ?_);exact Zq) ?_
        |refine Zqp (by intro _ _ _;(refine st_load_M (m := 12) (s := wide 12 x) (i := i) (by rfl) (by rfl) (by rfl) (RdW.own (by repeat (first | apply Find.here | apply Find.there))) hE hg (by decide) (by rfl) ?_);exact Zq) ?_
        |refine Zqp (by intro _ _ _;(refine st_fld_ea (s := wide 12 x) (k := i * 12) (o := 0) (by rfl) (by rfl) (by rfl) (RdW.own (by repeat (first | apply Find.here | apply Find.there))) hne (by rfl) ?_);exact Zq) ?_
        |refine Zqp (by intro _ _ _;(refine st_fld_ea (s := wide 12 x) (k := i * 12) (o := 6) (by rfl) (by rfl) (by rfl) (RdW.own (by repeat (first | apply Find.here | apply Find.there))) hne (by rfl) ?_);exact Zq) ?_
        |refine Zqp (by intro _ _ _;(refine st_load_P (s := wide 12 x) (j := i * 12 + 0) (by rfl) (by rfl) (by rfl) (RdW.own (by repeat (first | apply Find.here | apply Find.there))) hp1 (by decide) (by rfl) ?_);exact Zq) ?_
        |refine Zqp (by intro _ _ _;(refine st_load_P (s := wide 12 x) (j := i * 12 + 6) (by rfl) (by rfl) (by rfl) (RdW.own (by repeat (first | apply Find.here | apply Find.there))) hp2 (by decide) (by rfl) ?_);exact Zq) ?_
        |refine Zqp (by intro _ _ _;refine st_callV (by rfl) (by rfl) (by rfl) (hr6) (fun _ _ => trivial) (by rfl) ?_;exact Zq) ?_
        |refine Zqp (by intro _ _ _;refine st_callV (by rfl) (by rfl) (by rfl) (hr7) (fun _ _ => trivial) (by rfl) ?_;exact Zq) ?_
        |refine Zqp (by intro _ _ _;(first
          |refine Z24 ?_|refine Z25 ?_|refine Z26 ?_|refine Z27 ?_|refine Z28 ?_|refine Z67 ?_|refine Z23 ?_|refine Z20 ?_|refine Z21 ?_|refine Z62 ?_);exact Zq) ?_
        |refine Zqe (by intro _ _ _;(first
          |refine Z29 ?_|refine Z30 ?_|refine Z31 ?_|refine Z32 ?_);exact Zqq) ?_
        |refine Zqn ?_)
      refine Zq0 ?_ (by kernel_rfl)
      repeat (first
        |refine Z01 ?_|refine Z02 ?_|refine Z03 ?_|refine Z04 ?_|refine Z05 ?_|refine Z06 ?_|refine Z07 ?_|refine Z08 ?_|refine Z09 ?_|refine Z10 ?_|refine Z11 ?_
        |refine Z12 ?_|refine Z13 ?_|refine Z14 ?_|refine Z15 ?_|refine Z17 ?_|refine Z18 ?_|refine Z19 ?_|refine Z20 ?_|refine Z21 ?_|refine Z22 ?_|refine Z23 ?_
        |refine Z24 ?_|refine Z25 ?_|refine Z26 ?_|refine Z27 ?_|refine Z28 ?_|refine Z29 ?_|refine Z30 ?_|refine Z31 ?_|refine Z32 ?_|refine Z36 ?_|refine Z38 ?_
        |refine Z49 ?_|refine Z50 ?_|refine Z51 ?_|refine Z52 ?_|refine Z53 ?_|refine Z54 ?_|refine Z58 ?_|refine Z59 ?_|refine Z62 ?_|refine Z63 ?_|refine Z64 ?_
        |refine Z65 ?_|refine Z67 ?_|refine Z70 ?_|refine Z72 ?_|refine Z73 ?_|refine Z77 ?_|refine Z78 ?_|refine Z79 ?_|refine Z82 fun _ => ?_)
      exact st_round (i + 1) (by omega) (by omega) (by repeat (first | apply subL.nil | refine subL.cons (by rfl) ?_)) (by repeat (first | apply SubW.nil | refine SubW.cons (by repeat (first | apply Find.here | apply Find.there)) ?_))
    · have hin' : i = n := by omega
      repeat (first
        |refine Z01 ?_|refine Z02 ?_|refine Z03 ?_|refine Z04 ?_|refine Z05 ?_|refine Z06 ?_|refine Z07 ?_|refine Z08 ?_|refine Z09 ?_|refine Z10 ?_|refine Z11 ?_
        |refine Z12 ?_|refine Z13 ?_|refine Z14 ?_|refine Z15 ?_|refine Z17 ?_|refine Z18 ?_|refine Z19 ?_|refine Z20 ?_|refine Z21 ?_|refine Z22 ?_|refine Z23 ?_
        |refine Z24 ?_|refine Z25 ?_|refine Z26 ?_|refine Z27 ?_|refine Z28 ?_|refine Z29 ?_|refine Z30 ?_|refine Z31 ?_|refine Z32 ?_|refine Z36 ?_|refine Z38 ?_
        |refine Z49 ?_|refine Z50 ?_|refine Z51 ?_|refine Z52 ?_|refine Z53 ?_|refine Z54 ?_|refine Z58 ?_|refine Z59 ?_|refine Z62 ?_|refine Z63 ?_|refine Z64 ?_
        |refine Z65 ?_|refine Z67 ?_|refine Z70 ?_|refine Z72 ?_|refine Z73 ?_|refine Z77 ?_|refine Z78 ?_|refine Z79 ?_|refine Z82 fun _ => ?_)
      refine Ze1 fun _ hw => post_of hw SubW.nil ⟨?_, rfl⟩
      rfl
  · have hneg : x < 0 := by
      have : (0 : Int) ≤ -(x + 1) := by rw [hk]; exact Int.natCast_nonneg k
      omega
    repeat (first
      |(refine st_cmp (r := false) (by rfl) (by rfl) (cmpN_f (by first | (simp only [cmpQ]; done) | (simp only [cmpQ]; omega))) (by rfl) ?_)
      |(rw [decide_eq_true (p := x < Int.ofNat 0) hneg])|(rw [show -(x + Int.ofNat 1) = Int.ofNat k from hk])|refine Z01 ?_|refine Z02 ?_|refine Z03 ?_|refine Z04 ?_
      |refine Z05 ?_|refine Z06 ?_|refine Z07 ?_|refine Z08 ?_|refine Z09 ?_|refine Z10 ?_|refine Z11 ?_|refine Z12 ?_|refine Z13 ?_|refine Z14 ?_|refine Z15 ?_
      |refine Z17 ?_|refine Z18 ?_|refine Z19 ?_|refine Z20 ?_|refine Z21 ?_|refine Z22 ?_|refine Z23 ?_|refine Z24 ?_|refine Z25 ?_|refine Z26 ?_|refine Z27 ?_
      |refine Z28 ?_|refine Z29 ?_|refine Z30 ?_|refine Z31 ?_|refine Z32 ?_|refine Z36 ?_|refine Z38 ?_|refine Z49 ?_|refine Z50 ?_|refine Z51 ?_|refine Z52 ?_
      |refine Z53 ?_|refine Z54 ?_|refine Z58 ?_|refine Z59 ?_|refine Z62 ?_|refine Z63 ?_|refine Z64 ?_|refine Z65 ?_|refine Z67 ?_|refine Z70 ?_|refine Z72 ?_
      |refine Z73 ?_|refine Z77 ?_|refine Z78 ?_|refine Z79 ?_|refine Z82 fun _ => ?_)
    have hn1 : 1 ≤ 1 + k % 4 := by omega
    have hn8 : 1 + k % 4 ≤ 4 := by omega
    obtain ⟨n, hn⟩ : ∃ n, n = 1 + k % 4 := ⟨_, rfl⟩
    rw [← hn] at hn1 hn8
    have hni : (n : Int) = 1 + (k : Int) % 4 := by omega
    have hnn : (128 * n : Nat) = (if 1 ≤ (n : Int) ∧ (n : Int) ≤ 63 then 128 * (n : Int) else 0) := by rw [if_pos ⟨by omega, by omega⟩]; simp
    by_cases hdst : d.length < 1 ∨ 255 < d.length
    · have hf1 := fields_bad s1 s2 d n (128 * n : Nat) 170 hnn (xexpand_dst s1 s2 d (128 * n : Nat) hdst)
      have hX := xexpand_dst s1 s2 d (128 * n : Nat) hdst
      repeat (first
        |(rw [← hn])|(refine st_cmp (r := false) (by rfl) (by rfl) (cmpN_f (by first | (simp only [cmpQ]; done) | (simp only [cmpQ]; omega))) (by rfl) ?_)
        |(refine st_callV (by rfl) (by rfl) (by rfl) (hf1) (RdW.old hr2) (by rfl) ?_)|(refine st_callV (by rfl) (by rfl) (by rfl) (hX) (RdW.old hr2) (by rfl) ?_)
        |(refine st_len (by rfl) (by rfl) RdW.nil (by rfl) ?_)|refine Z01 ?_|refine Z02 ?_|refine Z03 ?_|refine Z04 ?_|refine Z05 ?_|refine Z06 ?_|refine Z07 ?_
        |refine Z08 ?_|refine Z09 ?_|refine Z10 ?_|refine Z11 ?_|refine Z12 ?_|refine Z13 ?_|refine Z14 ?_|refine Z15 ?_|refine Z17 ?_|refine Z18 ?_|refine Z19 ?_
        |refine Z20 ?_|refine Z21 ?_|refine Z22 ?_|refine Z23 ?_|refine Z24 ?_|refine Z25 ?_|refine Z26 ?_|refine Z27 ?_|refine Z28 ?_|refine Z29 ?_|refine Z30 ?_
        |refine Z31 ?_|refine Z32 ?_|refine Z36 ?_|refine Z38 ?_|refine Z49 ?_|refine Z50 ?_|refine Z51 ?_|refine Z52 ?_|refine Z53 ?_|refine Z54 ?_|refine Z58 ?_
        |refine Z59 ?_|refine Z62 ?_|refine Z63 ?_|refine Z64 ?_|refine Z65 ?_|refine Z67 ?_|refine Z70 ?_|refine Z72 ?_|refine Z73 ?_|refine Z77 ?_|refine Z78 ?_
        |refine Z79 ?_|refine Z82 fun _ => ?_)
      refine Ze1 fun _ hw => post_of hw SubW.nil ⟨?_, rfl⟩
      rfl
    have hd1 : 1 ≤ d.length := by omega
    have hd2 : d.length ≤ 255 := by omega
    clear hdst hnn hni
    have hxl := xpand_len m d (128 * n)
    have hxb := xpand_lt m d (128 * n)
    have hfl : (((fels (xpand m d (128 * n)) n).flatten).map (N .u64)).length = n * 12 := by rw [List.length_map, fels_flat, fels_len]
    repeat (first
      |(rw [← hn])|(refine st_cmp (r := false) (by rfl) (by rfl) (cmpN_f (by first | (simp only [cmpQ]; done) | (simp only [cmpQ]; omega))) (by rfl) ?_)
      |((refine st_call (by rfl) (by rfl) (by rfl) (fields_ok s1 s2 m d n hm hd hm5 hd1 hd2 (by omega) (by omega)) .nil (fun w hw => ⟨RdW.old hr1 w hw, RdW.old hr2 w hw⟩) (by rfl) ?_; rintro _ _ ⟨x, rfl, rfl⟩))
      |((refine st_call (by rfl) (by rfl) (by rfl) (xexpand_ok s1 s2 m d (128 * n) hm hd hm5 hd1 hd2 (by omega) (by omega)) .nil (fun w hw => ⟨RdW.old hr1 w hw, RdW.old hr2 w hw⟩) (by rfl) ?_; rintro _ _ ⟨y, rfl, rfl⟩))
      |(rw [hxl])
      |((refine st_len_M (m := 12) (k := n) (s := x) (by rfl) (by rfl) (RdW.own (by repeat (first | apply Find.here | apply Find.there))) (by decide) hfl (by rfl) ?_))
      |refine Z01 ?_|refine Z02 ?_|refine Z03 ?_|refine Z04 ?_|refine Z05 ?_|refine Z06 ?_|refine Z07 ?_|refine Z08 ?_|refine Z09 ?_|refine Z10 ?_|refine Z11 ?_
      |refine Z12 ?_|refine Z13 ?_|refine Z14 ?_|refine Z15 ?_|refine Z17 ?_|refine Z18 ?_|refine Z19 ?_|refine Z20 ?_|refine Z21 ?_|refine Z22 ?_|refine Z23 ?_
      |refine Z24 ?_|refine Z25 ?_|refine Z26 ?_|refine Z27 ?_|refine Z28 ?_|refine Z29 ?_|refine Z30 ?_|refine Z31 ?_|refine Z32 ?_|refine Z36 ?_|refine Z38 ?_
      |refine Z49 ?_|refine Z50 ?_|refine Z51 ?_|refine Z52 ?_|refine Z53 ?_|refine Z54 ?_|refine Z58 ?_|refine Z59 ?_|refine Z62 ?_|refine Z63 ?_|refine Z64 ?_
      |refine Z65 ?_|refine Z67 ?_|refine Z70 ?_|refine Z72 ?_|refine Z73 ?_|refine Z77 ?_|refine Z78 ?_|refine Z79 ?_|refine Z82 fun _ => ?_)
    have hget := fun i (h : i < n) => fels_get (xpand m d (128 * n)) (k := n) (i := i) h
    have hE := fels_each (xpand m d (128 * n)) n
    generalize fels (xpand m d (128 * n)) n = L at *
    generalize xpand m d (128 * n) = b at *
    refine st_loop (ι := Nat) (fun i => i ≤ n) (fun i => [(2, N .i64 n), (7, .bool true), (8, x), (10, y), (12, N .i64 i)])
      (fun i => [.sl (wide 12 x) (L.flatten.map (N .u64)) 71, .sl y (b.map (N .u8)) 5]) (fun i => n - i) 0 (by omega) (by repeat (first | apply subL.nil | refine subL.cons (by rfl) ?_)) (by repeat (first | apply SubW.nil | refine SubW.cons (by repeat (first | apply Find.here | apply Find.there)) ?_)) ?_
    intro i hi
    repeat (first
      |refine Z01 ?_|refine Z02 ?_|refine Z03 ?_|refine Z04 ?_|refine Z05 ?_|refine Z06 ?_|refine Z07 ?_|refine Z08 ?_|refine Z09 ?_|refine Z10 ?_|refine Z11 ?_
      |refine Z12 ?_|refine Z13 ?_|refine Z14 ?_|refine Z15 ?_|refine Z17 ?_|refine Z18 ?_|refine Z19 ?_|refine Z20 ?_|refine Z21 ?_|refine Z22 ?_|refine Z23 ?_
      |refine Z24 ?_|refine Z25 ?_|refine Z26 ?_|refine Z27 ?_|refine Z28 ?_|refine Z29 ?_|refine Z30 ?_|refine Z31 ?_|refine Z32 ?_|refine Z36 ?_|refine Z38 ?_
      |refine Z49 ?_|refine Z50 ?_|refine Z51 ?_|refine Z52 ?_|refine Z53 ?_|refine Z54 ?_|refine Z58 ?_|refine Z59 ?_|refine Z62 ?_|refine Z63 ?_|refine Z64 ?_
      |refine Z65 ?_|refine Z67 ?_|refine Z70 ?_|refine Z72 ?_|refine Z73 ?_|refine Z77 ?_|refine Z78 ?_|refine Z79 ?_|refine Z82 fun _ => ?_)
    refine st_cond (by rfl) (fun h => ?_) (fun h => ?_)
    · have hg := hget i h
      have hfe := fel_def (b.drop (128 * i))
      have ha : ((b.drop (128 * i)).take 64).length = 64 := by rw [List.length_take, List.length_drop, hxl]; omega
      have hc : (((b.drop (128 * i)).take 128).drop 64).length = 64 := by rw [List.length_drop, List.length_take, List.length_drop, hxl]; omega
      have hab : Lt 256 ((b.drop (128 * i)).take 64) := fun y hy => hxb y (List.mem_of_mem_drop (List.mem_of_mem_take hy))
      have hcb : Lt 256 (((b.drop (128 * i)).take 128).drop 64) := fun y hy => hxb y (List.mem_of_mem_drop (List.mem_of_mem_take (List.mem_of_mem_drop hy)))
      have hw1 := fun s => words_spec s _ hab (by omega)
      have hw2 := fun s => words_spec s _ hcb (by omega)
      rw [ha] at hw1
      rw [hc] at hw2
      have hv1 := fun s => pwide64 s _ hab ha
      have hv2 := fun s => pwide64 s _ hcb hc
      have hs1 : ∀ (c : Cx) (W : List Res), RdW c W y (b.map (N .u8)) → RdW c W (sub y (128 * i) (128 * i + 64)) (((b.drop (128 * i)).take 64).map (N .u8)) := fun c W h => by
        have := RdW.subN h (lo := 128 * i) (hi := 128 * i + 64) (by omega) (by omega)
        rwa [List.drop_take, show 128 * i + 64 - 128 * i = 64 by omega] at this
      have hs2 : ∀ (c : Cx) (W : List Res), RdW c W y (b.map (N .u8)) → RdW c W (sub y (128 * i + 64) (128 * i + 128)) ((((b.drop (128 * i)).take 128).drop 64).map (N .u8)) := fun c W h => by
        have := RdW.subN h (lo := 128 * i + 64) (hi := 128 * i + 128) (by omega) (by omega)
        rwa [show List.drop (128 * i + 64) (List.take (128 * i + 128) b) = List.drop 64 (List.take 128 (List.drop (128 * i) b)) by rw [List.drop_take, List.drop_take, List.drop_drop, show 128 * i + 128 - (128 * i + 64) = 64 by omega]] at this
      have hr6 := preduce_spec (a := bval ((b.drop (128 * i)).take 64) % p) (Nat.lt_trans (Nat.mod_lt _ p_pos) p_lt)
      have hr7 := preduce_spec (a := bval (((b.drop (128 * i)).take 128).drop 64) % p) (Nat.lt_trans (Nat.mod_lt _ p_pos) p_lt)
      rw [Nat.mod_mod] at hr6 hr7
      generalize bval ((b.drop (128 * i)).take 64) % p = z1 at *
      generalize bval (((b.drop (128 * i)).take 128).drop 64) % p = z2 at *
      generalize (b.drop (128 * i)).take 64 = b1 at *
      generalize ((b.drop (128 * i)).take 128).drop 64 = b2 at *
      rw [hfe] at hg
      clear hfe hget
      repeat (first
        |(refine st_alloc (v := LV .u64 (List.replicate 6 0)) (by rfl) (by rfl) fun _ => ?_)
        |((refine st_call (by rfl) (by rfl) (by rfl) (hw1 _) .nil (hs1 _ _ (RdW.own (by repeat (first | apply Find.here | apply Find.there)))) (by rfl) ?_; rintro x1 _ rfl))
        |((refine st_call (by rfl) (by rfl) (by rfl) (hw2 _) .nil (hs2 _ _ (RdW.own (by repeat (first | apply Find.here | apply Find.there)))) (by rfl) ?_; rintro x2 _ rfl))
        |(refine st_callV (by rfl) (by rfl) (by rfl) (hv1 _) (RdW.own (by repeat (first | apply Find.here | apply Find.there))) (by rfl) ?_)
        |(refine st_callV (by rfl) (by rfl) (by rfl) (hv2 _) (RdW.own (by repeat (first | apply Find.here | apply Find.there))) (by rfl) ?_)|refine Z01 ?_|refine Z02 ?_
        |refine Z03 ?_|refine Z04 ?_|refine Z05 ?_|refine Z06 ?_|refine Z07 ?_|refine Z08 ?_|refine Z09 ?_|refine Z10 ?_|refine Z11 ?_|refine Z12 ?_|refine Z13 ?_
        |refine Z14 ?_|refine Z15 ?_|refine Z17 ?_|refine Z18 ?_|refine Z19 ?_|refine Z20 ?_|refine Z21 ?_|refine Z22 ?_|refine Z23 ?_|refine Z24 ?_|refine Z25 ?_
        |refine Z26 ?_|refine Z27 ?_|refine Z28 ?_|refine Z29 ?_|refine Z30 ?_|refine Z31 ?_|refine Z32 ?_|refine Z36 ?_|refine Z38 ?_|refine Z49 ?_|refine Z50 ?_
        |refine Z51 ?_|refine Z52 ?_|refine Z53 ?_|refine Z54 ?_|refine Z58 ?_|refine Z59 ?_|refine Z62 ?_|refine Z63 ?_|refine Z64 ?_|refine Z65 ?_|refine Z67 ?_
        |refine Z70 ?_|refine Z72 ?_|refine Z73 ?_|refine Z77 ?_|refine Z78 ?_|refine Z79 ?_|refine Z82 fun _ => ?_)
      have hp0 := PartAt.nth hE hg
      have hp1 : PartAt L.flatten (i * 12 + 0) 6 (D 6 z1) := hp0.trans (PartAt.l (D_len 6 z1))
      have hp2 : PartAt L.flatten (i * 12 + 6) 6 (D 6 z2) := hp0.trans (PartAt.r (D_len 6 z1) (D_len 6 z2))
      have hne : 0 < (L.flatten.map (N .u64)).length := by rw [hfl]; omega
      have hrr : (decide (D 6 z1 = D 6 z1) && decide (D 6 z2 = D 6 z2)) = true := by simp
      repeat (first
        |refine Z01 ?_|refine Z02 ?_|refine Z03 ?_|refine Z04 ?_|refine Z05 ?_|refine Z06 ?_|refine Z07 ?_|refine Z08 ?_|refine Z09 ?_|refine Z10 ?_|refine Z11 ?_
        |refine Z12 ?_|refine Z13 ?_|refine Z14 ?_|refine Z15 ?_|refine Z17 ?_|refine Z18 ?_|refine Z19 ?_|refine Z20 ?_|refine Z21 ?_|refine Z22 ?_|refine Z23 ?_
        |refine Z24 ?_|refine Z25 ?_|refine Z26 ?_|refine Z27 ?_|refine Z28 ?_|refine Z29 ?_|refine Z30 ?_|refine Z31 ?_|refine Z32 ?_|refine Z36 ?_|refine Z38 ?_
        |refine Z49 ?_|refine Z50 ?_|refine Z51 ?_|refine Z52 ?_|refine Z53 ?_|refine Z54 ?_|refine Z58 ?_|refine Z59 ?_|refine Z62 ?_|refine Z63 ?_|refine Z64 ?_
        |refine Z65 ?_|refine Z67 ?_|refine Z70 ?_|refine Z72 ?_|refine Z73 ?_|refine Z77 ?_|refine Z78 ?_|refine Z79 ?_|refine Z82 fun _ => ?_)
      refine st_draw1 (by rfl) ?_
      repeat (first
        |refine Zqf (by intro _ _ _;(first
          
          |((refine st_ne2v (hr := hrr) (by rfl) (by rfl) (by rfl) (by kernel_rfl) (by rfl) (by rfl) (by rfl) (by rfl) (by rfl) (by rfl) (by rfl) (by rfl) (by rfl) (by rfl) (by kernel_rfl) (by first | exact D_len _ _ | (simp; done)) (by first | exact D_len _ _ | (simp; done)) (by first | exact D_len _ _ | (simp; done)) (by first | exact D_len _ _ | (simp; done)) (by rfl) ?_))
          |(refine st_neSame (by rfl) (by rfl) (by rfl) (by rfl) (by rfl) (by rfl) (D_len 6 _) (by rfl) ?_)
          |(refine st_fld (by rfl) (by first | exact (show _ = some (0, 6) from rfl) | exact (show _ = some (6, 6) from rfl) | exact (show _ = some (0, 12) from rfl) | exact (show _ = some (12, 12) from rfl) | exact (show _ = some (24, 1) from rfl)) (by rfl) (by rfl) ?_)
          |(refine st_build2 (by rfl) (by rfl) (by rfl) (by rfl) (by first | exact D_len _ _ | (simp; done)) (by first | exact D_len _ _ | (simp; done)) (by rfl) ?_)
          |(refine st_build2a (by rfl) (by rfl) (by rfl) (by rfl) (by first | exact D_len _ _ | (simp; done)) (by rfl) ?_)
          |(refine st_build2b (by rfl) (by rfl) (by rfl) (by rfl) (by first | exact D_len _ _ | (simp; done)) (by rfl) ?_)
          |(refine st_build20 (by rfl) (by rfl) (by rfl) (by rfl) ?_)
          |(refine st_eq2 (by rfl) (by rfl) (by rfl) (by kernel_rfl) (by rfl) (by rfl) (by rfl) (by rfl) (by rfl) (by rfl) (by rfl) (by rfl) (by rfl) (by rfl) (by kernel_rfl) (by first | exact D_len _ _ | (simp; done)) (by first | exact D_len _ _ | (simp; done)) (by first | exact D_len _ _ | (simp; done)) (by first | exact D_len _ _ | (simp; done)) (by rfl) ?_)
          |(refine st_ne2 (by rfl) (by rfl) (by rfl) (by kernel_rfl) (by rfl) (by rfl) (by rfl) (by rfl) (by rfl) (by rfl) (by rfl) (by rfl) (by rfl) (by rfl) (by kernel_rfl) (by first | exact D_len _ _ | (simp; done)) (by first | exact D_len _ _ | (simp; done)) (by first | exact D_len _ _ | (simp; done)) (by first | exact D_len _ _ | (simp; done)) (by rfl) ?_)
          |(refine st_fieldLV (by rfl) (by first | exact (show _ = some (0, 6) from rfl) | exact (show _ = some (6, 6) from rfl) | exact (show _ = some (0, 12) from rfl) | exact (show _ = some (12, 12) from rfl) | exact (show _ = some (24, 1) from rfl)) (by first | (refine PartAt.l ?_; (first | exact D_len _ _ | (simp; done))) | (refine PartAt.r ?_ ?_ <;> (first | exact D_len _ _ | (simp; done))) | (refine PartAt.all ?_; (first | exact D_len _ _ | (simp; done)))) (by rfl) (by rfl) ?_)
          |refine Z01 ?_|refine Z02 ?_|refine Z15 ?_|refine Z17 ?_|refine Z18 ?_|refine Z19 ?_|refine Z20 ?_|refine Z21 ?_|refine Z22 ?_|refine Z23 ?_|refine Z36 ?_
          |refine Z38 ?_|refine Z49 ?_|refine Z50 ?_|refine Z54 ?_|refine Z58 ?_|refine Z59 ?_|refine Z62 ?_|refine Z63 ?_|refine Z64 ?_|refine Z65 ?_|refine Z70 ?_
          |refine Z72 ?_|refine Z73 ?_|refine Z77 ?_|refine Z78 ?_|refine Z79 ?_);exact Zq) ?_
        |refine Zqp (by intro _ _ _;(refine st_ldp (by rfl) (by repeat (first | apply Find.here | apply Find.there)) (by rfl) (by rfl) (by first | (refine PartAt.l ?_; (first | exact D_len _ _ | (simp; done))) | (refine PartAt.r ?_ ?_ <;> (first | exact D_len _ _ | (simp; done))) | (refine PartAt.all ?_; (first | exact D_len _ _ | (simp; done)))) (by rfl) ?_);exact Zq) ?_
        |refine Zqp (by intro _ _ _;(refine st_ia_M (m := 12) (s := x) (i := i) (k := n) (by rfl) (by rfl) (by rfl) (by rfl) (RdW.own (by repeat (first | apply Find.here | apply Find.there))) (by decide) hfl h (by rfl) ?_);exact Zq) ?_
        |refine Zqp (by intro _ _ _;(refine st_load_M (m := 12) (s := wide 12 x) (i := i) (by rfl) (by rfl) (by rfl) (RdW.own (by repeat (first | apply Find.here | apply Find.there))) hE hg (by decide) (by rfl) ?_);exact Zq) ?_
        |refine Zqp (by intro _ _ _;(refine st_fld_ea (s := wide 12 x) (k := i * 12) (o := 0) (by rfl) (by rfl) (by rfl) (RdW.own (by repeat (first | apply Find.here | apply Find.there))) hne (by rfl) ?_);exact Zq) ?_
        |refine Zqp (by intro _ _ _;(refine st_fld_ea (s := wide 12 x) (k := i * 12) (o := 6) (by rfl) (by rfl) (by rfl) (RdW.own (by repeat (first | apply Find.here | apply Find.there))) hne (by rfl) ?_);exact Zq) ?_
        |refine Zqp (by intro _ _ _;(refine st_load_P (s := wide 12 x) (j := i * 12 + 0) (by rfl) (by rfl) (by rfl) (RdW.own (by repeat (first | apply Find.here | apply Find.there))) hp1 (by decide) (by rfl) ?_);exact Zq) ?_
        |refine Zqp (by intro _ _ _;(refine st_load_P (s := wide 12 x) (j := i * 12 + 6) (by rfl) (by rfl) (by rfl) (RdW.own (by repeat (first | apply Find.here | apply Find.there))) hp2 (by decide) (by rfl) ?_);exact Zq) ?_
        |refine Zqp (by intro _ _ _;refine st_callV (by rfl) (by rfl) (by rfl) (hr6) (fun _ _ => trivial) (by rfl) ?_;exact Zq) ?_
        |refine Zqp (by intro _ _ _;refine st_callV (by rfl) (by rfl) (by rfl) (hr7) (fun _ _ => trivial) (by rfl) ?_;exact Zq) ?_
        |refine Zqp (by intro _ _ _;(first
          |refine Z24 ?_|refine Z25 ?_|refine Z26 ?_|refine Z27 ?_|refine Z28 ?_|refine Z67 ?_|refine Z23 ?_|refine Z20 ?_|refine Z21 ?_|refine Z62 ?_);exact Zq) ?_
        |refine Zqe (by intro _ _ _;(first
          |refine Z29 ?_|refine Z30 ?_|refine Z31 ?_|refine Z32 ?_);exact Zqq) ?_
        |refine Zqn ?_)
      refine Zq0 ?_ (by kernel_rfl)
      repeat (first
        |refine Z01 ?_|refine Z02 ?_|refine Z03 ?_|refine Z04 ?_|refine Z05 ?_|refine Z06 ?_|refine Z07 ?_|refine Z08 ?_|refine Z09 ?_|refine Z10 ?_|refine Z11 ?_
        |refine Z12 ?_|refine Z13 ?_|refine Z14 ?_|refine Z15 ?_|refine Z17 ?_|refine Z18 ?_|refine Z19 ?_|refine Z20 ?_|refine Z21 ?_|refine Z22 ?_|refine Z23 ?_
        |refine Z24 ?_|refine Z25 ?_|refine Z26 ?_|refine Z27 ?_|refine Z28 ?_|refine Z29 ?_|refine Z30 ?_|refine Z31 ?_|refine Z32 ?_|refine Z36 ?_|refine Z38 ?_
        |refine Z49 ?_|refine Z50 ?_|refine Z51 ?_|refine Z52 ?_|refine Z53 ?_|refine Z54 ?_|refine Z58 ?_|refine Z59 ?_|refine Z62 ?_|refine Z63 ?_|refine Z64 ?_
        |refine Z65 ?_|refine Z67 ?_|refine Z70 ?_|refine Z72 ?_|refine Z73 ?_|refine Z77 ?_|refine Z78 ?_|refine Z79 ?_|refine Z82 fun _ => ?_)
      exact st_round (i + 1) (by omega) (by omega) (by repeat (first | apply subL.nil | refine subL.cons (by rfl) ?_)) (by repeat (first | apply SubW.nil | refine SubW.cons (by repeat (first | apply Find.here | apply Find.there)) ?_))
    · have hin' : i = n := by omega
      repeat (first
        |refine Z01 ?_|refine Z02 ?_|refine Z03 ?_|refine Z04 ?_|refine Z05 ?_|refine Z06 ?_|refine Z07 ?_|refine Z08 ?_|refine Z09 ?_|refine Z10 ?_|refine Z11 ?_
        |refine Z12 ?_|refine Z13 ?_|refine Z14 ?_|refine Z15 ?_|refine Z17 ?_|refine Z18 ?_|refine Z19 ?_|refine Z20 ?_|refine Z21 ?_|refine Z22 ?_|refine Z23 ?_
        |refine Z24 ?_|refine Z25 ?_|refine Z26 ?_|refine Z27 ?_|refine Z28 ?_|refine Z29 ?_|refine Z30 ?_|refine Z31 ?_|refine Z32 ?_|refine Z36 ?_|refine Z38 ?_
        |refine Z49 ?_|refine Z50 ?_|refine Z51 ?_|refine Z52 ?_|refine Z53 ?_|refine Z54 ?_|refine Z58 ?_|refine Z59 ?_|refine Z62 ?_|refine Z63 ?_|refine Z64 ?_
        |refine Z65 ?_|refine Z67 ?_|refine Z70 ?_|refine Z72 ?_|refine Z73 ?_|refine Z77 ?_|refine Z78 ?_|refine Z79 ?_|refine Z82 fun _ => ?_)
      refine Ze1 fun _ hw => post_of hw SubW.nil ⟨?_, rfl⟩
      rfl
end Go.Proofs.Ytbjfjkmidhfgcaa.L
namespace Go.Proofs.Ytbjfjkmidhfgcaa.L
open Go Go.Proofs
variable {P : Program}
theorem slice_spot {w : World} {r : Reach} {base : Nat} {t e : TypeId} {a : Option Addr} {len cap : Nat} (ht : P.underlying t = some (.slice e)) (h : Value.okWide P w r base t (.slice a len cap)) :
    ∀ x, a = some x → x.spot = none := by
  intro x hx
  subst hx
  simp only [Value.okWide, ht, Cell.okWide, Cell.ok, World.has] at h
  exact h.2.2.2.1
/-- The numbers of a row. -/
theorem row_nat {k : IntKind} {m : Nat} (hk : ub k = some m) {w : World} {a : Option Addr} {len cap : Nat} {zs : List Int}
    (h : (a = none ∧ len = 0 ∧ cap = 0 ∧ zs = []) ∨
      ∃ x, a = some x ∧ len ≤ cap ∧ cap ≤ maxLen ∧ zs.length = cap ∧ (∀ i, i < zs.length → w.cell? (x.add i) = some (.int k (zs.getD i 0))) ∧ ∀ n ∈ zs, (Lit.int k n).wf = true)
    (hs : ∀ x, a = some x → x.spot = none) : ∃ bs : List Nat, Rd w (.slice a len cap) (bs.map (N k)) ∧ (∀ x ∈ bs, x < m) ∧ bs.length < 9223372036854775808 := by
  rcases h with ⟨rfl, rfl, rfl, rfl⟩ | ⟨x, rfl, h1, h2, h3, h4, h5⟩
  · exact ⟨[], Rd.nil w, by simp, by decide⟩
  · have hn : ∀ n ∈ zs, 0 ≤ n ∧ n < (m : Int) := by
      intro n hn
      have := h5 n hn
      cases k <;> simp [ub] at hk <;> subst hk <;> simp [Lit.wf, IntKind.min, IntKind.max, IntKind.signed, IntKind.bits] at this ⊢ <;> omega
    have hg : ∀ i, i < zs.length → Int.ofNat (zs.getD i 0).toNat = zs.getD i 0 := by
      intro i hi
      have : zs.getD i 0 ∈ zs := by simp [List.getD_eq_getElem?_getD, hi]
      have := hn _ this
      show (((zs.getD i 0).toNat : Nat) : Int) = _
      omega
    refine ⟨(zs.take len).map Int.toNat, ⟨⟨some x, cap, ?_, ?_, by simp, by simpa using hs⟩, ?_⟩, ?_, ?_⟩
    · simp; omega
    · simp; omega
    · intro i v hv
      have hi : i < len ∧ i < zs.length := by
        have := (List.getElem?_eq_some_iff.mp hv).1
        simp at this; omega
      have e1 := h4 i hi.2
      rw [← hg i hi.2] at e1
      show w.cell? (x.add i) = _
      rw [e1]
      simp [hi.1, hi.2] at hv
      rw [← hv]
      simp [N, List.getD_eq_getElem?_getD, hi.2]
    · intro y hy
      simp only [List.mem_map] at hy
      obtain ⟨n, hn', rfl⟩ := hy
      have := hn n (List.mem_of_mem_take hn')
      omega
    · have : cap ≤ 2 ^ 63 - 1 := h2
      simp; omega
theorem wf_i64 {x : Int} (h : (Lit.int .i64 x).wf = true) : -9223372036854775808 ≤ x ∧ x < 9223372036854775808 := by
  simp [Lit.wf, IntKind.min, IntKind.max, IntKind.signed, IntKind.bits] at h; omega
theorem post_bool {w w' : World} {e : Ending} (h : PostR (IsV (.bool true)) [] w e w') : e = .returned (.bool true) ∧ RowKit.Below w.heap.size w w' := by
  obtain ⟨v, Wout, ⟨rfl, _⟩, he, hx, _⟩ := h
  exact ⟨he, hx.below⟩
end Go.Proofs.Ytbjfjkmidhfgcaa.L
