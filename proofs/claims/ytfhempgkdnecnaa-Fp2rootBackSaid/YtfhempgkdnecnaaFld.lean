/- Records of parts: places, loads of a part, records that are built, taken apart and compared. Conditions: as each statement says. -/
import Derived.Test.YtfhempgkdnecnaaMore
import Derived.Test.YtfhempgkdnecnaaEq
import Derived.Test.YtfhempgkdnecnaaBld
namespace Go.Proofs.Ytfhempgkdnecnaa.L
open Go Go.Proofs

/-- A part of a list. -/
def PartAt {α : Type} (ys : List α) (off m : Nat) (zs : List α) : Prop := ∃ pre post, ys = pre ++ zs ++ post ∧ pre.length = off ∧ zs.length = m
theorem PartAt.l {α : Type} {xs ys : List α} {m : Nat} (h : xs.length = m) : PartAt (xs ++ ys) 0 m xs := ⟨[], ys, rfl, rfl, h⟩
theorem PartAt.r {α : Type} {xs ys : List α} {off m : Nat} (h : xs.length = off) (h2 : ys.length = m) : PartAt (xs ++ ys) off m ys := ⟨xs, [], by simp, h, h2⟩
theorem PartAt.all {α : Type} {xs : List α} {m : Nat} (h : xs.length = m) : PartAt xs 0 m xs := ⟨[], [], by simp, rfl, h⟩
theorem PartAt.inl {α : Type} {xs ys zs : List α} {off m : Nat} (h : PartAt xs off m zs) : PartAt (xs ++ ys) off m zs := by
  obtain ⟨p, q, rfl, h1, h2⟩ := h
  exact ⟨p, q ++ ys, by simp, h1, h2⟩
theorem PartAt.inr {α : Type} {xs ys zs : List α} {off m : Nat} (h : PartAt ys off m zs) : PartAt (xs ++ ys) (xs.length + off) m zs := by
  obtain ⟨p, q, rfl, h1, h2⟩ := h
  exact ⟨xs ++ p, q, by simp, by simp [h1], h2⟩
theorem PartAt.map {α β : Type} {ys zs : List α} {off m : Nat} (f : α → β) (h : PartAt ys off m zs) : PartAt (ys.map f) off m (zs.map f) := by
  obtain ⟨p, q, rfl, h1, h2⟩ := h
  exact ⟨p.map f, q.map f, by simp, by simp [h1], by simp [h2]⟩
theorem PartAt.get {α : Type} {ys zs : List α} {off m : Nat} (h : PartAt ys off m zs) : ∀ j v, zs[j]? = some v → ys[off + j]? = some v := by
  obtain ⟨p, q, rfl, rfl, rfl⟩ := h
  intro j v hj
  rw [List.append_assoc, List.getElem?_append_right (by omega), Nat.add_sub_cancel_left]
  have hl : j < zs.length := (List.getElem?_eq_some_iff.1 hj).1
  rw [List.getElem?_append_left hl]; exact hj
theorem PartAt.ext {α : Type} {ys zs : List α} {off m : Nat} (h : PartAt ys off m zs) : (ys.toArray.extract off (off + m)) = zs.toArray := by
  obtain ⟨p, q, rfl, rfl, rfl⟩ := h
  simp

def fldOf (P : Program) (T : TypeId) (i : Nat) : Option (Nat × Nat) := match P.underlying T with
  | some (.struct fs) => match fs[i]? with
    | some f => match szOf P f.type with
      | some s => some (f.offset, s)
      | none => none
    | none => none
  | _ => none
theorem fldOf_spec {P : Program} {T : TypeId} {i o s : Nat} (h : fldOf P T i = some (o, s)) : ∃ fs f, P.underlying T = some (.struct fs) ∧ fs[i]? = some f ∧ f.offset = o ∧ szOf P f.type = some s := by
  unfold fldOf at h
  split at h
  · rename_i fs h1
    split at h
    · rename_i f h2
      split at h
      · rename_i s' h3
        simp at h
        exact ⟨fs, f, h1, h2, h.1, by rw [h3, h.2]⟩
      · cases h
    · cases h
  · cases h

theorem fold_seg (off : Nat) : ∀ (vs old : List Value) (s : Nat) (pre post : List Value), old.length = vs.length → pre.length = off + s →
    (vs.zipIdx s).foldl (fun (cs : Array Value) (x : Value × Nat) => cs.setIfInBounds (off + x.2) x.1) (pre ++ old ++ post).toArray = (pre ++ vs ++ post).toArray
  | [], [], s, pre, post, _, _ => by simp
  | v :: vs, o :: old, s, pre, post, hl, hp => by
    simp only [List.zipIdx_cons, List.foldl_cons]
    have e : ((pre ++ o :: old ++ post).toArray.setIfInBounds (off + s) v) = ((pre ++ [v]) ++ old ++ post).toArray := by
      rw [← hp]
      simp [List.setIfInBounds_toArray]
    rw [e, fold_seg off vs old (s + 1) (pre ++ [v]) post (by simpa using hl) (by simp; omega)]
    simp
  | [], _ :: _, _, _, _, hl, _ => by simp at hl
  | _ :: _, [], _, _, _, hl, _ => by simp at hl
theorem fill_cons {place : Nat → Option (Nat × Nat)} {i : Nat} {v : Value} {rest : List (Nat × Value)} {pre old post : List Value} (hp : place i = some (pre.length, old.length)) (hv : v.cells.size = old.length) :
    Instr.fill place (pre ++ old ++ post).toArray ((i, v) :: rest) = Instr.fill place (pre ++ v.cells.toList ++ post).toArray rest := by
  simp only [Instr.fill, hp]
  rw [if_neg (by simp [hv])]
  congr 1
  have := fold_seg pre.length v.cells.toList old 0 pre post (by simp [hv]) rfl
  rw [← this, ← Array.foldl_toList, Array.toList_zipIdx]

section
variable {P : Program} {c : Cx} {n : Nat} {l : Sl} {W : List Res} {ops : Array Oper} {Q : Exit → Act → World → Prop} {rest : List Oper}
variable {d : Nat} {T : TypeId} {pos : String} {after : Array Edge}
theorem st_fld {x : Operand} {b off o s i : Nat} {t : TypeId} (hx : ev l x = some (pt b off)) (hf : fldOf P t i = some (o, s)) (hs : Nat.blt 0 s = true) (hn : Nat.blt d n = true)
    (hk : Go c n ((d, pt b (off + o)) :: l) W (wpList P ops Q rest)) : Go c n l W (wpList P ops Q (⟨some d, .fieldAddr t x i, T, pos, after, none⟩ :: rest)) :=
  st_val rfl rfl hn (fun a w ha hw => by
    obtain ⟨fs, f, h1, h2, rfl, h4⟩ := fldOf_spec hf
    have hs0 : ¬ s = 0 := by have := Nat.le_of_ble_eq_true hs; omega
    simp [execOp, ha.ev hx, Instr.fieldAt, Instr.sureAddr, run_underlying h1, h2, fieldPlace, run_sizeOf h4, hs0, pt, Addr.add]) hk
theorem st_ldp {x : Operand} {b off m : Nat} {k : IntKind} {ys zs : List Nat} {E U : TypeId} {R : List Res} (hx : ev l x = some (pt b off)) (hf : Find W (.blk b (LV k ys) U) R) (hs : aggT P E = true) (hz : szOf P E = some m)
    (hp : PartAt ys off m zs) (hn : Nat.blt d n = true)
    (hk : Go c n ((d, LV k zs) :: l) W (wpList P ops Q rest)) : Go c n l W (wpList P ops Q (⟨some d, .load E x, T, pos, after, none⟩ :: rest)) :=
  st_val rfl rfl hn (fun a w ha hw => by
    have hh : w.heap[b]? = some (.cells (ys.map (N k)).toArray U (0, 0)) := hw.holds _ hf.mem
    have hl : zs.length = m := by obtain ⟨_, _, _, _, h⟩ := hp; exact h
    have := run_loadVar_a (P := P) (w := w) (b := b) (off := off) (cs := zs.map (N k)) hs (by simpa [hl] using hz) hh (fun j v hv => by
      have := (hp.map (N k)).get j v hv
      simpa using this)
    simp [execOp, ha.ev hx, Instr.loadAt, Instr.sureAddr, this, LV]) hk
/-- A part of a record that is a value. -/
theorem st_fieldLV {x : Operand} {o s i : Nat} {k : IntKind} {ys zs : List Nat} {t : TypeId} (hx : ev l x = some (LV k ys)) (hf : fldOf P t i = some (o, s)) (hp : PartAt ys o s zs)
    (ha : (match P.underlying t with | some (.struct fs) => (match fs[i]? with | some f => aggT P f.type | none => false) | _ => false) = true) (hn : Nat.blt d n = true)
    (hk : Go c n ((d, LV k zs) :: l) W (wpList P ops Q rest)) : Go c n l W (wpList P ops Q (⟨some d, .field t x i, T, pos, after, none⟩ :: rest)) :=
  st_val rfl rfl hn (fun a w hA hw => by
    obtain ⟨fs, f, h1, h2, rfl, h4⟩ := fldOf_spec hf
    simp only [h1, h2] at ha
    have he := congrArg Array.toList (hp.map (N k)).ext
    simp at he
    simp [execOp, hA.ev hx, Instr.field, run_underlying h1, h2, part, run_isAgg_t ha, run_sizeOf h4, LV, asAgg, he]) hk

def plOf (P : Program) : List Field → Option (List (Nat × Nat))
  | [] => some []
  | f :: fs => match szOf P f.type, plOf P fs with
    | some s, some r => some ((f.offset, s) :: r)
    | _, _ => none
def plF (f : Field) : Sem (Nat × Nat) := do pure (f.offset, ← sizeOf f.type)
theorem run_pl {w : World} : ∀ {fs : List Field} {pl : List (Nat × Nat)}, plOf P fs = some pl → (fs.mapM plF).run P w = .ok pl w
  | [], pl, h => by simp [plOf] at h; subst h; simp
  | f :: fs, pl, h => by
    simp only [plOf] at h
    split at h
    · rename_i s r h1 h2
      simp at h; subst h
      simp [List.mapM_cons, plF, run_sizeOf h1, run_pl h2]
    · cases h
theorem run_plA {w : World} {fs : Array Field} {pl : List (Nat × Nat)} (h : plOf P fs.toList = some pl) : (fs.mapM plF).run P w = .ok pl.toArray w := by
  rw [Array.mapM_eq_mapM_toList]
  simp [run_pl h]
inductive FillsN (pl : List (Nat × Nat)) : List Nat → List (Nat × List Nat) → List Nat → Prop
  | nil {ys : List Nat} : FillsN pl ys [] ys
  | cons {pre old post zs out : List Nat} {i : Nat} {rest : List (Nat × List Nat)} (hp : pl[i]? = some (pre.length, old.length)) (hz : zs.length = old.length) (h : FillsN pl (pre ++ zs ++ post) rest out) :
      FillsN pl (pre ++ old ++ post) ((i, zs) :: rest) out
theorem fillsN {pl : List (Nat × Nat)} {k : IntKind} {ys out : List Nat} {ps : List (Nat × List Nat)} (h : FillsN pl ys ps out) :
    Instr.fill (pl.toArray[·]?) (ys.map (N k)).toArray (ps.map fun p => (p.1, LV k p.2)) = some (out.map (N k)).toArray := by
  induction h with
  | nil => rfl
  | cons hp hz h ih =>
    rename_i pre old post zs out i rest
    have e := fill_cons (place := (pl.toArray[·]?)) (i := i) (v := LV k zs) (rest := rest.map fun p => (p.1, LV k p.2)) (pre := pre.map (N k)) (old := old.map (N k)) (post := post.map (N k)) (by simpa using hp) (by simpa [LV, Value.cells] using hz)
    simp only [List.map_append, List.map_cons] at ih ⊢
    rw [e]
    simpa [LV, Value.cells] using ih
theorem st_buildS {t : TypeId} {fs : Array Field} {pl : List (Nat × Nat)} {k : IntKind} {z out : List Nat} {is : List Nat} {xs : List Operand} {vs : List (List Nat)} (ht : P.underlying t = some (.struct fs)) (hpl : plOf P fs.toList = some pl) (hz : zrOf P t = some (LV k z))
    (hv : evs l xs = some (vs.map (LV k))) (hf : FillsN pl z (is.zip vs) out) (hn : Nat.blt d n = true)
    (hk : Go c n ((d, LV k out) :: l) W (wpList P ops Q rest)) : Go c n l W (wpList P ops Q (⟨some d, .build t (is.zip xs).toArray, T, pos, after, none⟩ :: rest)) :=
  st_val rfl rfl hn (fun a w ha hw => by
    have he : ((is.zip xs).map fun (p : Nat × Operand) => (p.1, a.eval p.2)) = (is.zip vs).map fun p => (p.1, LV k p.2) := by
      have h1 : xs.map a.eval = vs.map (LV k) := ha.evs hv
      have h2 : (is.zip xs).map (fun (p : Nat × Operand) => (p.1, a.eval p.2)) = is.zip (xs.map a.eval) := by rw [List.zip_map_right]; rfl
      have h3 : (is.zip vs).map (fun (p : Nat × List Nat) => (p.1, LV k p.2)) = is.zip (vs.map (LV k)) := by rw [List.zip_map_right]; rfl
      rw [h2, h1, h3]
    have hpp : (fs.mapM fun (f : Field) => (do let s ← sizeOf f.type; pure (f.offset, s) : Sem (Nat × Nat))).run P w = .ok pl.toArray w := run_plA hpl
    have hff := fillsN (k := k) hf
    rw [← he] at hff
    simp only [execOp, Instr.build, Sem.run_bind, run_underlying ht, run_zero hz, hpp, Result.andThen_ok, List.map_toArray, Value.cells, LV]
    rw [hff]
    rfl) hk
/-- Records of two parts of equal size. -/
theorem st_build2 {t : TypeId} {fs : Array Field} {m : Nat} {k : IntKind} {xs ys : List Nat} {x y : Operand} (ht : P.underlying t = some (.struct fs)) (hpl : plOf P fs.toList = some [(0, m), (m, m)]) (hz : zrOf P t = some (LV k (List.replicate (m + m) 0)))
    (hv : evs l [x, y] = some [LV k xs, LV k ys]) (h1 : xs.length = m) (h2 : ys.length = m) (hn : Nat.blt d n = true)
    (hk : Go c n ((d, LV k (xs ++ ys)) :: l) W (wpList P ops Q rest)) : Go c n l W (wpList P ops Q (⟨some d, .build t #[(0, x), (1, y)], T, pos, after, none⟩ :: rest)) :=
  st_buildS (is := [0, 1]) (xs := [x, y]) (vs := [xs, ys]) ht hpl hz hv (by
    have e : List.replicate (m + m) 0 = [] ++ List.replicate m 0 ++ List.replicate m 0 := by rw [List.nil_append, List.replicate_append_replicate]
    rw [e]
    refine .cons (by simp) (by simpa using h1) ?_
    rw [List.nil_append, ← List.append_nil (xs ++ List.replicate m 0)]
    refine .cons (by simp [h1]) (by simpa using h2) ?_
    rw [List.append_nil]; exact .nil) hn hk
theorem st_build2a {t : TypeId} {fs : Array Field} {m : Nat} {k : IntKind} {xs : List Nat} {x : Operand} (ht : P.underlying t = some (.struct fs)) (hpl : plOf P fs.toList = some [(0, m), (m, m)]) (hz : zrOf P t = some (LV k (List.replicate (m + m) 0)))
    (hv : evs l [x] = some [LV k xs]) (h1 : xs.length = m) (hn : Nat.blt d n = true)
    (hk : Go c n ((d, LV k (xs ++ List.replicate m 0)) :: l) W (wpList P ops Q rest)) : Go c n l W (wpList P ops Q (⟨some d, .build t #[(0, x)], T, pos, after, none⟩ :: rest)) :=
  st_buildS (is := [0]) (xs := [x]) (vs := [xs]) ht hpl hz hv (by
    have e : List.replicate (m + m) 0 = [] ++ List.replicate m 0 ++ List.replicate m 0 := by rw [List.nil_append, List.replicate_append_replicate]
    rw [e]
    refine .cons (by simp) (by simpa using h1) ?_
    exact .nil) hn hk
theorem st_build2b {t : TypeId} {fs : Array Field} {m : Nat} {k : IntKind} {ys : List Nat} {y : Operand} (ht : P.underlying t = some (.struct fs)) (hpl : plOf P fs.toList = some [(0, m), (m, m)]) (hz : zrOf P t = some (LV k (List.replicate (m + m) 0)))
    (hv : evs l [y] = some [LV k ys]) (h1 : ys.length = m) (hn : Nat.blt d n = true)
    (hk : Go c n ((d, LV k (List.replicate m 0 ++ ys)) :: l) W (wpList P ops Q rest)) : Go c n l W (wpList P ops Q (⟨some d, .build t #[(1, y)], T, pos, after, none⟩ :: rest)) :=
  st_buildS (is := [1]) (xs := [y]) (vs := [ys]) ht hpl hz hv (by
    have e : List.replicate (m + m) 0 = List.replicate m 0 ++ List.replicate m 0 ++ [] := by rw [List.append_nil, List.replicate_append_replicate]
    rw [e]
    refine .cons (by simp) (by simpa using h1) ?_
    rw [List.append_nil]; exact .nil) hn hk
theorem st_build20 {t : TypeId} {fs : Array Field} {pl : List (Nat × Nat)} {k : IntKind} {z : List Nat} (ht : P.underlying t = some (.struct fs)) (hpl : plOf P fs.toList = some pl) (hz : zrOf P t = some (LV k z)) (hn : Nat.blt d n = true)
    (hk : Go c n ((d, LV k z) :: l) W (wpList P ops Q rest)) : Go c n l W (wpList P ops Q (⟨some d, .build t #[], T, pos, after, none⟩ :: rest)) :=
  st_buildS (is := []) (xs := []) (vs := []) ht hpl hz rfl .nil hn hk

/-- Two such records compared. -/
theorem run_rec2 {w : World} {t : TypeId} {f0 f1 : Field} {k : IntKind} {m : Nat} {E : TypeId} (ht : P.underlying t = some (.struct #[f0, f1])) (hst : P.stoodInHeld t = false) (hn0 : (f0.name != "_") = true) (hn1 : (f1.name != "_") = true)
    (h0 : P.underlying f0.type = some (.array m E)) (h1 : P.underlying f1.type = some (.array m E)) (hs0 : szOf P f0.type = some m) (hs1 : szOf P f1.type = some m) (ho0 : f0.offset = 0) (ho1 : f1.offset = m)
    (hE : P.underlying E = some (.int k)) (hz : szOf P E = some 1) {xs ys us vs : List Nat} (hx : xs.length = m) (hy : ys.length = m) (hu : us.length = m) (hv : vs.length = m) :
    (Op.equalIn 10000 t (LV k (xs ++ ys)) (LV k (us ++ vs))).run P w = .ok (decide (xs = us) && decide (ys = vs)) w := by
  have hf : P.fieldsOf t = #[f0, f1] := by unfold Program.fieldsOf; rw [ht]
  have e := run_equalIn_struct (P := P) w 9999 t ((xs ++ ys).map (N k)).toArray ((us ++ vs).map (N k)).toArray (by rw [hf]; exact ht) hst
  rw [hf] at e
  simp only [LV]
  rw [e]
  have a0 : aggT P f0.type = true := by unfold aggT; rw [h0]
  have a1 : aggT P f1.type = true := by unfold aggT; rw [h1]
  have p0 : ∀ (zs ts : List Nat), zs.length = m → (part f0.type ((zs ++ ts).map (N k)).toArray f0.offset).run P w = .ok (LV k zs) w := fun zs ts hz => by
    have he := ((PartAt.l (ys := ts) hz).map (N k)).ext
    rw [Nat.zero_add] at he
    simp only [part, Sem.run_bind, run_isAgg_t a0, Result.andThen_ok, if_true, run_sizeOf hs0, ho0, Nat.zero_add, he, Sem.run_pure, LV]
  have p1 : ∀ (zs ts : List Nat), zs.length = m → ts.length = m → (part f1.type ((zs ++ ts).map (N k)).toArray f1.offset).run P w = .ok (LV k ts) w := fun zs ts hz ht => by
    have he := ((PartAt.r (xs := zs) hz ht).map (N k)).ext
    simp only [part, Sem.run_bind, run_isAgg_t a1, Result.andThen_ok, if_true, run_sizeOf hs1, ho1, he, Sem.run_pure, LV]
  have q0 := run_arrEq (w := w) 9997 h0 hE hz xs us hx hu
  have q1 := run_arrEq (w := w) 9997 h1 hE hz ys vs hy hv
  have n0 : f0.name ≠ "_" := by simpa using hn0
  have n1 : f1.name ≠ "_" := by simpa using hn1
  simp only [Op.eqFields, if_pos n0, if_pos n1, Sem.run_bind, p0 xs ys hx, p0 us vs hu, p1 xs ys hx hy, p1 us vs hu hv, Result.andThen_ok, q0, q1, Sem.run_ite, Sem.run_pure]
  cases decide (xs = us) <;> cases decide (ys = vs) <;> rfl
theorem st_eq2 {t : TypeId} {f0 f1 : Field} {k : IntKind} {m : Nat} {E yt : TypeId} {x y : Operand} {xs ys us vs : List Nat} (hx : ev l x = some (LV k (xs ++ ys))) (hy : ev l y = some (LV k (us ++ vs))) (ht : P.underlying t = some (.struct #[f0, f1])) (hst : P.stoodInHeld t = false) (hn0 : (f0.name != "_") = true) (hn1 : (f1.name != "_") = true)
    (h0 : P.underlying f0.type = some (.array m E)) (h1 : P.underlying f1.type = some (.array m E)) (hs0 : szOf P f0.type = some m) (hs1 : szOf P f1.type = some m) (ho0 : f0.offset = 0) (ho1 : f1.offset = m)
    (hE : P.underlying E = some (.int k)) (hz : szOf P E = some 1) (hg : P.eqGuardType P.depth t = false) (l1 : xs.length = m) (l2 : ys.length = m) (l3 : us.length = m) (l4 : vs.length = m) (hn : Nat.blt d n = true)
    (hk : Go c n ((d, .bool (decide (xs = us) && decide (ys = vs))) :: l) W (wpList P ops Q rest)) : Go c n l W (wpList P ops Q (⟨some d, .binOp .eql t x y yt, T, pos, after, none⟩ :: rest)) :=
  st_val rfl rfl hn (fun a w ha _ => by
    have q1 := run_rec2 (w := w) ht hst hn0 hn1 h0 h1 hs0 hs1 ho0 ho1 hE hz l1 l2 l3 l4
    have q2 := run_eqGuard_agg (P := P) w .eql t x y ((xs ++ ys).map (N k)).toArray ((us ++ vs).map (N k)).toArray hg
    have q3 := run_eql_struct (P := P) w t ((xs ++ ys).map (N k)).toArray ((us ++ vs).map (N k)).toArray
    simp only [LV] at q1 hx hy
    rw [q1] at q3
    simp only [execOp, ha.ev hx, ha.ev hy, Sem.run_bind, q2, Result.andThen_ok, q3, Sem.run_pure]) hk
theorem st_ne2 {t : TypeId} {f0 f1 : Field} {k : IntKind} {m : Nat} {E yt : TypeId} {x y : Operand} {xs ys us vs : List Nat} (hx : ev l x = some (LV k (xs ++ ys))) (hy : ev l y = some (LV k (us ++ vs))) (ht : P.underlying t = some (.struct #[f0, f1])) (hst : P.stoodInHeld t = false) (hn0 : (f0.name != "_") = true) (hn1 : (f1.name != "_") = true)
    (h0 : P.underlying f0.type = some (.array m E)) (h1 : P.underlying f1.type = some (.array m E)) (hs0 : szOf P f0.type = some m) (hs1 : szOf P f1.type = some m) (ho0 : f0.offset = 0) (ho1 : f1.offset = m)
    (hE : P.underlying E = some (.int k)) (hz : szOf P E = some 1) (hg : P.eqGuardType P.depth t = false) (l1 : xs.length = m) (l2 : ys.length = m) (l3 : us.length = m) (l4 : vs.length = m) (hn : Nat.blt d n = true)
    (hk : Go c n ((d, .bool (!(decide (xs = us) && decide (ys = vs)))) :: l) W (wpList P ops Q rest)) : Go c n l W (wpList P ops Q (⟨some d, .binOp .neq t x y yt, T, pos, after, none⟩ :: rest)) :=
  st_val rfl rfl hn (fun a w ha _ => by
    have q1 := run_rec2 (w := w) ht hst hn0 hn1 h0 h1 hs0 hs1 ho0 ho1 hE hz l1 l2 l3 l4
    have q2 := run_eqGuard_agg (P := P) w .neq t x y ((xs ++ ys).map (N k)).toArray ((us ++ vs).map (N k)).toArray hg
    have q3 := run_neq_struct (P := P) w t ((xs ++ ys).map (N k)).toArray ((us ++ vs).map (N k)).toArray
    simp only [LV] at q1 hx hy
    rw [q1] at q3
    simp only [execOp, ha.ev hx, ha.ev hy, Sem.run_bind, q2, Result.andThen_ok, q3, Sem.run_pure]) hk
theorem st_eq2v {r : Bool} {t : TypeId} {f0 f1 : Field} {k : IntKind} {m : Nat} {E yt : TypeId} {x y : Operand} {xs ys us vs : List Nat} (hx : ev l x = some (LV k (xs ++ ys))) (hy : ev l y = some (LV k (us ++ vs))) (ht : P.underlying t = some (.struct #[f0, f1])) (hst : P.stoodInHeld t = false) (hn0 : (f0.name != "_") = true) (hn1 : (f1.name != "_") = true)
    (h0 : P.underlying f0.type = some (.array m E)) (h1 : P.underlying f1.type = some (.array m E)) (hs0 : szOf P f0.type = some m) (hs1 : szOf P f1.type = some m) (ho0 : f0.offset = 0) (ho1 : f1.offset = m)
    (hE : P.underlying E = some (.int k)) (hz : szOf P E = some 1) (hg : P.eqGuardType P.depth t = false) (hr : (decide (xs = us) && decide (ys = vs)) = r) (l1 : xs.length = m) (l2 : ys.length = m) (l3 : us.length = m) (l4 : vs.length = m) (hn : Nat.blt d n = true)
    (hk : Go c n ((d, .bool r) :: l) W (wpList P ops Q rest)) : Go c n l W (wpList P ops Q (⟨some d, .binOp .eql t x y yt, T, pos, after, none⟩ :: rest)) :=
  st_eq2 hx hy ht hst hn0 hn1 h0 h1 hs0 hs1 ho0 ho1 hE hz hg l1 l2 l3 l4 hn (by rw [hr]; exact hk)
theorem st_ne2v {r : Bool} {t : TypeId} {f0 f1 : Field} {k : IntKind} {m : Nat} {E yt : TypeId} {x y : Operand} {xs ys us vs : List Nat} (hx : ev l x = some (LV k (xs ++ ys))) (hy : ev l y = some (LV k (us ++ vs))) (ht : P.underlying t = some (.struct #[f0, f1])) (hst : P.stoodInHeld t = false) (hn0 : (f0.name != "_") = true) (hn1 : (f1.name != "_") = true)
    (h0 : P.underlying f0.type = some (.array m E)) (h1 : P.underlying f1.type = some (.array m E)) (hs0 : szOf P f0.type = some m) (hs1 : szOf P f1.type = some m) (ho0 : f0.offset = 0) (ho1 : f1.offset = m)
    (hE : P.underlying E = some (.int k)) (hz : szOf P E = some 1) (hg : P.eqGuardType P.depth t = false) (hr : (decide (xs = us) && decide (ys = vs)) = r) (l1 : xs.length = m) (l2 : ys.length = m) (l3 : us.length = m) (l4 : vs.length = m) (hn : Nat.blt d n = true)
    (hk : Go c n ((d, .bool (!r)) :: l) W (wpList P ops Q rest)) : Go c n l W (wpList P ops Q (⟨some d, .binOp .neq t x y yt, T, pos, after, none⟩ :: rest)) :=
  st_ne2 hx hy ht hst hn0 hn1 h0 h1 hs0 hs1 ho0 ho1 hE hz hg l1 l2 l3 l4 hn (by rw [hr]; exact hk)
end
end Go.Proofs.Ytfhempgkdnecnaa.L
