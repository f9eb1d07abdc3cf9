/- Memory in the small program logic: variables in boxes, arrays, slices. No condition. -/
import Derived.Test.YtfhempgkdnecnaaOps
namespace Go.Proofs.Ytfhempgkdnecnaa.L
open Go

@[reducible] def pt (b off : Nat) : Value := .pointer (some ⟨b, off, none⟩)

/-- An array of numbers. -/
def LV (k : IntKind) (ys : List Nat) : Value := .agg (ys.map (N k)).toArray

theorem add_pt (b off i : Nat) : (⟨b, off, none⟩ : Addr).add i = ⟨b, off + i, none⟩ := by
  unfold Addr.add; split <;> simp_all

def scal (P : Program) (T : TypeId) : Bool :=
  match P.underlying T with
  | some (.struct _) | some (.array _ _) => false
  | some _ => true
  | none => false
def aggT (P : Program) (T : TypeId) : Bool :=
  match P.underlying T with
  | some (.struct _) | some (.array _ _) => true
  | _ => false
def szOf (P : Program) (T : TypeId) : Option Nat := match P.info? T with
  | some ⟨_, _, s, _, _, _, _, _, _, _⟩ => some s
  | none => none
def byOf (P : Program) (T : TypeId) : Option Nat := match P.info? T with
  | some ⟨_, _, _, b, _, _, _, _, _, _⟩ => some b
  | none => none
def zrOf (P : Program) (T : TypeId) : Option Value := match P.info? T with
  | some ⟨_, _, _, _, _, _, _, z, _, _⟩ => z
  | none => none

theorem run_isAgg_f {P : Program} {T : TypeId} (h : scal P T = true) (w : World) : (isAgg T).run P w = .ok false w := by
  unfold scal at h
  cases hu : P.underlying T with
  | none => simp [hu] at h
  | some d =>
    simp only [isAgg, Sem.run_bind, run_underlying hu]
    cases d <;> simp [hu] at h <;> rfl
theorem run_isAgg_t {P : Program} {T : TypeId} (h : aggT P T = true) (w : World) : (isAgg T).run P w = .ok true w := by
  unfold aggT at h
  cases hu : P.underlying T with
  | none => simp [hu] at h
  | some d =>
    simp only [isAgg, Sem.run_bind, run_underlying hu]
    cases d <;> simp [hu] at h <;> rfl
theorem run_sizeOf {P : Program} {T : TypeId} {s : Nat} (h : szOf P T = some s) (w : World) : (sizeOf T).run P w = .ok s w := by
  unfold szOf at h
  cases hi : P.info? T with
  | none => simp [hi] at h
  | some i => simp [hi] at h; subst h; simp [sizeOf, typeInfo, hi]
theorem run_zero {P : Program} {T : TypeId} {z : Value} (h : zrOf P T = some z) (w : World) : (zeroValue T).run P w = .ok z w := by
  unfold zrOf at h
  cases hi : P.info? T with
  | none => simp [hi] at h
  | some i => simp [hi] at h; simp [zeroValue, typeInfo, hi, h]

/-! ## Reading a slice -/
def ea : Value → Nat → Addr
  | .slice (some a) _ _, i => a.add i
  | _, _ => default

structure Rd (w : World) (s : Value) (xs : List Value) : Prop where
  shape : ∃ a cap, s = .slice a xs.length cap ∧ xs.length ≤ cap ∧ (a = none → xs = [] ∧ cap = 0) ∧ ∀ a0, a = some a0 → a0.spot = none
  cells : ∀ i v, xs[i]? = some v → w.cell? (ea s i) = some v

def RdW (c : Cx) (W : List Res) (s : Value) (xs : List Value) : Prop := ∀ w, SatW c W w → Rd w s xs

theorem Rd.nil (w : World) : Rd w (.slice none 0 0) [] := ⟨⟨none, 0, rfl, Nat.le_refl _, fun _ => ⟨rfl, rfl⟩, by simp⟩, by simp⟩
theorem RdW.nil {c : Cx} {W : List Res} : RdW c W (.slice none 0 0) [] := fun w _ => Rd.nil w

theorem cell_lt {w : World} {a : Addr} {v : Value} (h : w.cell? a = some v) : a.block < w.heap.size := block_lt_of_cell h

theorem Rd.ext {w w' : World} {s : Value} {xs : List Value} (h : Rd w s xs) (he : ∀ b, b < w.heap.size → (∃ i, i < xs.length ∧ (ea s i).block = b) → w'.heap[b]? = w.heap[b]?) : Rd w' s xs :=
  ⟨h.shape, fun i v hv => by
    have hc := h.cells i v hv
    have hi : i < xs.length := by
      rcases Nat.lt_or_ge i xs.length with h | h
      · exact h
      · rw [List.getElem?_eq_none h] at hv; simp at hv
    rw [World.cell?_of_block (w := w) (he _ (cell_lt hc) ⟨i, hi, rfl⟩)]
    exact hc⟩

/-- A slice of memory that was there before the call and that the call does not write. -/
structure RdC (c : Cx) (s : Value) (xs : List Value) : Prop where
  rd : Rd c.w0 s xs
  out : ∀ i, i < xs.length → (ea s i).block ∉ c.S

theorem RdW.old {c : Cx} {W : List Res} {s : Value} {xs : List Value} (h : RdC c s xs) : RdW c W s xs :=
  fun _ hw => h.rd.ext fun b hb ⟨i, hi, he⟩ => hw.ext.block b hb (he ▸ h.out i hi)

theorem RdC.mk0 {w : World} {s : Value} {xs : List Value} (h : Rd w s xs) : RdC ⟨w, fps []⟩ s xs := ⟨h, by simp [fps]⟩

theorem RdW.own {c : Cx} {W R : List Res} {s : Value} {xs : List Value} {T : TypeId} (h : Find W (.sl s xs T) R) : RdW c W s xs := by
  intro w hw
  rcases hw.holds _ h.mem with ⟨rfl, rfl⟩ | ⟨b, off, cap, pre, post, fz, hs⟩
  · exact Rd.nil w
  · obtain ⟨rfl, h1, h2, h3, h4, h5⟩ := hs
    refine ⟨⟨_, cap, rfl, h1, by simp, by simp⟩, fun i v hv => ?_⟩
    have hi : i < xs.length := by
      rcases Nat.lt_or_ge i xs.length with h | h
      · exact h
      · rw [List.getElem?_eq_none h] at hv; simp at hv
    simp only [ea, add_pt]
    rw [cell_of_row w b (off + i) _ T fz h4]
    subst h3
    simp only [List.getElem?_toArray]
    rw [List.append_assoc, List.getElem?_append_right (by omega), List.getElem?_append_left (by omega)]
    rw [show pre.length + i - pre.length = i by omega]
    exact hv

/-- A cut of a slice. -/
def sub : Value → Nat → Nat → Value
  | .slice a _ cap, lo, hi => .slice (if cap = lo then a else a.map (·.add lo)) (hi - lo) (cap - lo)
  | v, _, _ => v

theorem Rd.sub {w : World} {s : Value} {xs : List Value} (h : Rd w s xs) {lo hi : Nat} (h1 : lo ≤ hi) (h2 : hi ≤ xs.length) :
    Rd w (sub s lo hi) ((xs.take hi).drop lo) := by
  obtain ⟨a, cap, rfl, hc, hn, hsp⟩ := h.shape
  have hlen : ((xs.take hi).drop lo).length = hi - lo := by simp; omega
  refine ⟨⟨if cap = lo then a else a.map (·.add lo), cap - lo, by rw [hlen]; rfl, by rw [hlen]; omega, fun he => ?_, fun a0 ha0 => ?_⟩, fun i v hv => ?_⟩
  · have : a = none := by
      split at he
      · exact he
      · simpa using he
    obtain ⟨hx, hcap⟩ := hn this
    subst hx; simp at h2
    subst h2; simp; omega
  · split at ha0
    · exact hsp a0 ha0
    · cases a with
      | none => simp at ha0
      | some b =>
        simp at ha0
        have := hsp b rfl
        subst ha0
        unfold Addr.add; split
        · exact this
        · rfl
  · have hi' : i < ((xs.take hi).drop lo).length := by
      rcases Nat.lt_or_ge i ((xs.take hi).drop lo).length with h | h
      · exact h
      · rw [List.getElem?_eq_none h] at hv; simp at hv
    rw [hlen] at hi'
    have hne : ¬ cap = lo := by omega
    cases a with
    | none => obtain ⟨hx, _⟩ := hn rfl; subst hx; simp at hv
    | some a0 =>
      have hv' : xs[lo + i]? = some v := by
        rw [List.getElem?_drop, List.getElem?_take] at hv
        rw [if_pos (by omega)] at hv; exact hv
      have hcell := h.cells (lo + i) v hv'
      have e : ea (L.sub (.slice (some a0) xs.length cap) lo hi) i = ea (.slice (some a0) xs.length cap) (lo + i) := by
        have hs0 := hsp a0 rfl
        obtain ⟨b, o, sp⟩ := a0
        simp only at hs0; subst hs0
        simp only [L.sub, if_neg hne, Option.map_some, ea, add_pt]
        congr 1; omega
      rw [e]; exact hcell

theorem RdW.sub {c : Cx} {W : List Res} {s : Value} {xs : List Value} (h : RdW c W s xs) {lo hi : Nat} (h1 : lo ≤ hi) (h2 : hi ≤ xs.length) :
    RdW c W (L.sub s lo hi) ((xs.take hi).drop lo) := fun w hw => (h w hw).sub h1 h2

/-- A cut of an array in a box. -/
def subA (b n lo hi : Nat) : Value := .slice (some ⟨b, if n = lo then 0 else lo, none⟩) (hi - lo) (n - lo)

theorem RdW.arr {c : Cx} {W R : List Res} {b : Nat} {cs : List Value} {T : TypeId} (h : Find W (.blk b (.agg cs.toArray) T) R) {n lo hi : Nat} (h1 : lo ≤ hi) (h2 : hi ≤ n) (hn : cs.length = n) :
    RdW c W (subA b n lo hi) ((cs.take hi).drop lo) := by
  intro w hw
  have hh : w.heap[b]? = some (.cells cs.toArray T (0, 0)) := hw.holds _ h.mem
  have hlen : ((cs.take hi).drop lo).length = hi - lo := by simp; omega
  refine ⟨⟨_, n - lo, by rw [hlen]; rfl, by rw [hlen]; omega, by simp, by simp⟩, fun i v hv => ?_⟩
  have hi' : i < ((cs.take hi).drop lo).length := by
    rcases Nat.lt_or_ge i ((cs.take hi).drop lo).length with h | h
    · exact h
    · rw [List.getElem?_eq_none h] at hv; simp at hv
  rw [hlen] at hi'
  have hne : ¬ n = lo := by omega
  simp only [subA, ea, add_pt, if_neg hne]
  rw [cell_of_row w b (lo + i) _ T _ hh]
  rw [List.getElem?_drop, List.getElem?_take, if_pos (by omega)] at hv
  simpa using hv

theorem RdW.arrN {c : Cx} {W R : List Res} {b : Nat} {k : IntKind} {ys : List Nat} {T : TypeId} (h : Find W (.blk b (LV k ys) T) R) {n lo hi : Nat} (h1 : lo ≤ hi) (h2 : hi ≤ n) (hn : ys.length = n) :
    RdW c W (subA b n lo hi) (((ys.take hi).drop lo).map (N k)) := by
  have := RdW.arr (c := c) (cs := ys.map (N k)) h h1 h2 (by simpa using hn)
  simpa [List.map_take, List.map_drop] using this
theorem RdW.subN {c : Cx} {W : List Res} {s : Value} {k : IntKind} {ys : List Nat} (h : RdW c W s (ys.map (N k))) {lo hi : Nat} (h1 : lo ≤ hi) (h2 : hi ≤ ys.length) :
    RdW c W (L.sub s lo hi) (((ys.take hi).drop lo).map (N k)) := by
  have := RdW.sub h h1 (by simpa using h2)
  simpa [List.map_take, List.map_drop] using this

section mem
variable {P : Program} {c : Cx} {n : Nat} {l : Sl} {W : List Res} {ops : Array Oper} {Q : Exit → Act → World → Prop} {rest : List Oper}
variable {d : Nat} {T : TypeId} {pos : String} {after : Array Edge}

/-! ## Ghost steps -/
theorem st_ghost {φ : Act → World → Prop} {W' : List Res} (h : ∀ w, SatW c W w → SatW c W' w) (hk : Go c n l W' φ) : Go c n l W φ :=
  fun a w ha hw => hk a w ha (h w hw)

theorem st_own_nil {φ : Act → World → Prop} (T : TypeId) (hk : Go c n l (.sl (.slice none 0 0) [] T :: W) φ) : Go c n l W φ :=
  st_ghost (fun _ hw => ⟨hw.ext, fun r hr => by
    rcases List.mem_cons.1 hr with rfl | hr
    · exact .inl ⟨rfl, rfl⟩
    · exact hw.holds r hr, fun b hb => hw.own b (by simpa [fps, Res.fp] using hb), by simpa [fps, Res.fp] using hw.nd⟩) hk

theorem sl_sub {w : World} {s : Value} {xs : List Value} {T : TypeId} (h : (Res.sl s xs T).holds w) {lo hi : Nat} (h1 : lo ≤ hi) (h2 : hi ≤ xs.length) :
    (Res.sl (sub s lo hi) ((xs.take hi).drop lo) T).holds w ∧ (Res.sl (sub s lo hi) ((xs.take hi).drop lo) T).fp = (Res.sl s xs T).fp := by
  rcases h with ⟨rfl, rfl⟩ | ⟨b, off, cap, pre, post, fz, hs⟩
  · simp at h2; subst h2
    have : lo = 0 := by omega
    subst this
    exact ⟨.inl ⟨by simp [sub], by simp⟩, by simp [sub, Res.fp]⟩
  · obtain ⟨rfl, h3, h4, h5, h6, h7⟩ := hs
    have hlen : ((xs.take hi).drop lo).length = hi - lo := by simp; omega
    by_cases hc : cap = lo
    · have e1 : lo = xs.length := by omega
      have e2 : hi = xs.length := by omega
      have e3 : (xs.take hi).drop lo = [] := by subst e2; rw [e1]; simp
      refine ⟨.inr ⟨b, off, 0, pre, xs ++ post, fz, ?_⟩, by simp [sub, Res.fp, hc]⟩
      rw [e3]
      refine ⟨?_, by simp, by simp, h5, by simpa using h6, by simpa using h7⟩
      simp [sub, hc]; omega
    · refine ⟨.inr ⟨b, off + lo, cap - lo, pre ++ xs.take lo, xs.drop hi ++ post, fz, ?_⟩, ?_⟩
      · refine ⟨?_, by rw [hlen]; omega, ?_, ?_, ?_, ?_⟩
        · rw [hlen]; simp [sub, hc, add_pt]
        · rw [hlen]; simp; omega
        · simp; omega
        · rw [h6]
          congr 2
          have : xs = xs.take lo ++ ((xs.take hi).drop lo ++ xs.drop hi) := by
            rw [← List.append_assoc]
            have e : xs.take lo ++ (xs.take hi).drop lo = xs.take hi := by
              rw [show xs.take lo = (xs.take hi).take lo by rw [List.take_take, Nat.min_eq_left h1]]
              exact List.take_append_drop lo (xs.take hi)
            rw [e, List.take_append_drop]
          conv => lhs; rw [this]
          simp
        · intro hf
          have := h7 hf
          simp at this ⊢; omega
      · simp [sub, Res.fp, hc, add_pt]

/-- What is owned is a cut of what was owned. -/
theorem st_resl {φ : Act → World → Prop} {s : Value} {xs : List Value} {R : List Res} (lo hi : Nat) (hf : Find W (.sl s xs T) R) (h1 : lo ≤ hi) (h2 : hi ≤ xs.length)
    (hk : Go c n l (.sl (sub s lo hi) ((xs.take hi).drop lo) T :: R) φ) : Go c n l W φ :=
  st_ghost (fun w hw => by
    have hw := hw.perm hf.perm
    obtain ⟨g1, g2⟩ := sl_sub (hw.holds _ (List.mem_cons_self ..)) h1 h2
    exact hw.upd g2 (Ext.refl _ _) g1) hk

/-! ## New variables -/
theorem st_box {x : Operand} {v : Value} {E : TypeId} (hx : ev l x = some v) (hn : Nat.blt d n = true)
    (hk : ∀ b, Go c n ((d, pt b 0) :: l) (.blk b v E :: W) (wpList P ops Q rest)) :
    Go c n l W (wpList P ops Q (⟨some d, .box E x, T, pos, after, none⟩ :: rest)) :=
  st_op rfl rfl hn (Φ := fun u V => ∃ b, u = pt b 0 ∧ V = .blk b v E :: W)
    (fun a w ha hw => ⟨pt w.heap.size 0, { w with heap := w.heap.push (.cells v.cells E) }, _, by
        simp [execOp, ha.ev hx, Instr.box, newVar, newRow], hw.alloc (r := .blk w.heap.size v E) rfl (by simp [Res.holds]), _, rfl, rfl⟩)
    (fun u V ⟨b, hu, hV⟩ => by subst hu; subst hV; exact hk b)
theorem st_alloc {v : Value} {E : TypeId} (hz : zrOf P E = some v) (hn : Nat.blt d n = true)
    (hk : ∀ b, Go c n ((d, pt b 0) :: l) (.blk b v E :: W) (wpList P ops Q rest)) :
    Go c n l W (wpList P ops Q (⟨some d, .alloc E, T, pos, after, none⟩ :: rest)) :=
  st_op rfl rfl hn (Φ := fun u V => ∃ b, u = pt b 0 ∧ V = .blk b v E :: W)
    (fun a w ha hw => ⟨pt w.heap.size 0, { w with heap := w.heap.push (.cells v.cells E) }, _, by
        simp [execOp, Instr.alloc, run_zero hz, newVar, newRow], hw.alloc (r := .blk w.heap.size v E) rfl (by simp [Res.holds]), _, rfl, rfl⟩)
    (fun u V ⟨b, hu, hV⟩ => by subst hu; subst hV; exact hk b)

/-! ## Loads -/
theorem run_loadVar_s {w : World} {a0 : Addr} {v : Value} {E : TypeId} (hs : scal P E = true) (hc : w.cell? a0 = some v) : (loadVar E a0).run P w = .ok v w := by
  simp [loadVar, run_isAgg_f hs, hc]
theorem run_loadVar_a {w : World} {b off : Nat} {cs : List Value} {E U : TypeId} {o : Array Value} {fz : Nat × Nat} (hs : aggT P E = true) (hz : szOf P E = some cs.length)
    (hh : w.heap[b]? = some (.cells o U fz)) (hcs : ∀ j v, cs[j]? = some v → o[off + j]? = some v) : (loadVar E ⟨b, off, none⟩).run P w = .ok (.agg cs.toArray) w := by
  have hl : (loadCells ⟨b, off, none⟩ cs.length).run P w = .ok cs.toArray w :=
    run_loadCells_list (P := P) w ⟨b, off, none⟩ cs (fun j v hv => by rw [add_pt, cell_of_row w b _ o U fz hh]; exact hcs j v hv)
  simp [loadVar, run_isAgg_t hs, run_sizeOf hz, hl]

/-- A variable of one cell. -/
theorem st_load_s {x : Operand} {b : Nat} {v : Value} {E U : TypeId} {R : List Res} (hx : ev l x = some (pt b 0)) (hf : Find W (.blk b v U) R) (hv : v.oneCell' = true) (hs : scal P E = true)
    (hn : Nat.blt d n = true) (hk : Go c n ((d, v) :: l) W (wpList P ops Q rest)) : Go c n l W (wpList P ops Q (⟨some d, .load E x, T, pos, after, none⟩ :: rest)) :=
  st_val rfl rfl hn (fun a w ha hw => by
    have hh : w.heap[b]? = some (.cells v.cells U (0, 0)) := hw.holds _ hf.mem
    have hc : w.cell? ⟨b, 0, none⟩ = some v := by
      rw [cell_of_row w b 0 _ U _ hh]
      cases v <;> simp_all [Value.cells, Value.oneCell']
    simp [execOp, ha.ev hx, Instr.loadAt, Instr.sureAddr, run_loadVar_s hs hc]) hk
/-- A whole struct or array. -/
theorem st_load_a {x : Operand} {b m : Nat} {cs : Array Value} {E U : TypeId} {R : List Res} (hx : ev l x = some (pt b 0)) (hf : Find W (.blk b (.agg cs) U) R) (hs : aggT P E = true) (hz : szOf P E = some m) (hl : cs.size = m)
    (hn : Nat.blt d n = true) (hk : Go c n ((d, .agg cs) :: l) W (wpList P ops Q rest)) : Go c n l W (wpList P ops Q (⟨some d, .load E x, T, pos, after, none⟩ :: rest)) :=
  st_val rfl rfl hn (fun a w ha hw => by
    have hh : w.heap[b]? = some (.cells cs U (0, 0)) := hw.holds _ hf.mem
    have := run_loadVar_a (P := P) (w := w) (b := b) (off := 0) (cs := cs.toList) hs (by subst hl; simpa using hz) hh (fun j v hv => by simpa using hv)
    simp [execOp, ha.ev hx, Instr.loadAt, Instr.sureAddr, this]) hk
theorem st_load_LV {x : Operand} {b m : Nat} {k : IntKind} {ys : List Nat} {E U : TypeId} {R : List Res} (hx : ev l x = some (pt b 0)) (hf : Find W (.blk b (LV k ys) U) R) (hs : aggT P E = true) (hz : szOf P E = some m) (hl : ys.length = m)
    (hn : Nat.blt d n = true) (hk : Go c n ((d, LV k ys) :: l) W (wpList P ops Q rest)) : Go c n l W (wpList P ops Q (⟨some d, .load E x, T, pos, after, none⟩ :: rest)) :=
  st_load_a hx hf hs hz (by simpa using hl) hn hk
/-- A cell of an array of numbers. -/
theorem st_load_N {x : Operand} {b off : Nat} {k : IntKind} {ys : List Nat} {E U : TypeId} {R : List Res} (hx : ev l x = some (pt b off)) (hf : Find W (.blk b (LV k ys) U) R) (hi : off < ys.length) (hs : scal P E = true)
    (hn : Nat.blt d n = true) (hk : Go c n ((d, N k (ys.getD off 0)) :: l) W (wpList P ops Q rest)) : Go c n l W (wpList P ops Q (⟨some d, .load E x, T, pos, after, none⟩ :: rest)) :=
  st_val rfl rfl hn (fun a w ha hw => by
    have hh : w.heap[b]? = some (.cells (ys.map (N k)).toArray U (0, 0)) := hw.holds _ hf.mem
    have hc : w.cell? ⟨b, off, none⟩ = some (N k (ys.getD off 0)) := by
      rw [cell_of_row w b off _ U _ hh]; simp [hi]
    simp [execOp, ha.ev hx, Instr.loadAt, Instr.sureAddr, run_loadVar_s hs hc]) hk
/-- An element of a slice. -/
theorem st_load_rd {x : Operand} {s v : Value} {i : Nat} {xs : List Value} {E : TypeId} (hx : ev l x = some (.pointer (some (ea s i)))) (hr : RdW c W s xs) (hi : xs[i]? = some v) (hs : scal P E = true)
    (hn : Nat.blt d n = true) (hk : Go c n ((d, v) :: l) W (wpList P ops Q rest)) : Go c n l W (wpList P ops Q (⟨some d, .load E x, T, pos, after, none⟩ :: rest)) :=
  st_val rfl rfl hn (fun a w ha hw => by
    have hc := (hr w hw).cells i v hi
    simp [execOp, ha.ev hx, Instr.loadAt, Instr.sureAddr, run_loadVar_s hs hc]) hk
theorem st_load_rdN {x : Operand} {s : Value} {i : Nat} {k : IntKind} {ys : List Nat} {E : TypeId} (hx : ev l x = some (.pointer (some (ea s i)))) (hr : RdW c W s (ys.map (N k))) (hi : i < ys.length) (hs : scal P E = true)
    (hn : Nat.blt d n = true) (hk : Go c n ((d, N k (ys.getD i 0)) :: l) W (wpList P ops Q rest)) : Go c n l W (wpList P ops Q (⟨some d, .load E x, T, pos, after, none⟩ :: rest)) :=
  st_load_rd hx hr (by simp [hi]) hs hn hk

/-! ## Stores -/
theorem satW_setRow {c : Cx} {R : List Res} {w : World} {r r' : Res} {b : Nat} {U : TypeId} {o o' : Array Value} {fz : Nat × Nat} (hw : SatW c (r :: R) w) (hfp : r.fp = [b]) (hfp' : r'.fp = [b])
    (hh : w.heap[b]? = some (.cells o U fz)) (hr : ∀ w' : World, w'.heap[b]? = some (.cells o' U fz) → r'.holds w') : SatW c (r' :: R) (w.setRow b o') := by
  refine hw.upd (by rw [hfp, hfp']) ⟨rfl, rfl, rfl, by simp, fun k _ hs => setRow_other w b k o' (by rw [hfp] at hs; simpa using hs)⟩ (hr _ (setRow_heap w b o o' U fz hh))

theorem run_storeVar_s {w : World} {b off : Nat} {v : Value} {E U : TypeId} {o : Array Value} {fz : Nat × Nat} (hz : szOf P E = some 1) (hv : v.oneCell' = true)
    (hh : w.heap[b]? = some (.cells o U fz)) (hi : off < o.size) (hfz : ¬ (fz.1 ≤ off ∧ off < fz.2)) : (storeVar E ⟨b, off, none⟩ v).run P w = .ok () (w.setRow b (o.setIfInBounds off v)) := by
  have hcs : v.cells = #[v] := by cases v <;> simp_all [Value.cells, Value.oneCell']
  have hcell : w.cell? ⟨b, off, none⟩ = some o[off] := by simp [World.cell?, hh, hi]
  have hfro : w.frozen? ⟨b, off, none⟩ = false := by
    simp only [World.frozen?, hh]
    simpa using hfz
  have hst : (store (⟨b, off, none⟩ : Addr) v).run P w = .ok () (w.setRow b (o.setIfInBounds off v)) := by
    rw [run_store P w _ v _ hv, hcell]
    simp [hfro, setCell_eq_setRow w b off o U fz v hh]
  simp [storeVar, run_sizeOf hz, hcs, storeCells, add_pt, hst]

theorem st_store_s {x y : Operand} {b : Nat} {v u : Value} {E U : TypeId} {R : List Res} (hx : ev l x = some (pt b 0)) (hy : ev l y = some u) (hf : Find W (.blk b v U) R) (hv : v.oneCell' = true) (hu : u.oneCell' = true) (hz : szOf P E = some 1)
    (hk : Go c n l (.blk b u U :: R) (wpList P ops Q rest)) : Go c n l W (wpList P ops Q (⟨none, .store E x y, T, pos, after, none⟩ :: rest)) :=
  st_do rfl rfl (fun a w ha hw => by
    have hw := hw.perm hf.perm
    have hh : w.heap[b]? = some (.cells v.cells U (0, 0)) := hw.holds _ (List.mem_cons_self ..)
    have hcs : v.cells = #[v] := by cases v <;> simp_all [Value.cells, Value.oneCell']
    have hcu : u.cells = #[u] := by cases u <;> simp_all [Value.cells, Value.oneCell']
    rw [hcs] at hh
    refine ⟨w.setRow b #[u], ?_, satW_setRow hw rfl rfl hh (fun w' h => by simp only [Res.holds, hcu]; exact h)⟩
    have := run_storeVar_s (P := P) (off := 0) hz hu hh (by simp) (by simp)
    simp [execOp, ha.ev hx, ha.ev hy, Instr.storeAt, Instr.sureAddr, this]) hk

/-- A cell of an array of numbers. -/
theorem st_store_N {x y : Operand} {b off u : Nat} {k : IntKind} {ys : List Nat} {E U : TypeId} {R : List Res} (hx : ev l x = some (pt b off)) (hy : ev l y = some (N k u)) (hf : Find W (.blk b (LV k ys) U) R) (hi : off < ys.length) (hz : szOf P E = some 1)
    (hk : Go c n l (.blk b (LV k (ys.set off u)) U :: R) (wpList P ops Q rest)) : Go c n l W (wpList P ops Q (⟨none, .store E x y, T, pos, after, none⟩ :: rest)) :=
  st_do rfl rfl (fun a w ha hw => by
    have hw := hw.perm hf.perm
    have hh : w.heap[b]? = some (.cells (ys.map (N k)).toArray U (0, 0)) := hw.holds _ (List.mem_cons_self ..)
    refine ⟨w.setRow b ((ys.map (N k)).toArray.setIfInBounds off (N k u)), ?_, satW_setRow hw rfl rfl hh (fun w' h => by
      simp only [Res.holds, LV, Value.cells]; rw [h]; simp [List.map_set])⟩
    have := run_storeVar_s (P := P) (v := N k u) (off := off) hz rfl hh (by simpa using hi) (by simp)
    simp [execOp, ha.ev hx, ha.ev hy, Instr.storeAt, Instr.sureAddr, this]) hk

/-- A whole struct or array. -/
theorem st_store_a {x y : Operand} {b m : Nat} {o cs : Array Value} {E U : TypeId} {R : List Res} (hx : ev l x = some (pt b 0)) (hy : ev l y = some (.agg cs)) (hf : Find W (.blk b (.agg o) U) R) (hz : szOf P E = some m) (hl : o.size = m) (hl' : cs.size = m)
    (h1 : ∀ v ∈ cs.toList, v.oneCell' = true)
    (hk : Go c n l (.blk b (.agg cs) U :: R) (wpList P ops Q rest)) : Go c n l W (wpList P ops Q (⟨none, .store E x y, T, pos, after, none⟩ :: rest)) :=
  st_do rfl rfl (fun a w ha hw => by
    have hw := hw.perm hf.perm
    have hh : w.heap[b]? = some (.cells o U (0, 0)) := hw.holds _ (List.mem_cons_self ..)
    have hsz : o.size = cs.size := by rw [hl, hl']
    subst hl'
    refine ⟨w.setRow b cs, ?_, satW_setRow hw rfl rfl hh (fun w' h => h)⟩
    have hst := run_storeCells_at P b 0 U cs.toList 0 o w hh (by simp [hsz]) h1
    have e : (o.toList.take (0 + 0) ++ cs.toList ++ o.toList.drop (0 + 0 + cs.toList.length)).toArray = cs := by
      have : o.toList.drop cs.size = [] := List.drop_eq_nil_of_le (by simp [hsz])
      simp [this]
    rw [e] at hst
    simp [execOp, ha.ev hx, ha.ev hy, Instr.storeAt, Instr.sureAddr, storeVar, run_sizeOf hz, Value.cells, hst]) hk
theorem st_store_LV {x y : Operand} {b m : Nat} {k : IntKind} {ys zs : List Nat} {E U : TypeId} {R : List Res} (hx : ev l x = some (pt b 0)) (hy : ev l y = some (LV k zs)) (hf : Find W (.blk b (LV k ys) U) R) (hz : szOf P E = some m) (hl : ys.length = m) (hl' : zs.length = m)
    (hk : Go c n l (.blk b (LV k zs) U :: R) (wpList P ops Q rest)) : Go c n l W (wpList P ops Q (⟨none, .store E x y, T, pos, after, none⟩ :: rest)) :=
  st_store_a hx hy hf hz (by simpa using hl) (by simpa using hl') (by simp [Value.oneCell']) hk

/-- An element of a slice of one's own. -/
theorem st_store_sl {x y : Operand} {s u : Value} {i : Nat} {xs : List Value} {E U : TypeId} {R : List Res} (hx : ev l x = some (.pointer (some (ea s i)))) (hy : ev l y = some u) (hf : Find W (.sl s xs U) R) (hi : i < xs.length) (hu : u.oneCell' = true) (hz : szOf P E = some 1)
    (hk : Go c n l (.sl s (xs.set i u) U :: R) (wpList P ops Q rest)) : Go c n l W (wpList P ops Q (⟨none, .store E x y, T, pos, after, none⟩ :: rest)) :=
  st_do rfl rfl (fun a w ha hw => by
    have hw := hw.perm hf.perm
    rcases hw.holds _ (List.mem_cons_self ..) with ⟨rfl, rfl⟩ | ⟨b, off, cap, pre, post, fz, hs⟩
    · simp at hi
    · obtain ⟨rfl, h1, h2, h3, h4, h5⟩ := hs
      have hlt : off + i < (pre ++ xs ++ post).toArray.size := by simp; omega
      have hfz : ¬ (fz.1 ≤ off + i ∧ off + i < fz.2) := by
        intro ⟨q1, q2⟩
        have := h5 (by omega)
        simp at this; omega
      have := run_storeVar_s (P := P) (v := u) (off := off + i) hz hu h4 hlt hfz
      have hset : (pre ++ xs ++ post).toArray.setIfInBounds (off + i) u = (pre ++ xs.set i u ++ post).toArray := by
        simp only [List.setIfInBounds_toArray]
        congr 1
        subst h3
        rw [List.append_assoc, List.append_assoc, List.set_append_right _ _ (by omega), Nat.add_sub_cancel_left, List.set_append_left _ _ hi]
      rw [hset] at this
      refine ⟨_, ?_, satW_setRow hw (r' := .sl (.slice (some ⟨b, off, none⟩) xs.length cap) (xs.set i u) U) rfl rfl h4 (fun w' h => .inr ⟨b, off, cap, pre, post, fz, by simp, by simpa using h1, by simpa using h2, h3, h, by simpa using h5⟩)⟩
      simp [execOp, ha.ev hx, ha.ev hy, Instr.storeAt, Instr.sureAddr, ea, add_pt, this]) hk
theorem st_store_slN {x y : Operand} {s : Value} {i u : Nat} {k : IntKind} {ys : List Nat} {E U : TypeId} {R : List Res} (hx : ev l x = some (.pointer (some (ea s i)))) (hy : ev l y = some (N k u)) (hf : Find W (.sl s (ys.map (N k)) U) R) (hi : i < ys.length) (hz : szOf P E = some 1)
    (hk : Go c n l (.sl s ((ys.set i u).map (N k)) U :: R) (wpList P ops Q rest)) : Go c n l W (wpList P ops Q (⟨none, .store E x y, T, pos, after, none⟩ :: rest)) :=
  st_store_sl hx hy hf (by simpa using hi) rfl hz (by rw [← List.map_set]; exact hk)

/-! ## Addresses -/
theorem st_ia_arr {x y : Operand} {b off i m : Nat} {k : IntKind} {t E : TypeId} {sz : Nat} (hx : ev l x = some (pt b off)) (hy : ev l y = some (N k i)) (ht : P.underlying t = some (.array m E)) (hz : szOf P E = some sz) (hi : i < m)
    (hn : Nat.blt d n = true) (hk : Go c n ((d, pt b (off + i * sz)) :: l) W (wpList P ops Q rest)) : Go c n l W (wpList P ops Q (⟨some d, .indexAddr t x y, T, pos, after, none⟩ :: rest)) :=
  st_val rfl rfl hn (fun a w ha hw => by
    have h1 : (0 : Int) ≤ (i : Int) ∧ (i : Int) < (m : Int) := by omega
    simp [execOp, ha.ev hx, ha.ev hy, Instr.indexAt, asIntOf, run_underlying ht, Instr.sureAddr, hi, run_sizeOf hz, add_pt]) hk
theorem st_ia_arr1 {x y : Operand} {b i m : Nat} {k : IntKind} {t E : TypeId} (hx : ev l x = some (pt b 0)) (hy : ev l y = some (N k i)) (ht : P.underlying t = some (.array m E)) (hz : szOf P E = some 1) (hi : i < m)
    (hn : Nat.blt d n = true) (hk : Go c n ((d, pt b i) :: l) W (wpList P ops Q rest)) : Go c n l W (wpList P ops Q (⟨some d, .indexAddr t x y, T, pos, after, none⟩ :: rest)) :=
  st_ia_arr hx hy ht hz hi hn (by simpa using hk)
theorem st_ia_sl {x y : Operand} {s : Value} {i : Nat} {k : IntKind} {xs : List Value} {t E : TypeId} (hx : ev l x = some s) (hy : ev l y = some (N k i)) (ht : P.underlying t = some (.slice E)) (hz : szOf P E = some 1) (hr : RdW c W s xs) (hi : i < xs.length)
    (hn : Nat.blt d n = true) (hk : Go c n ((d, .pointer (some (ea s i))) :: l) W (wpList P ops Q rest)) : Go c n l W (wpList P ops Q (⟨some d, .indexAddr t x y, T, pos, after, none⟩ :: rest)) :=
  st_val rfl rfl hn (fun a w ha hw => by
    obtain ⟨a0, cap, rfl, h1, h2, h3⟩ := (hr w hw).shape
    cases a0 with
    | none => obtain ⟨h, _⟩ := h2 rfl; subst h; simp at hi
    | some a1 => simp [execOp, ha.ev hx, ha.ev hy, Instr.indexAt, asIntOf, run_underlying ht, hi, run_sizeOf hz, ea]) hk

/-! ## Lengths, cuts -/
theorem st_len {x : Operand} {s : Value} {xs : List Value} {t E : TypeId} {ts : List TypeId} (hx : ev l x = some s) (ht : P.underlying t = some (.slice E)) (hr : RdW c W s xs)
    (hn : Nat.blt d n = true) (hk : Go c n ((d, N .i64 xs.length) :: l) W (wpList P ops Q rest)) :
    Go c n l W (wpList P ops Q (⟨some d, .call { callee := .builtin .len, args := #[x], argTypes := (t :: ts).toArray }, T, pos, after, none⟩ :: rest)) :=
  st_val rfl rfl hn (fun a w ha hw => by
    obtain ⟨a0, cap, rfl, h1, h2, h3⟩ := (hr w hw).shape
    simp [execOp, ha.ev hx, resolve, invoke, builtin, Builtin.len_, run_underlying ht, goInt]) hk
theorem st_lenN {x : Operand} {s : Value} {kk : IntKind} {ys : List Nat} {t E : TypeId} {ts : List TypeId} (hx : ev l x = some s) (ht : P.underlying t = some (.slice E)) (hr : RdW c W s (ys.map (N kk)))
    (hn : Nat.blt d n = true) (hk : Go c n ((d, N .i64 ys.length) :: l) W (wpList P ops Q rest)) :
    Go c n l W (wpList P ops Q (⟨some d, .call { callee := .builtin .len, args := #[x], argTypes := (t :: ts).toArray }, T, pos, after, none⟩ :: rest)) :=
  st_len hx ht hr hn (by simpa using hk)
theorem st_len_arr {x : Operand} {v : Value} {m : Nat} {t E : TypeId} {ts : List TypeId} (hx : ev l x = some v) (ht : P.underlying t = some (.array m E))
    (hn : Nat.blt d n = true) (hk : Go c n ((d, N .i64 m) :: l) W (wpList P ops Q rest)) :
    Go c n l W (wpList P ops Q (⟨some d, .call { callee := .builtin .len, args := #[x], argTypes := (t :: ts).toArray }, T, pos, after, none⟩ :: rest)) :=
  st_val rfl rfl hn (fun a w ha hw => by
    simp [execOp, ha.ev hx, resolve, invoke, builtin, Builtin.len_, run_underlying ht, goInt]) hk
theorem st_len_ptr {x : Operand} {v : Value} {m : Nat} {t A E : TypeId} {ts : List TypeId} (hx : ev l x = some v) (ht : P.underlying t = some (.pointer A)) (hA : P.underlying A = some (.array m E))
    (hn : Nat.blt d n = true) (hk : Go c n ((d, N .i64 m) :: l) W (wpList P ops Q rest)) :
    Go c n l W (wpList P ops Q (⟨some d, .call { callee := .builtin .len, args := #[x], argTypes := (t :: ts).toArray }, T, pos, after, none⟩ :: rest)) :=
  st_val rfl rfl hn (fun a w ha hw => by
    simp [execOp, ha.ev hx, resolve, invoke, builtin, Builtin.len_, run_underlying ht, run_underlying hA, goInt]) hk

/-- The bounds of a cut: what is not written is 0, or the length. -/
def loOf (l : Sl) : Option Operand → Option Nat
  | none => some 0
  | some x => match ev l x with
    | some (.int _ (.ofNat i)) => some i
    | _ => none
def hiOf (l : Sl) (len : Nat) : Option Operand → Option Nat
  | none => some len
  | some x => match ev l x with
    | some (.int _ (.ofNat i)) => some i
    | _ => none
theorem loc {l : Sl} {k : IntKind} {n : Nat} : loOf l (some (.const (.int k (@OfNat.ofNat Int n _)))) = some (@OfNat.ofNat Nat n _) := rfl
theorem hic {l : Sl} {len : Nat} {k : IntKind} {n : Nat} : hiOf l len (some (.const (.int k (@OfNat.ofNat Int n _)))) = some (@OfNat.ofNat Nat n _) := rfl
theorem loOf_some {l : Sl} {x : Operand} {i : Nat} (h : loOf l (some x) = some i) : ∃ k, ev l x = some (N k i) := by
  simp only [loOf] at h
  split at h
  · rename_i k j hx; simp at h; subst h; exact ⟨k, hx⟩
  · simp at h
theorem hiOf_some {l : Sl} {x : Operand} {i len : Nat} (h : hiOf l len (some x) = some i) : ∃ k, ev l x = some (N k i) := by
  simp only [hiOf] at h
  split at h
  · rename_i k j hx; simp at h; subst h; exact ⟨k, hx⟩
  · simp at h

theorem run_sliceBounds {w : World} {a : Act} (ha : SatA n l a) {isS : Bool} {len cap lo hi : Nat} {xl xh : Option Operand} (hl : loOf l xl = some lo) (hh : hiOf l len xh = some hi) (h1 : lo ≤ hi) (h2 : hi ≤ cap) (_h3 : len ≤ cap) :
    (Instr.sliceBounds isS len cap (xl.map a.eval) (xh.map a.eval) none).run P w = .ok (lo, hi, cap) w := by
  have bnd : ∀ (k : IntKind) (i y : Nat) (code : BoundsCode), i ≤ y → (Instr.sliceBound (N k i) y code).run P w = .ok i w := fun k i y code h => by
    have := run_sliceBound (P := P) (w := w) k (i : Int) y code (by omega) (by omega)
    rw [Int.toNat_natCast] at this
    exact this
  cases xl with
  | none =>
    simp [loOf] at hl; subst hl
    cases xh with
    | none => simp [hiOf] at hh; subst hh; simp [Instr.sliceBounds]
    | some y =>
      obtain ⟨k, hy⟩ := hiOf_some hh
      simp [Instr.sliceBounds, ha.ev hy, bnd k hi cap _ h2]
  | some x =>
    obtain ⟨k', hx⟩ := loOf_some hl
    cases xh with
    | none => simp [hiOf] at hh; subst hh; simp [Instr.sliceBounds, ha.ev hx, bnd k' lo len _ h1]
    | some y =>
      obtain ⟨k, hy⟩ := hiOf_some hh
      simp [Instr.sliceBounds, ha.ev hx, ha.ev hy, bnd k hi cap _ h2, bnd k' lo hi _ h1]

theorem st_slice {x : Operand} {s : Value} {xs : List Value} {t E : TypeId} {xl xh : Option Operand} {lo hi : Nat} (hx : ev l x = some s) (ht : P.underlying t = some (.slice E)) (hz : szOf P E = some 1) (hr : RdW c W s xs)
    (hl : loOf l xl = some lo) (hh : hiOf l xs.length xh = some hi) (h1 : lo ≤ hi) (h2 : hi ≤ xs.length)
    (hn : Nat.blt d n = true) (hk : Go c n ((d, sub s lo hi) :: l) W (wpList P ops Q rest)) :
    Go c n l W (wpList P ops Q (⟨some d, .slice t x xl xh none, T, pos, after, none⟩ :: rest)) :=
  st_val rfl rfl hn (fun a w ha hw => by
    obtain ⟨a0, cap, rfl, h3, h4, h5⟩ := (hr w hw).shape
    have hb := run_sliceBounds (P := P) (w := w) (isS := true) ha hl hh h1 (by omega) h3
    simp [execOp, ha.ev hx, Instr.sliceAt, run_underlying ht, Instr.slice, hb, run_sizeOf hz, sub]) hk
theorem st_slice_arr {x : Operand} {b m : Nat} {t E : TypeId} {xl xh : Option Operand} {lo hi : Nat} (hx : ev l x = some (pt b 0)) (ht : P.underlying t = some (.array m E)) (hz : szOf P E = some 1)
    (hl : loOf l xl = some lo) (hh : hiOf l m xh = some hi) (h1 : lo ≤ hi) (h2 : hi ≤ m)
    (hn : Nat.blt d n = true) (hk : Go c n ((d, subA b m lo hi) :: l) W (wpList P ops Q rest)) :
    Go c n l W (wpList P ops Q (⟨some d, .slice t x xl xh none, T, pos, after, none⟩ :: rest)) :=
  st_val rfl rfl hn (fun a w ha hw => by
    have hb := run_sliceBounds (P := P) (w := w) (isS := false) ha hl hh h1 h2 (Nat.le_refl _)
    simp only [execOp, ha.ev hx, Instr.sliceAt, run_underlying ht, Sem.run_bind, Result.andThen_ok, Instr.sureAddr, Sem.run_pure, Option.map_none, hb, run_sizeOf hz, Nat.mul_one, subA]
    congr 3
    by_cases hc : m = lo
    · simp [hc]
    · simp [hc, add_pt]) hk
theorem st_slice_ptr {x : Operand} {b m : Nat} {t A E : TypeId} {xl xh : Option Operand} {lo hi : Nat} (hx : ev l x = some (pt b 0)) (ht : P.underlying t = some (.pointer A)) (hA : P.underlying A = some (.array m E)) (hz : szOf P E = some 1)
    (hl : loOf l xl = some lo) (hh : hiOf l m xh = some hi) (h1 : lo ≤ hi) (h2 : hi ≤ m)
    (hn : Nat.blt d n = true) (hk : Go c n ((d, subA b m lo hi) :: l) W (wpList P ops Q rest)) :
    Go c n l W (wpList P ops Q (⟨some d, .slice t x xl xh none, T, pos, after, none⟩ :: rest)) :=
  st_val rfl rfl hn (fun a w ha hw => by
    have hb := run_sliceBounds (P := P) (w := w) (isS := false) ha hl hh h1 h2 (Nat.le_refl _)
    simp only [execOp, ha.ev hx, Instr.sliceAt, Instr.slice, run_underlying ht, run_underlying hA, Sem.run_bind, Result.andThen_ok, asAddr, Sem.run_pure, Option.map_none, hb, run_sizeOf hz, Nat.mul_one, subA]
    congr 3
    by_cases hc : m = lo
    · simp [hc]
    · simp [hc, add_pt]) hk

/-- A slice seen as an array, and the array read. -/
def sptr : Value → Value
  | .slice a _ _ => .pointer a
  | _ => .pointer none
theorem st_arrptr {x : Operand} {s : Value} {xs : List Value} {A E : TypeId} {m : Nat} (hx : ev l x = some s) (hA : P.underlying A = some (.array m E)) (hr : RdW c W s xs) (hm : m ≤ xs.length)
    (hn : Nat.blt d n = true) (hk : Go c n ((d, sptr s) :: l) W (wpList P ops Q rest)) :
    Go c n l W (wpList P ops Q (⟨some d, .sliceToArrayPointer A x, T, pos, after, none⟩ :: rest)) :=
  st_val rfl rfl hn (fun a w ha hw => by
    obtain ⟨a0, cap, rfl, h1, h2, h3⟩ := (hr w hw).shape
    have : ¬ xs.length < m := by omega
    simp [execOp, ha.ev hx, Instr.arrayAt, run_underlying hA, this, sptr]) hk
theorem st_load_sptr {x : Operand} {s : Value} {xs : List Value} {A : TypeId} {m : Nat} (hx : ev l x = some (sptr s)) (hs : aggT P A = true) (hz : szOf P A = some m) (hr : RdW c W s xs) (hm : m ≤ xs.length) (hm0 : 0 < m)
    (hn : Nat.blt d n = true) (hk : Go c n ((d, .agg (xs.take m).toArray) :: l) W (wpList P ops Q rest)) :
    Go c n l W (wpList P ops Q (⟨some d, .load A x, T, pos, after, none⟩ :: rest)) :=
  st_val rfl rfl hn (fun a w ha hw => by
    obtain ⟨a0, cap, he, h1, h2, h3⟩ := (hr w hw).shape
    cases a0 with
    | none => obtain ⟨h, _⟩ := h2 rfl; subst h; simp at hm; omega
    | some a1 =>
      subst he
      have hl : (loadCells a1 (xs.take m).length).run P w = .ok (xs.take m).toArray w :=
        run_loadCells_list (P := P) w a1 (xs.take m) (fun j v hv => by
          have : xs[j]? = some v := by
            rw [List.getElem?_take] at hv
            split at hv
            · exact hv
            · simp at hv
          exact (hr w hw).cells j v this)
      have e : (xs.take m).length = m := by simp; omega
      rw [e] at hl
      simp [execOp, ha.ev hx, sptr, Instr.loadAt, Instr.sureAddr, loadVar, run_isAgg_t hs, run_sizeOf hz, hl]) hk
theorem st_load_sptrN {x : Operand} {s : Value} {k : IntKind} {ys : List Nat} {A : TypeId} {m : Nat} (hx : ev l x = some (sptr s)) (hs : aggT P A = true) (hz : szOf P A = some m) (hr : RdW c W s (ys.map (N k))) (hm : m ≤ ys.length) (hm0 : 0 < m)
    (hn : Nat.blt d n = true) (hk : Go c n ((d, LV k (ys.take m)) :: l) W (wpList P ops Q rest)) :
    Go c n l W (wpList P ops Q (⟨some d, .load A x, T, pos, after, none⟩ :: rest)) :=
  st_load_sptr hx hs hz hr (by simpa using hm) hm0 hn (by rw [← List.map_take]; exact hk)

/-- An array value, by a place. -/
theorem st_index {x y : Operand} {k kk : IntKind} {ys : List Nat} {i m : Nat} {t E : TypeId} (hx : ev l x = some (LV k ys)) (hy : ev l y = some (N kk i)) (ht : P.underlying t = some (.array m E)) (hs : scal P E = true) (hz : szOf P E = some 1) (hi : i < m) (hl : ys.length = m)
    (hn : Nat.blt d n = true) (hk : Go c n ((d, N k (ys.getD i 0)) :: l) W (wpList P ops Q rest)) :
    Go c n l W (wpList P ops Q (⟨some d, .index t x y, T, pos, after, none⟩ :: rest)) :=
  st_val rfl rfl hn (fun a w ha hw => by
    have hi' : i < ys.length := by omega
    simp [execOp, ha.ev hx, ha.ev hy, Instr.index, asIntOf, run_underlying ht, LV, hi, run_sizeOf hz, part, run_isAgg_f hs, hi']) hk
end mem
end Go.Proofs.Ytfhempgkdnecnaa.L
