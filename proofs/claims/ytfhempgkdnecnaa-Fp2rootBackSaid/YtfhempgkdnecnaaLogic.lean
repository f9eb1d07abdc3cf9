/- A small program logic over the model: a goal speaks of all frames whose slots hold what a list says and of all worlds whose own blocks hold what a list says. No condition. -/
import Derived.Tactics
import Derived.Orders
import Derived.Below
namespace Go.Proofs.Ytfhempgkdnecnaa.L
open Go

/-! ## Slots -/
abbrev Sl := List (Nat × Value)

theorem beq_ne {i j : Nat} (h : ¬ i = j) : Nat.beq i j = false := by
  cases hb : Nat.beq i j
  · rfl
  · exact absurd (Nat.eq_of_beq_eq_true hb) h
theorem ne_beq {i j : Nat} (h : Nat.beq i j = false) : ¬ i = j := by
  intro e; subst e
  have : Nat.beq i i = true := Nat.beq_refl i
  rw [this] at h; cases h
theorem lt_blt {i j : Nat} (h : Nat.blt i j = true) : i < j := Nat.le_of_ble_eq_true h

def lk : Sl → Nat → Option Value
  | [], _ => none
  | (t, v) :: r, u => cond (Nat.beq t u) (some v) (lk r u)

def ev (l : Sl) : Operand → Option Value
  | .tmp t => lk l t
  | .const v => some v
  | .global g => some (.pointer (some ⟨g, 0, none⟩))
  | .func f => some (.func (.func f) #[] #[])

def evs (l : Sl) : List Operand → Option (List Value)
  | [] => some []
  | o :: r => match ev l o, evs l r with
    | some v, some vs => some (v :: vs)
    | _, _ => none

theorem evc {l : Sl} {k : IntKind} {n : Nat} : ev l (.const (.int k (@OfNat.ofNat Int n _))) = some (.int k (Int.ofNat (@OfNat.ofNat Nat n _))) := rfl

structure SatA (n : Nat) (l : Sl) (a : Act) : Prop where
  dfr : a.defers = []
  sz : a.tmps.size = n
  at_ : ∀ t v, lk l t = some v → a.tmps[t]? = some v

theorem SatA.ev {n : Nat} {l : Sl} {a : Act} (h : SatA n l a) {x : Operand} {v : Value} (hv : ev l x = some v) : a.eval x = v := by
  cases x with
  | tmp t =>
    have := h.at_ t v hv
    simp only [Act.eval]
    rw [Array.getD_eq_getD_getElem?, this]; rfl
  | const u => simpa [L.ev, Act.eval] using hv
  | global g => simpa [L.ev, Act.eval] using hv
  | func f => simpa [L.ev, Act.eval] using hv

theorem SatA.evs {n : Nat} {l : Sl} {a : Act} (h : SatA n l a) : ∀ {xs : List Operand} {vs : List Value}, evs l xs = some vs → xs.map a.eval = vs
  | [], vs, hv => by simpa [L.evs] using hv
  | x :: r, vs, hv => by
    simp only [L.evs] at hv
    split at hv
    · rename_i v us hx hr
      simp only [Option.some.injEq] at hv
      subst hv
      simp [h.ev hx, SatA.evs h hr]
    · simp at hv

theorem SatA.put {n : Nat} {l : Sl} {a : Act} (h : SatA n l a) {d : Nat} {v : Value} (hd : Nat.blt d n = true) : SatA n ((d, v) :: l) (a.put (some d) v) := by
  have hd' : d < n := lt_blt hd
  refine ⟨h.dfr, by simp [Act.put, h.sz], fun t u ht => ?_⟩
  simp only [lk] at ht
  simp only [Act.put]
  by_cases hc : d = t
  · subst hc
    simp at ht
    subst ht
    simp [h.sz, hd']
  · have : Nat.beq d t = false := beq_ne hc
    rw [this] at ht
    rw [Array.getElem?_setIfInBounds_ne hc]
    exact h.at_ t u ht

/-- What is forgotten, or reordered: enough that each entry of the new list is found in the old one. -/
def subL (l' l : Sl) : Prop := ∀ t v, lk l' t = some v → lk l t = some v

theorem subL.nil (l : Sl) : subL [] l := fun _ _ h => by simp [lk] at h
theorem subL.cons {l' l : Sl} {t : Nat} {v : Value} (h : lk l t = some v) (hs : subL l' l) : subL ((t, v) :: l') l := by
  intro u x hx
  simp only [lk] at hx
  by_cases hc : t = u
  · subst hc
    simp at hx
    subst hx; exact h
  · have : Nat.beq t u = false := beq_ne hc
    rw [this] at hx
    exact hs u x hx

theorem SatA.sub {n : Nat} {l l' : Sl} {a : Act} (h : SatA n l a) (hs : subL l' l) : SatA n l' a :=
  ⟨h.dfr, h.sz, fun t v ht => h.at_ t v (hs t v ht)⟩

/-! ## Worlds -/
structure Ext (S : List Nat) (w w' : World) : Prop where
  os : w'.os = w.os
  tape : w'.tape = w.tape
  output : w'.output = w.output
  size : w.heap.size ≤ w'.heap.size
  block : ∀ k, k < w.heap.size → k ∉ S → w'.heap[k]? = w.heap[k]?

theorem Ext.refl (S : List Nat) (w : World) : Ext S w w := ⟨rfl, rfl, rfl, Nat.le_refl _, fun _ _ _ => rfl⟩

theorem Ext.trans {S T : List Nat} {a b c : World} (h : Ext S a b) (k : Ext T b c) (hT : ∀ x ∈ T, a.heap.size ≤ x ∨ x ∈ S) : Ext S a c :=
  ⟨k.os.trans h.os, k.tape.trans h.tape, k.output.trans h.output, Nat.le_trans h.size k.size, fun i hi hs =>
    (k.block i (Nat.lt_of_lt_of_le hi h.size) (fun hm => by rcases hT i hm with h1 | h1; omega; exact hs h1)).trans (h.block i hi hs)⟩

theorem Ext.below {w w' : World} (h : Ext [] w w') : RowKit.Below w.heap.size w w' :=
  ⟨h.os, h.tape, h.output, h.size, fun k hk => h.block k hk (by simp)⟩

theorem Ext.drawn {S : List Nat} {w w' : World} (h : Ext S w w') (k : Nat) : Ext S w { w' with drawn := k } :=
  ⟨h.os, h.tape, h.output, h.size, h.block⟩

/-- What the call owns: a boxed variable, or a slice over a block of its own (or nil). -/
inductive Res where
  | blk (b : Nat) (v : Value) (T : TypeId)
  | sl (s : Value) (xs : List Value) (T : TypeId)

def Res.fp : Res → List Nat
  | .blk b _ _ => [b]
  | .sl (.slice (some a) _ _) _ _ => [a.block]
  | .sl _ _ _ => []

/-- A slice over a block, its elements one cell each. -/
structure SlAt (h : Array Obj) (s : Value) (xs : List Value) (T : TypeId) (b off cap : Nat) (pre post : List Value) (fz : Nat × Nat) : Prop where
  val : s = .slice (some ⟨b, off, none⟩) xs.length cap
  len : xs.length ≤ cap
  room : cap ≤ xs.length + post.length
  poff : pre.length = off
  blk : h[b]? = some (.cells (pre ++ xs ++ post).toArray T fz)
  fzo : fz.1 ≠ fz.2 → (pre ++ xs ++ post).length ≤ fz.1

def Res.holds : Res → World → Prop
  | .blk b v T, w => w.heap[b]? = some (.cells v.cells T (0, 0))
  | .sl s xs T, w => (s = .slice none 0 0 ∧ xs = []) ∨ ∃ b off cap pre post fz, SlAt w.heap s xs T b off cap pre post fz

theorem Res.fp_lt {r : Res} {w : World} (h : r.holds w) : ∀ b ∈ r.fp, b < w.heap.size := by
  intro b hb
  cases r with
  | blk b' v T =>
    simp only [Res.fp, List.mem_singleton] at hb; subst hb
    simp only [Res.holds] at h
    rcases Nat.lt_or_ge b w.heap.size with h1 | h1
    · exact h1
    · rw [Array.getElem?_eq_none h1] at h; simp at h
  | sl s xs T =>
    rcases h with ⟨rfl, _⟩ | ⟨b', off, cap, pre, post, fz, hs⟩
    · simp [Res.fp] at hb
    · obtain ⟨rfl, h1, h2, h3, h4, h5⟩ := hs
      simp only [Res.fp, List.mem_singleton] at hb; subst hb
      rcases Nat.lt_or_ge b w.heap.size with h1 | h1
      · exact h1
      · rw [Array.getElem?_eq_none h1] at h4; simp at h4

/-- Only the blocks that it names matter. -/
theorem Res.holds_congr {r : Res} {w w' : World} (h : r.holds w) (he : ∀ b ∈ r.fp, w'.heap[b]? = w.heap[b]?) : r.holds w' := by
  cases r with
  | blk b v T => simp only [Res.holds, Res.fp, List.mem_singleton, forall_eq] at h he ⊢; rw [he]; exact h
  | sl s xs T =>
    rcases h with h | ⟨b', off, cap, pre, post, fz, hs⟩
    · exact .inl h
    · obtain ⟨rfl, h1, h2, h3, h4, h5⟩ := hs
      simp only [Res.fp, List.mem_singleton, forall_eq] at he
      exact .inr ⟨b', off, cap, pre, post, fz, rfl, h1, h2, h3, by rw [he]; exact h4, h5⟩

def fps (W : List Res) : List Nat := W.flatMap Res.fp

structure Cx where
  w0 : World
  S : List Nat

structure SatW (c : Cx) (W : List Res) (w : World) : Prop where
  ext : Ext c.S c.w0 w
  holds : ∀ r ∈ W, r.holds w
  own : ∀ b ∈ fps W, c.w0.heap.size ≤ b ∨ b ∈ c.S
  nd : (fps W).Nodup

theorem SatW.lt {c : Cx} {W : List Res} {w : World} (h : SatW c W w) : ∀ b ∈ fps W, b < w.heap.size := by
  intro b hb
  obtain ⟨r, hr, hb⟩ := List.mem_flatMap.1 hb
  exact Res.fp_lt (h.holds r hr) b hb

theorem SatW.perm {c : Cx} {W W' : List Res} {w : World} (h : SatW c W w) (p : W.Perm W') : SatW c W' w := by
  have hp : (fps W).Perm (fps W') := p.flatMap_right _
  exact ⟨h.ext, fun r hr => h.holds r (p.mem_iff.2 hr), fun b hb => h.own b (hp.mem_iff.2 hb), hp.nodup_iff.1 h.nd⟩

theorem SatW.drop {c : Cx} {r : Res} {W : List Res} {w : World} (h : SatW c (r :: W) w) : SatW c W w :=
  ⟨h.ext, fun x hx => h.holds x (List.mem_cons_of_mem _ hx), fun b hb => h.own b (by simp only [fps, List.flatMap_cons, List.mem_append]; exact .inr hb),
    by have := h.nd; simp only [fps, List.flatMap_cons] at this; exact (List.nodup_append.1 this).2.1⟩

theorem SatW.drawn {c : Cx} {W : List Res} {w : World} (h : SatW c W w) (k : Nat) : SatW c W { w with drawn := k } :=
  ⟨h.ext.drawn k, fun r hr => Res.holds_congr (h.holds r hr) (fun _ _ => rfl), h.own, h.nd⟩

/-- 'r' stands in W; R is what is left. -/
inductive Find : List Res → Res → List Res → Prop
  | here {r : Res} {W : List Res} : Find (r :: W) r W
  | there {r x : Res} {W R : List Res} (h : Find W r R) : Find (x :: W) r (x :: R)

theorem Find.perm {W R : List Res} {r : Res} (h : Find W r R) : W.Perm (r :: R) := by
  induction h with
  | here => exact .refl _
  | there h ih => exact (ih.cons _).trans (.swap _ _ _)

theorem Find.mem {W R : List Res} {r : Res} (h : Find W r R) : r ∈ W := h.perm.mem_iff.2 (List.mem_cons_self ..)

/-- What W' asks for is found in W, entry by entry. -/
inductive SubW : List Res → List Res → Prop
  | nil {W : List Res} : SubW [] W
  | cons {r : Res} {W' W R : List Res} (h : Find W r R) (hs : SubW W' R) : SubW (r :: W') W

theorem SatW.sub {c : Cx} {W W' : List Res} {w : World} (h : SatW c W w) (hs : SubW W' W) : SatW c W' w := by
  induction hs generalizing w with
  | nil =>
    exact ⟨h.ext, fun r hr => by simp at hr, fun b hb => by simp [fps] at hb, by simp [fps]⟩
  | cons hf hs ih =>
    rename_i r W' W R
    have h1 := h.perm hf.perm
    have h2 := ih h1.drop
    refine ⟨h2.ext, ?_, ?_, ?_⟩
    · intro x hx
      rcases List.mem_cons.1 hx with rfl | hx
      · exact h1.holds _ (List.mem_cons_self ..)
      · exact h2.holds x hx
    · intro b hb
      simp only [fps, List.flatMap_cons, List.mem_append] at hb
      rcases hb with hb | hb
      · exact h1.own b (by simp only [fps, List.flatMap_cons, List.mem_append]; exact .inl hb)
      · exact h2.own b hb
    · have hn := h1.nd
      simp only [fps, List.flatMap_cons] at hn ⊢
      obtain ⟨n1, _, n3⟩ := List.nodup_append.1 hn
      refine List.nodup_append.2 ⟨n1, h2.nd, fun x hx y hy => ?_⟩
      refine n3 x hx y ?_
      -- y comes from W', so from R
      have : ∀ {A B : List Res}, SubW A B → ∀ y ∈ fps A, y ∈ fps B := by
        intro A B hab
        induction hab with
        | nil => intro y hy; simp [fps] at hy
        | cons hf _ ih =>
          intro y hy
          have hp := (hf.perm.flatMap_right Res.fp).mem_iff (a := y)
          simp only [fps, List.flatMap_cons, List.mem_append] at hy hp ⊢
          exact hp.2 (hy.imp id (fun q => ih y q))
      exact this hs y hy

/-- A new block. -/
theorem SatW.alloc {c : Cx} {W : List Res} {w : World} (h : SatW c W w) {o : Obj} {r : Res} (hfp : r.fp = [w.heap.size])
    (hr : r.holds { w with heap := w.heap.push o }) : SatW c (r :: W) { w with heap := w.heap.push o } := by
  have hlt := h.lt
  refine ⟨h.ext.trans (T := []) ⟨rfl, rfl, rfl, by simp, fun k hk _ => ?_⟩ (by simp), ?_, ?_, ?_⟩
  · show (w.heap.push o)[k]? = _
    rw [Array.getElem?_push, if_neg (by omega)]
  · intro x hx
    rcases List.mem_cons.1 hx with rfl | hx
    · exact hr
    · refine Res.holds_congr (h.holds x hx) fun b hb => ?_
      have := Res.fp_lt (h.holds x hx) b hb
      show (w.heap.push o)[b]? = _
      rw [Array.getElem?_push, if_neg (by omega)]
  · intro b hb
    simp only [fps, List.flatMap_cons, List.mem_append, hfp, List.mem_singleton] at hb
    rcases hb with rfl | hb
    · exact .inl h.ext.size
    · exact h.own b hb
  · simp only [fps, List.flatMap_cons, hfp]
    refine List.nodup_append.2 ⟨by simp, h.nd, fun x hx y hy => ?_⟩
    simp only [List.mem_singleton] at hx; subst hx
    have := hlt y hy; omega

/-- The block of one resource is written over. -/
theorem SatW.upd {c : Cx} {r r' : Res} {W : List Res} {w w' : World} (h : SatW c (r :: W) w) (hfp : r'.fp = r.fp) (he : Ext r.fp w w')
    (hr : r'.holds w') : SatW c (r' :: W) w' := by
  have hn := h.nd
  simp only [fps, List.flatMap_cons] at hn
  obtain ⟨n1, n2, n3⟩ := List.nodup_append.1 hn
  refine ⟨h.ext.trans he (fun x hx => h.own x (by simp only [fps, List.flatMap_cons, List.mem_append]; exact .inl hx)), ?_, ?_, ?_⟩
  · intro x hx
    rcases List.mem_cons.1 hx with rfl | hx
    · exact hr
    · refine Res.holds_congr (h.holds x (List.mem_cons_of_mem _ hx)) fun b hb => ?_
      refine he.block b (Res.fp_lt (h.holds x (List.mem_cons_of_mem _ hx)) b hb) fun hb' => ?_
      exact n3 b hb' b (List.mem_flatMap.2 ⟨x, hx, hb⟩) rfl
  · intro b hb
    refine h.own b ?_
    simpa only [fps, List.flatMap_cons, hfp] using hb
  · simpa only [fps, List.flatMap_cons, hfp] using h.nd

/-- Other blocks are written, or made. -/
theorem SatW.ext_other {c : Cx} {W : List Res} {w w' : World} (h : SatW c W w) {S : List Nat} (he : Ext S w w') (hS : ∀ x ∈ S, c.w0.heap.size ≤ x ∨ x ∈ c.S)
    (hd : ∀ x ∈ S, x ∉ fps W) : SatW c W w' :=
  ⟨h.ext.trans he hS, fun r hr => Res.holds_congr (h.holds r hr) fun b hb => he.block b (Res.fp_lt (h.holds r hr) b hb) (fun hs => hd b hs (List.mem_flatMap.2 ⟨r, hr, hb⟩)), h.own, h.nd⟩

theorem SatW.ext0 {c : Cx} {W : List Res} {w w' : World} (h : SatW c W w) (he : Ext [] w w') : SatW c W w' :=
  h.ext_other he (by simp) (by simp)

/-! ## The judgement -/
def Go (c : Cx) (n : Nat) (l : Sl) (W : List Res) (φ : Act → World → Prop) : Prop := ∀ a w, SatA n l a → SatW c W w → φ a w

/-- What is still to be run behind a piece of code, the nearest first. -/
inductive Fr where
  | seq (y : Code)
  | blk (id : Nat)
  | inv (J : Act → World → Prop)

def Af (P : Program) (B : Exit → Act → World → Prop) : List Fr → Exit → Act → World → Prop
  | [], e => B e
  | .seq y :: k, .normal => y.wp P (Af P B k)
  | .seq _ :: k, e => Af P B k e
  | .blk _ :: k, .normal => Af P B k .normal
  | .blk id :: k, .exit id' => fun a w => (id' = id → Af P B k .normal a w) ∧ (¬ id' = id → Af P B k (.exit id') a w)
  | .blk _ :: k, e => Af P B k e
  | .inv J :: _, .normal => J
  | .inv _ :: k, e => Af P B k e

theorem Af_ret (P : Program) (B : Exit → Act → World → Prop) : ∀ k, Af P B k .ret = B .ret
  | [] => rfl
  | .seq _ :: k => Af_ret P B k
  | .blk _ :: k => Af_ret P B k
  | .inv _ :: k => Af_ret P B k

/-- Where an exit goes. -/
def exitK (id : Nat) : List Fr → Option (List Fr)
  | [] => none
  | .blk id' :: k => cond (Nat.beq id' id) (some k) (exitK id k)
  | _ :: k => exitK id k

theorem Af_exit (P : Program) (B : Exit → Act → World → Prop) (id : Nat) (a : Act) (w : World) : ∀ {k k' : List Fr}, exitK id k = some k' → Af P B k' .normal a w → Af P B k (.exit id) a w
  | [], k', h, _ => by simp [exitK] at h
  | .seq _ :: k, k', h, hq => Af_exit P B id a w (k := k) h hq
  | .inv _ :: k, k', h, hq => Af_exit P B id a w (k := k) h hq
  | .blk id' :: k, k', h, hq => by
    simp only [exitK] at h
    by_cases hc : id' = id
    · subst hc
      simp at h; subst h
      exact ⟨fun _ => hq, fun h => absurd rfl h⟩
    · rw [beq_ne hc] at h
      exact ⟨fun e => absurd e.symm hc, fun _ => Af_exit P B id a w (k := k) h hq⟩

section rules
variable {P : Program} {c : Cx} {n : Nat} {l : Sl} {W : List Res} {B Q : Exit → Act → World → Prop} {k : List Fr} {K : Act → World → Prop}

theorem st_seq {x y : Code} (h : Go c n l W (x.wp P (Af P B (.seq y :: k)))) : Go c n l W ((Code.seq x y).wp P (Af P B k)) :=
  fun a w ha hw => wp_seq (wp_mono (h a w ha hw) fun e a w hq => by cases e <;> exact hq)
theorem st_block {id : Nat} {x : Code} (h : Go c n l W (x.wp P (Af P B (.blk id :: k)))) : Go c n l W ((Code.block id x).wp P (Af P B k)) :=
  fun a w ha hw => wp_block (wp_mono (h a w ha hw) fun e a w hq => by
    cases e with
    | exit id' =>
      simp only [Exit.inBlock]
      split
      · rename_i h; exact hq.1 h
      · rename_i h; exact hq.2 h
    | _ => exact hq)
theorem st_skip (h : Go c n l W (Q .normal)) : Go c n l W (Code.skip.wp P Q) := fun a w ha hw => wp_skip (h a w ha hw)
theorem st_label {i : Nat} (h : Go c n l W (Q .normal)) : Go c n l W ((Code.label i).wp P Q) := fun a w ha hw => wp_label (h a w ha hw)
theorem st_exit {id : Nat} {k' : List Fr} (h : Go c n l W (Af P B k' .normal)) (he : exitK id k = some k') : Go c n l W ((Code.exit id).wp P (Af P B k)) :=
  fun a w ha hw => wp_exit (Af_exit P B id a w he (h a w ha hw))
theorem st_ret (h : Go c n l W (B .ret)) : Go c n l W (Code.ret.wp P (Af P B k)) := fun a w ha hw => wp_ret (by rw [Af_ret]; exact h a w ha hw)
theorem st_region {id : Nat} {os : List Oper} (h : Go c n l W (wpList P os.toArray Q os)) : Go c n l W ((Code.region id os.toArray false).wp P Q) :=
  fun a w ha hw => wp_region_lit (h a w ha hw)
theorem st_nil {ops : Array Oper} (h : Go c n l W (Q .normal)) : Go c n l W (wpList P ops Q []) := fun a w ha hw => wpList_nil (h a w ha hw)
theorem st_then {y : Code} (h : Go c n l W (y.wp P (Af P B k))) : Go c n l W (Af P B (.seq y :: k) .normal) := h
theorem st_out {id : Nat} (h : Go c n l W (Af P B k .normal)) : Go c n l W (Af P B (.blk id :: k) .normal) := h
theorem st_fin (h : Go c n l W (B .normal)) : Go c n l W (Af P B [] .normal) := h

theorem st_cond_true {x : Operand} {s t : Code} (hc : ev l x = some (.bool true)) (h : Go c n l W (s.wp P Q)) : Go c n l W ((Code.cond x s t).wp P Q) :=
  fun a w ha hw => wp_cond_true (ha.ev hc) (h a w ha hw)
theorem st_cond_false {x : Operand} {s t : Code} (hc : ev l x = some (.bool false)) (h : Go c n l W (t.wp P Q)) : Go c n l W ((Code.cond x s t).wp P Q) :=
  fun a w ha hw => wp_cond_false (ha.ev hc) (h a w ha hw)
theorem st_cond {x : Operand} {s t : Code} {p : Prop} {inst : Decidable p} (hc : ev l x = some (.bool (@decide p inst))) (h1 : p → Go c n l W (s.wp P Q))
    (h2 : ¬ p → Go c n l W (t.wp P Q)) : Go c n l W ((Code.cond x s t).wp P Q) :=
  fun a w ha hw => by
    by_cases hp : p
    · exact wp_cond_true (by rw [ha.ev hc]; simp [hp]) (h1 hp a w ha hw)
    · exact wp_cond_false (by rw [ha.ev hc]; simp [hp]) (h2 hp a w ha hw)
theorem st_cond_b {x : Operand} {s t : Code} {b : Bool} (hc : ev l x = some (.bool b)) (h1 : b = true → Go c n l W (s.wp P Q))
    (h2 : b = false → Go c n l W (t.wp P Q)) : Go c n l W ((Code.cond x s t).wp P Q) :=
  fun a w ha hw => by
    cases b
    · exact wp_cond_false (ha.ev hc) (h2 rfl a w ha hw)
    · exact wp_cond_true (ha.ev hc) (h1 rfl a w ha hw)

/-- Less is known. -/
theorem st_weak {φ : Act → World → Prop} {l' : Sl} {W' : List Res} (hl : subL l' l) (hW : SubW W' W) (h : Go c n l' W' φ) : Go c n l W φ :=
  fun a w ha hw => h a w (ha.sub hl) (hw.sub hW)

theorem st_weak_l {φ : Act → World → Prop} {l' : Sl} (hl : subL l' l) (h : Go c n l' W φ) : Go c n l W φ :=
  fun a w ha hw => h a w (ha.sub hl) hw

/-- The state at a loop's head is one of a family. -/
def Inv {ι : Type} (c : Cx) (n : Nat) (I : ι → Prop) (lm : ι → Sl) (Wm : ι → List Res) (μ : ι → Nat) (m : Nat) (a : Act) (w : World) : Prop :=
  ∃ j, I j ∧ μ j < m ∧ SatA n (lm j) a ∧ SatW c (Wm j) w

/-- A loop: a round takes the state at its head to another one with a smaller measure, or leaves. -/
theorem st_loop {ι : Type} {x : Code} (I : ι → Prop) (lm : ι → Sl) (Wm : ι → List Res) (μ : ι → Nat) (i0 : ι) (h0 : I i0)
    (hl : subL (lm i0) l) (hW : SubW (Wm i0) W)
    (round : ∀ i, I i → Go c n (lm i) (Wm i) (x.wp P (Af P B (.inv (Inv c n I lm Wm μ (μ i)) :: k)))) :
    Go c n l W ((Code.loop x).wp P (Af P B k)) := by
  intro a w ha hw
  have key : ∀ m a w, (∃ i, (I i ∧ SatA n (lm i) a ∧ SatW c (Wm i) w) ∧ μ i = m) → ∀ (b : Frame) (kk : List Item) (cs : List Frame),
      ∃ e a' w', Af P B k e a' w' ∧ Arrives P (lone (b.at a (.code x :: .inLoop x :: kk)) cs w) b kk cs e a' w' := by
    intro m
    induction m using Nat.strongRecOn with
    | _ m ih =>
      intro a w ⟨i, ⟨hI, hA, hWW⟩, hm⟩ b kk cs
      obtain ⟨e, a₁, w₁, hq, harr⟩ := round i hI a w hA hWW b (.inLoop x :: kk) cs
      cases e with
      | normal =>
        obtain ⟨j, hj, hlt, hA', hW'⟩ := hq
        obtain ⟨e₂, a₂, w₂, hq₂, harr₂⟩ := ih (μ j) (hm ▸ hlt) a₁ w₁ ⟨j, ⟨hj, hA', hW'⟩, rfl⟩ b kk cs
        exact ⟨e₂, a₂, w₂, hq₂, .of_steps (Steps.trans harr (.one step_inLoop)) harr₂⟩
      | exit id => exact ⟨_, a₁, w₁, hq, .pass (x := .inLoop x) rfl (fun _ _ => .inl (by simp)) harr⟩
      | goto i => exact ⟨_, a₁, w₁, hq, .pass (x := .inLoop x) rfl (fun _ _ => .inl (by simp)) harr⟩
      | ret => exact ⟨_, a₁, w₁, hq, .pass (x := .inLoop x) rfl (fun _ _ => .inl (by simp)) harr⟩
      | panic ch => exact ⟨_, a₁, w₁, hq, .pass (x := .inLoop x) rfl (fun _ _ => .inl (by simp)) harr⟩
      | outgrown => exact ⟨_, a₁, w₁, hq, .pass (x := .inLoop x) rfl (fun _ _ => .inl (by simp)) harr⟩
  intro b kk cs
  obtain ⟨e, a', w', hq, harr⟩ := key (μ i0) a w ⟨i0, ⟨h0, ha.sub hl, hw.sub hW⟩, rfl⟩ b kk cs
  exact ⟨e, a', w', hq, .of_steps (.one step_loop) harr⟩

/-- The end of a round. -/
theorem st_round {ι : Type} {I : ι → Prop} {lm : ι → Sl} {Wm : ι → List Res} {μ : ι → Nat} {m : Nat} (j : ι) (hI : I j) (hm : μ j < m)
    (hl : subL (lm j) l) (hW : SubW (Wm j) W) : Go c n l W (Af P B (.inv (Inv c n I lm Wm μ m) :: k) .normal) :=
  fun _ _ ha hw => ⟨j, hI, hm, ha.sub hl, hw.sub hW⟩

/-- The ways through the first part meet again in one family of states. -/
def Met {ι : Type} (c : Cx) (n : Nat) (I : ι → Prop) (lm : ι → Sl) (Wm : ι → List Res) (a : Act) (w : World) : Prop :=
  ∃ j, I j ∧ SatA n (lm j) a ∧ SatW c (Wm j) w
theorem st_cut {ι : Type} {x y : Code} (I : ι → Prop) (lm : ι → Sl) (Wm : ι → List Res)
    (h1 : Go c n l W (x.wp P (Af P B (.inv (Met c n I lm Wm) :: k))))
    (h2 : ∀ j, I j → Go c n (lm j) (Wm j) (y.wp P (Af P B k))) : Go c n l W ((Code.seq x y).wp P (Af P B k)) :=
  fun a w ha hw => wp_seq (wp_mono (h1 a w ha hw) fun e a' w' hq => by
    cases e <;> first | exact hq | (obtain ⟨j, hj, hA, hW'⟩ := hq; exact h2 j hj a' w' hA hW'))
theorem st_met {ι : Type} {I : ι → Prop} {lm : ι → Sl} {Wm : ι → List Res} (j : ι) (hI : I j)
    (hl : subL (lm j) l) (hW : SubW (Wm j) W) : Go c n l W (Af P B (.inv (Met c n I lm Wm) :: k) .normal) :=
  fun _ _ ha hw => ⟨j, hI, ha.sub hl, hw.sub hW⟩
end rules

/-! ## Entering and leaving -/
def argSl : Nat → List Value → Sl
  | _, [] => []
  | i, v :: r => (i, v) :: argSl (i + 1) r

theorem argSl_lk : ∀ (vs : List Value) (i t : Nat) (v : Value), lk (argSl i vs) t = some v → i ≤ t ∧ vs[t - i]? = some v
  | [], i, t, v, h => by simp [argSl, lk] at h
  | x :: r, i, t, v, h => by
    simp only [argSl, lk] at h
    by_cases hc : i = t
    · subst hc; simp at h; subst h; simp
    · have : Nat.beq i t = false := beq_ne hc
      rw [this] at h
      obtain ⟨h1, h2⟩ := argSl_lk r (i + 1) t v h
      refine ⟨by omega, ?_⟩
      rw [show t - i = (t - (i + 1)) + 1 by omega]
      simpa using h2

def OwnsIn (W : List Res) (w : World) : Prop := (∀ r ∈ W, r.holds w) ∧ (fps W).Nodup

theorem OwnsIn.nil (w : World) : OwnsIn [] w := ⟨by simp, by simp [fps]⟩

theorem satW_start {W : List Res} {w : World} (h : OwnsIn W w) : SatW ⟨w, fps W⟩ W w := ⟨Ext.refl _ _, h.1, fun _ hb => .inr hb, h.2⟩

theorem calls_of_go {P : Program} {f : FuncId} {fn : Func} {x : Code} {vs : List Value} {w : World} {R : Ending → World → Prop} (W : List Res)
    (hf : P.funcs[f]? = some fn) (hb : fn.body = some x) (hn : Nat.ble vs.length fn.ntmps = true) (hW : OwnsIn W w)
    (h : Go ⟨w, fps W⟩ fn.ntmps (argSl 0 vs) W (x.wp P (Af P (bodyPost P fn R) []))) : Calls P f vs.toArray w R := by
  refine calls_of_wp hf hb (h _ _ ⟨rfl, ?_, ?_⟩ (satW_start hW))
  · have : vs.length ≤ fn.ntmps := by simpa using Nat.le_of_ble_eq_true hn
    simp; omega
  · intro t v ht
    obtain ⟨_, h2⟩ := argSl_lk vs 0 t v ht
    simp only [Nat.sub_zero] at h2
    have hlt : t < vs.length := by
      rcases Nat.lt_or_ge t vs.length with h | h
      · exact h
      · rw [List.getElem?_eq_none h] at h2; simp at h2
    show (vs.toArray ++ _)[t]? = some v
    rw [Array.getElem?_append_left (by simpa using hlt)]
    simpa using h2

/-- The value of the results. -/
theorem st_end1 {P : Program} {c : Cx} {n : Nat} {l : Sl} {W : List Res} {fn : Func} {R : Ending → World → Prop} {t : Tmp} {v : Value}
    (hres : fn.results = #[.tmp t]) (hv : lk l t = some v) (hR : ∀ w, SatW c W w → R (.returned v) w) : Go c n l W (bodyPost P fn R .ret) :=
  fun a w ha hw => bodyPost_ret (results_tmp hres _ _ _) ha.dfr (by
    have := ha.at_ t v hv
    rw [Array.getD_eq_getD_getElem?, this]; exact hR w hw)

theorem st_end1n {P : Program} {c : Cx} {n : Nat} {l : Sl} {W : List Res} {fn : Func} {R : Ending → World → Prop} {t : Tmp} {v : Value}
    (hres : fn.results = #[.tmp t]) (hv : lk l t = some v) (hR : ∀ w, SatW c W w → R (.returned v) w) : Go c n l W (bodyPost P fn R .normal) :=
  st_end1 hres hv hR

theorem st_end2 {P : Program} {c : Cx} {n : Nat} {l : Sl} {W : List Res} {fn : Func} {R : Ending → World → Prop} {t u : Tmp} {v v' : Value}
    (hres : fn.results = #[.tmp t, .tmp u]) (hv : lk l t = some v) (hv' : lk l u = some v') (hR : ∀ w, SatW c W w → R (.returned (.tuple #[v, v'])) w) :
    Go c n l W (bodyPost P fn R .ret) :=
  fun a w ha hw => bodyPost_ret (results_tmp2 hres _ _ _) ha.dfr (by
    have h1 := ha.at_ t v hv
    have h2 := ha.at_ u v' hv'
    rw [Array.getD_eq_getD_getElem?, Array.getD_eq_getD_getElem?, h1, h2]; exact hR w hw)

theorem st_end0 {P : Program} {c : Cx} {n : Nat} {l : Sl} {W : List Res} {fn : Func} {R : Ending → World → Prop}
    (hres : fn.results = #[]) (hR : ∀ w, SatW c W w → R (.returned (.tuple #[])) w) : Go c n l W (bodyPost P fn R .normal) :=
  fun _ w ha hw => bodyPost_end (results_none hres _ _ _) ha.dfr (hR w hw)

theorem st_end0r {P : Program} {c : Cx} {n : Nat} {l : Sl} {W : List Res} {fn : Func} {R : Ending → World → Prop}
    (hres : fn.results = #[]) (hR : ∀ w, SatW c W w → R (.returned (.tuple #[])) w) : Go c n l W (bodyPost P fn R .ret) :=
  fun _ w ha hw => bodyPost_ret (results_none hres _ _ _) ha.dfr (hR w hw)

end Go.Proofs.Ytfhempgkdnecnaa.L
