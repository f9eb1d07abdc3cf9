/- Calls by contract, and what makes or copies memory, in the small program logic. No condition. -/
import Derived.Test.YtfhempgkdnecnaaMem
namespace Go.Proofs.Ytfhempgkdnecnaa.L
open Go

/-! ## Contracts -/
def Callable (P : Program) (f : FuncId) : Prop := ∃ fn, P.funcs[f]? = some fn ∧ (fn.name == "runtime.NumGoroutine") = false ∧ fn.body.isNone = false

def PostR (Φ : Value → List Res → Prop) (Win : List Res) (w : World) : Ending → World → Prop := fun e w' =>
  ∃ v Wout, Φ v Wout ∧ e = .returned v ∧ Ext (fps Win) w w' ∧ (∀ r ∈ Wout, r.holds w') ∧ (fps Wout).Nodup ∧ ∀ b ∈ fps Wout, w.heap.size ≤ b ∨ b ∈ fps Win

structure Spec (P : Program) (f : FuncId) (vs : List Value) (pre : World → Prop) (Win : List Res) (Φ : Value → List Res → Prop) : Prop where
  call : Callable P f
  run : ∀ w, pre w → OwnsIn Win w → Calls P f vs.toArray w (PostR Φ Win w)

def NoPre : World → Prop := fun _ => True
def IsV (v : Value) : Value → List Res → Prop := fun u V => u = v ∧ V = []

inductive Split : List Res → List Res → List Res → Prop
  | nil {W : List Res} : Split W [] W
  | cons {r : Res} {W W' A R : List Res} (h : Find W r W') (hs : Split W' A R) : Split W (r :: A) R

theorem Split.perm {W A R : List Res} (h : Split W A R) : W.Perm (A ++ R) := by
  induction h with
  | nil => exact .refl _
  | cons hf _ ih => exact hf.perm.trans (ih.cons _)

theorem callable_run {P : Program} {f : FuncId} (h : Callable P f) (vs : Array Value) (w : World) : (callFunc f vs).run P w = .ok (.enter f vs) w := by
  obtain ⟨fn, h1, h2, h3⟩ := h
  simp only [callFunc, Sem.run_bind, run_program, Result.andThen_ok, h1, h2, h3]; rfl

theorem mk_spec {P : Program} {f : FuncId} {vs : List Value} {pre : World → Prop} {Win : List Res} {Φ : Value → List Res → Prop} {fn : Func} {x : Code}
    (hf : P.funcs[f]? = some fn) (hb : fn.body = some x) (hnm : (fn.name == "runtime.NumGoroutine") = false) (hn : Nat.ble vs.length fn.ntmps = true)
    (h : ∀ w, pre w → Go ⟨w, fps Win⟩ fn.ntmps (argSl 0 vs) Win (x.wp P (Af P (bodyPost P fn (PostR Φ Win w)) []))) : Spec P f vs pre Win Φ :=
  ⟨⟨fn, hf, hnm, by rw [hb]; rfl⟩, fun w hp hW => calls_of_go Win hf hb hn hW (h w hp)⟩

/-- What is left to show where a function returns. -/
theorem post_of {Φ : Value → List Res → Prop} {Win W Wout : List Res} {w0 w : World} {v : Value} (hw : SatW ⟨w0, fps Win⟩ W w) (hs : SubW Wout W) (hΦ : Φ v Wout) :
    PostR Φ Win w0 (.returned v) w := by
  have h := hw.sub hs
  exact ⟨v, Wout, hΦ, rfl, h.ext, h.holds, h.nd, h.own⟩
theorem post_v {Win W : List Res} {w0 w : World} {v : Value} (hw : SatW ⟨w0, fps Win⟩ W w) : PostR (IsV v) Win w0 (.returned v) w :=
  post_of hw SubW.nil ⟨rfl, rfl⟩

section
variable {P : Program} {c : Cx} {n : Nat} {l : Sl} {W : List Res} {ops : Array Oper} {Q : Exit → Act → World → Prop} {rest : List Oper}
variable {d : Nat} {T : TypeId} {pos : String} {after : Array Edge}

theorem satW_call {Win R : List Res} {Φ : Value → List Res → Prop} {w w' : World} {e : Ending} (hw : SatW c W w) (hS : Split W Win R) (hp : PostR Φ Win w e w') :
    ∃ v Wout, Φ v Wout ∧ e = .returned v ∧ SatW c (Wout ++ R) w' := by
  obtain ⟨v, Wout, hΦ, he, hext, hh, hnd, hfr⟩ := hp
  refine ⟨v, Wout, hΦ, he, ?_⟩
  have hw := hw.perm hS.perm
  have hlt := hw.lt
  have hnd0 := hw.nd
  simp only [fps, List.flatMap_append] at hnd0 hlt
  obtain ⟨n1, n2, n3⟩ := List.nodup_append.1 hnd0
  have hown := hw.own
  simp only [fps, List.flatMap_append, List.mem_append] at hown
  refine ⟨hw.ext.trans hext (fun x hx => hown x (.inl hx)), ?_, ?_, ?_⟩
  · intro r hr
    rcases List.mem_append.1 hr with hr | hr
    · exact hh r hr
    · refine Res.holds_congr (hw.holds r (List.mem_append.2 (.inr hr))) fun b hb => ?_
      refine hext.block b (Res.fp_lt (hw.holds r (List.mem_append.2 (.inr hr))) b hb) fun hin => ?_
      exact n3 b hin b (List.mem_flatMap.2 ⟨r, hr, hb⟩) rfl
  · intro b hb
    simp only [fps, List.flatMap_append, List.mem_append] at hb
    rcases hb with hb | hb
    · rcases hfr b hb with h1 | h1
      · exact .inl (Nat.le_trans hw.ext.size h1)
      · exact hown b (.inl h1)
    · exact hown b (.inr hb)
  · simp only [fps, List.flatMap_append]
    refine List.nodup_append.2 ⟨hnd, n2, fun x hx y hy => ?_⟩
    rcases hfr x hx with h1 | h1
    · have := hlt y (List.mem_append.2 (.inr hy)); omega
    · exact n3 x h1 y hy

theorem st_call {f : FuncId} {x : Operand} {as : List Operand} {ats : Array TypeId} {first vs captured all : List Value} {pre : World → Prop} {Win R : List Res} {Φ : Value → List Res → Prop}
    (hx : ev l x = some (.func (.func f) first.toArray captured.toArray)) (ha : evs l as = some vs) (hall : first ++ vs ++ captured = all)
    (hspec : Spec P f all pre Win Φ) (hS : Split W Win R) (hpre : ∀ w, SatW c W w → pre w) (hn : Nat.blt d n = true)
    (hk : ∀ v Wout, Φ v Wout → Go c n ((d, v) :: l) (Wout ++ R) (wpList P ops Q rest)) :
    Go c n l W (wpList P ops Q (⟨some d, .call { callee := .value x, args := as.toArray, argTypes := ats }, T, pos, after, none⟩ :: rest)) := by
  intro a w hA hw
  refine wpList_plain rfl fun K hK => ?_
  have hrun : (execOp a.eval ⟨some d, .call { callee := .value x, args := as.toArray, argTypes := ats }, T, pos, after, none⟩).run P w = .ok (.enter f all.toArray) w := by
    subst hall
    simp only [execOp, resolve, hA.ev hx, Deferred.ofValue, List.map_toArray, hA.evs ha, Sem.run_bind, Sem.run_pure, Result.andThen_ok, invoke, List.append_toArray, callable_run hspec.call]
  show Oper.upon P _ a K Q ((execOp a.eval _).run P w)
  rw [hrun]
  have hown : OwnsIn Win w := by
    have h := hw.perm hS.perm
    refine ⟨fun r hr => h.holds r (List.mem_append.2 (.inl hr)), ?_⟩
    have := h.nd
    simp only [fps, List.flatMap_append] at this
    exact (List.nodup_append.1 this).1
  refine Calls.mono (hspec.run w (hpre w hw) hown) fun e w' hp => ?_
  obtain ⟨v, Wout, hΦ, rfl, hw'⟩ := satW_call hw hS hp
  exact hK _ _ (hk v Wout hΦ _ _ (hA.put hn) hw')

/-- A function of values. -/
theorem st_callV {f : FuncId} {x : Operand} {as : List Operand} {ats : Array TypeId} {first vs captured all : List Value} {pre : World → Prop} {v : Value}
    (hx : ev l x = some (.func (.func f) first.toArray captured.toArray)) (ha : evs l as = some vs) (hall : first ++ vs ++ captured = all)
    (hspec : Spec P f all pre [] (IsV v)) (hpre : ∀ w, SatW c W w → pre w) (hn : Nat.blt d n = true)
    (hk : Go c n ((d, v) :: l) W (wpList P ops Q rest)) :
    Go c n l W (wpList P ops Q (⟨some d, .call { callee := .value x, args := as.toArray, argTypes := ats }, T, pos, after, none⟩ :: rest)) :=
  st_call hx ha hall hspec .nil hpre hn (fun u V ⟨hu, hV⟩ => by subst hu; subst hV; exact hk)

/-! ## Making -/
theorem size1 {U : TypeId} {z : Value} {s : Nat} (_ : zrOf P U = some z) (_ : szOf P U = some s) : True := trivial

theorem info_of {U : TypeId} {s by' : Nat} {z : Value} (hz : zrOf P U = some z) (hs : szOf P U = some s) (hb : byOf P U = some by') : ∃ i, P.info? U = some i ∧ i.zero = some z ∧ i.size = s ∧ i.bytes = by' := by
  unfold zrOf at hz; unfold szOf at hs; unfold byOf at hb
  cases hi : P.info? U with
  | none => simp [hi] at hz
  | some i => simp [hi] at hz hs hb; exact ⟨i, rfl, hz, hs, hb⟩

theorem cells1 {z : Value} (h : z.oneCell' = true) : z.cells = #[z] := by cases z <;> simp_all [Value.cells, Value.oneCell']

theorem st_make {x y : Operand} {k : Nat} {t E : TypeId} {by' : Nat} {z : Value} (hx : ev l x = some (N .i64 k)) (hy : ev l y = some (N .i64 k)) (ht : P.underlying t = some (.slice E)) (hz : zrOf P E = some z) (hs : szOf P E = some 1) (hb : byOf P E = some by') (h1 : z.oneCell' = true)
    (hk0 : k * by' ≤ 140737488355328) (hk63 : k < 9223372036854775808) (hn : Nat.blt d n = true)
    (hk : ∀ s, Go c n ((d, s) :: l) (.sl s (List.replicate k z) E :: W) (wpList P ops Q rest)) :
    Go c n l W (wpList P ops Q (⟨some d, .makeSlice t x y, T, pos, after, none⟩ :: rest)) :=
  st_op rfl rfl hn (Φ := fun u V => V = .sl u (List.replicate k z) E :: W)
    (fun a w ha hw => by
      obtain ⟨i, hi, hz', hs', hb'⟩ := info_of hz hs hb
      have hbytes : (i.bytes : Int) * (k : Int) ≤ 281474976710656 := by
        rw [hb']
        have : ((by' * k : Nat) : Int) ≤ 281474976710656 := by rw [Nat.mul_comm]; omega
        simpa using this
      have hr := run_make (P := P) w t E i z ht hi hz' .i64 .i64 (k : Int) (k : Int) (by omega) (by omega) hbytes (by omega)
      rw [hs', Int.toNat_natCast, Nat.mul_one] at hr
      have hmc : madeCells z.cells k = (List.replicate k z).toArray := by
        apply Array.ext
        · simp [madeCells]
        · intro j h1' h2'
          simp [madeCells, cells1 h1, Nat.mod_one]
      rw [hmc] at hr
      refine ⟨_, _, _, ?_, hw.alloc (o := .cells (List.replicate k z).toArray E) (r := .sl (.slice (some ⟨w.heap.size, 0, none⟩) k k) (List.replicate k z) E) rfl ?_, rfl⟩
      · have hr' : (Instr.makeSlice t (N .i64 k) (N .i64 k)).run P w = _ := hr
        simp only [execOp, ha.ev hx, ha.ev hy, Sem.run_bind]
        rw [hr']; rfl
      · exact .inr ⟨w.heap.size, 0, k, [], [], (0, 0), by simp, by simp, by simp, rfl, by simp, by simp⟩)
    (fun u V hV => by subst hV; exact hk u)
theorem st_makeN {x y : Operand} {k : Nat} {kk : IntKind} {t E : TypeId} {by' : Nat} (hx : ev l x = some (N .i64 k)) (hy : ev l y = some (N .i64 k)) (ht : P.underlying t = some (.slice E)) (hz : zrOf P E = some (N kk 0)) (hs : szOf P E = some 1) (hb : byOf P E = some by')
    (hk0 : k * by' ≤ 140737488355328) (hk63 : k < 9223372036854775808) (hn : Nat.blt d n = true)
    (hk : ∀ s, Go c n ((d, s) :: l) (.sl s ((List.replicate k 0).map (N kk)) E :: W) (wpList P ops Q rest)) :
    Go c n l W (wpList P ops Q (⟨some d, .makeSlice t x y, T, pos, after, none⟩ :: rest)) :=
  st_make hx hy ht hz hs hb rfl hk0 hk63 hn (fun s => by simpa using hk s)

/-! ## Appending -/
theorem run_first {w : World} {s : Value} {xs : List Value} (h : Rd w s xs) {k : Nat} (hk : k ≤ xs.length) : (Builtin.firstCells 1 k s).run P w = .ok (xs.take k).toArray w := by
  obtain ⟨a0, cap, he, h1, h2, h3⟩ := h.shape
  cases a0 with
  | none => obtain ⟨hx, _⟩ := h2 rfl; subst hx; subst he; simp [Builtin.firstCells]
  | some a1 =>
    have hl : (loadCells a1 (xs.take k).length).run P w = .ok (xs.take k).toArray w :=
      run_loadCells_list (P := P) w a1 (xs.take k) (fun j v hv => by
        have : xs[j]? = some v := by
          rw [List.getElem?_take] at hv
          split at hv
          · exact hv
          · simp at hv
        have := h.cells j v this
        rw [he] at this; exact this)
    rw [List.length_take, Nat.min_eq_left hk] at hl
    subst he
    simp [Builtin.firstCells, hl]

theorem Rd.drew {w : World} {s : Value} {xs : List Value} (h : Rd w s xs) (k : Nat) : Rd { w with drawn := k } s xs := ⟨h.shape, h.cells⟩

theorem run_append_any {w : World} {t E ty : TypeId} {by' : Nat} {z s y : Value} {xs ys : List Value} (ht : P.underlying t = some (.slice E)) (hz : zrOf P E = some z) (hs : szOf P E = some 1) (hb : byOf P E = some by') (h1 : z.oneCell' = true)
    (hS : (Res.sl s xs E).holds w) (hY : Rd w y ys) (hys : ∀ v ∈ ys, v.oneCell' = true) (hbd : (xs.length + ys.length) * by' ≤ 140737488355328) (h63 : xs.length + ys.length < 9223372036854775808) :
    ∃ s' w', (Builtin.append_ #[t, t] ty #[s, y]).run P w = .ok s' w' ∧ (Res.sl s' (xs ++ ys) E).holds w' ∧ Ext (Res.sl s xs E).fp w w' ∧
      ((Res.sl s' (xs ++ ys) E).fp = (Res.sl s xs E).fp ∨ ((Res.sl s' (xs ++ ys) E).fp = [w.heap.size])) := by
  obtain ⟨i, hi, hz', hs', hb'⟩ := info_of hz hs hb
  obtain ⟨a1, cap1, hye, hc1, hn1, hsp1⟩ := hY.shape
  have hlenY : ∀ w, (Builtin.lenOf y).run P w = .ok ys.length w := fun w => by rw [hye]; rfl
  have hfY := fun k => run_first (P := P) (hY.drew k) (Nat.le_refl ys.length)
  have hfY0 := run_first (P := P) hY (Nat.le_refl ys.length)
  have hcE : P.underlying t = some (.slice E) := ht
  have hdst : ∃ base cap, s = .slice base xs.length cap := by
    rcases hS with ⟨rfl, rfl⟩ | ⟨b, off, cap, pre, post, fz, hs⟩
    · exact ⟨none, 0, rfl⟩
    · exact ⟨_, cap, hs.val⟩
  obtain ⟨base, cap, hse⟩ := hdst
  have hz0 : ∀ w, (zeroValue E).run P w = .ok z w := run_zero hz
  have hty : ∀ w, (underlying t).run P w = .ok (.slice E) w := run_underlying ht
  have hti : ∀ w, (typeInfo E).run P w = .ok i w := fun w => by simp [typeInfo, hi]
  have h63i : ¬ (9223372036854775807 < ((xs.length : Int) + (ys.length : Int))) := by omega
  by_cases hroom : xs.length + ys.length ≤ cap
  · -- there is room
    rcases hS with ⟨hs1, hx1⟩ | ⟨b, off, cap', pre, post, fz, hs⟩
    · subst hx1
      rw [hs1] at hse; cases hse
      have hy0 : ys = [] := List.eq_nil_of_length_eq_zero (by simpa using hroom)
      subst hy0
      refine ⟨.slice none 0 0, w, ?_, .inl ⟨rfl, rfl⟩, Ext.refl _ _, .inl (by rw [hs1]; rfl)⟩
      subst hs1
      simp at hfY0
      simp [Builtin.append_, hty, run_sizeOf hs, hlenY, hfY0]
    · obtain ⟨hv, g1, g2, g3, g4, g5⟩ := hs
      rw [hv] at hse; cases hse
      subst hv
      have hfit : off + xs.length + ys.length ≤ (pre ++ xs ++ post).toArray.size := by simp; omega
      by_cases hy0 : ys = []
      · subst hy0
        refine ⟨.slice (some ⟨b, off, none⟩) xs.length cap, w, ?_, ?_, Ext.refl _ _, .inl rfl⟩
        · simp at hfY0
          simp [Builtin.append_, hty, run_sizeOf hs, hlenY, hfY0, storeCells, g1]
        · simp only [List.append_nil]; exact .inr ⟨b, off, cap, pre, post, fz, rfl, g1, g2, g3, g4, g5⟩
      · have hfz : ¬ fz.1 < fz.2 ∨ (pre ++ xs ++ post).length ≤ fz.1 := by
          by_cases hf : fz.1 < fz.2
          · exact .inr (g5 (by omega))
          · exact .inl hf
        -- the store, cell by cell
        have hst : ∀ (vs : List Value) (i0 : Nat) (cur : List Value) (w : World), w.heap[b]? = some (.cells cur.toArray E fz) → cur.length = (pre ++ xs ++ post).length → off + xs.length + i0 + vs.length ≤ cur.length → (∀ v ∈ vs, v.oneCell' = true) →
            ∃ cur' : List Value, (storeCells ⟨b, off + xs.length, none⟩ vs i0).run P w = .ok () (w.setRow b cur'.toArray) ∧ cur' = cur.take (off + xs.length + i0) ++ vs ++ cur.drop (off + xs.length + i0 + vs.length) := by
          intro vs
          induction vs with
          | nil =>
            intro i0 cur w hh hl hle h1v
            refine ⟨cur, ?_, by simp⟩
            rw [setRow_self w b _ E fz hh]; rfl
          | cons v r ih =>
            intro i0 cur w hh hl hle h1v
            simp only [List.length_cons] at hle
            have hlt : off + xs.length + i0 < cur.length := by omega
            have hcell : w.cell? ⟨b, off + xs.length + i0, none⟩ = some cur[off + xs.length + i0] := by simp [World.cell?, hh, hlt]
            have hfro : w.frozen? ⟨b, off + xs.length + i0, none⟩ = false := by
              simp only [World.frozen?, hh]
              rcases hfz with h | h
              · simp; omega
              · simp; omega
            have hs1 : (store ((⟨b, off + xs.length, none⟩ : Addr).add i0) v).run P w = .ok () (w.setRow b (cur.set (off + xs.length + i0) v).toArray) := by
              rw [add_pt, run_store P w _ v _ (h1v v (by simp)), hcell]
              simp [hfro, setCell_eq_setRow w b _ cur.toArray E fz v hh]
            obtain ⟨cur', hr, he⟩ := ih (i0 + 1) (cur.set (off + xs.length + i0) v) (w.setRow b (cur.set (off + xs.length + i0) v).toArray) (setRow_heap w b _ _ E fz hh) (by simpa using hl) (by simp; omega) (fun u hu => h1v u (by simp [hu]))
            refine ⟨cur', ?_, ?_⟩
            · simp only [storeCells, Sem.run_bind, hs1, Result.andThen_ok, hr, setRow_setRow]
            · rw [he]
              have e := list_seg_step cur (off + xs.length + i0) v r (by omega)
              simpa [Nat.add_assoc] using e
        obtain ⟨cur', hr, he⟩ := hst ys 0 (pre ++ xs ++ post) w g4 rfl (by simp; omega) hys
        have hcur : cur' = pre ++ (xs ++ ys) ++ post.drop ys.length := by
          rw [he]
          subst g3
          simp only [Nat.add_zero]
          rw [List.take_left' (by simp), show pre.length + xs.length + ys.length = (pre ++ xs).length + ys.length by simp, List.drop_append]
          simp
        rw [hcur] at hr
        refine ⟨.slice (some ⟨b, off, none⟩) (xs.length + ys.length) cap, w.setRow b (pre ++ (xs ++ ys) ++ post.drop ys.length).toArray, ?_, ?_, ?_, .inl rfl⟩
        · simp at hfY0 hr
          simp [Builtin.append_, hty, run_sizeOf hs, hlenY, hfY0, hroom, add_pt, hr]
        · refine .inr ⟨b, off, cap, pre, post.drop ys.length, fz, by simp, by simpa using hroom, ?_, g3, setRow_heap w b _ _ E fz g4, ?_⟩
          · simp; omega
          · intro hf; have := g5 (by omega); simp at this ⊢; omega
        · exact ⟨rfl, rfl, rfl, by simp, fun k _ hk => setRow_other w b k _ (by simpa [Res.fp] using hk)⟩
  · -- a new block
    have hfit := growslice_fits (need := xs.length + ys.length) (old := cap) (bytes := by') (by omega) hbd
    have h48 : ¬ (281474976710656 < Builtin.nextslicecap (xs.length + ys.length) cap * i.bytes) := by rw [hb']; omega
    have hX : Rd w s xs := by
      have := RdW.own (c := ⟨w, (Res.sl s xs E).fp⟩) (W := [.sl s xs E]) (Find.here)
      refine this w ⟨Ext.refl _ _, by simpa using hS, fun b hb => .inr (by simpa [fps] using hb), ?_⟩
      simp only [fps, List.flatMap_cons, List.flatMap_nil, List.append_nil]
      cases s with
      | slice a _ _ => cases a <;> simp [Res.fp]
      | _ => simp [Res.fp]
    have hfX := fun k => run_first (P := P) (hX.drew k) (Nat.le_refl xs.length)
    have hcut : xs.length + ys.length ≤ grownCap w (xs.length + ys.length) cap E := by
      simp only [grownCap, Question.cut]; omega
    have hzc : Builtin.zeroCells z.cells (grownCap w (xs.length + ys.length) cap E - (xs.length + ys.length)) = (List.replicate (grownCap w (xs.length + ys.length) cap E - (xs.length + ys.length)) z).toArray := by
      apply Array.ext
      · simp [Builtin.zeroCells, cells1 h1]
      · intro j h1' h2'
        simp [Builtin.zeroCells, cells1 h1, Nat.mod_one]
    refine ⟨.slice (some ⟨w.heap.size, 0, none⟩) (xs.length + ys.length) (grownCap w (xs.length + ys.length) cap E),
      { w with drawn := w.drawn + 1, heap := w.heap.push (.cells (xs ++ ys ++ List.replicate (grownCap w (xs.length + ys.length) cap E - (xs.length + ys.length)) z).toArray E) }, ?_, ?_, ?_, .inr rfl⟩
    · subst hse
      have hfX' : (Builtin.firstCells 1 xs.length (Value.slice base xs.length cap)).run P w.drew = .ok xs.toArray w.drew := by
        have := hfX (w.drawn + 1); simpa using this
      have hfY' : (Builtin.firstCells 1 ys.length y).run P w.drew = .ok ys.toArray w.drew := by
        have := hfY (w.drawn + 1); simpa using this
      have hcells : xs.toArray ++ ys.toArray ++ Builtin.zeroCells z.cells (grownCap w (xs.length + ys.length) cap E - (xs.length + ys.length)) =
          (xs ++ ys ++ List.replicate (grownCap w (xs.length + ys.length) cap E - (xs.length + ys.length)) z).toArray := by rw [hzc]; simp
      have hres : (Builtin.append_ #[t, t] ty #[Value.slice base xs.length cap, y]).run P w =
          .ok (.slice (some ⟨w.heap.size, 0, none⟩) (xs.length + ys.length) (grownCap w (xs.length + ys.length) cap E))
            (w.drew.alloc (.cells (xs.toArray ++ ys.toArray ++ Builtin.zeroCells z.cells (grownCap w (xs.length + ys.length) cap E - (xs.length + ys.length))) E)) := by
        simp [Builtin.append_, hty, run_sizeOf hs, hlenY, hroom, h63i, h48, hti, Question.forced, hfX', hfY', hz0, newRow, grownCap, -List.append_toArray]
      rw [hcells] at hres
      exact hres
    · refine .inr ⟨w.heap.size, 0, grownCap w (xs.length + ys.length) cap E, [], List.replicate (grownCap w (xs.length + ys.length) cap E - (xs.length + ys.length)) z, (0, 0), by simp, by simpa using hcut, ?_, rfl, ?_, by simp⟩
      · simp; omega
      · simp
    · exact ⟨rfl, rfl, rfl, by simp, fun k hk _ => by
        show (w.heap.push _)[k]? = _
        rw [Array.getElem?_push, if_neg (by omega)]⟩

theorem st_append {x y : Operand} {s y0 : Value} {xs ys : List Value} {t E : TypeId} {by' : Nat} {z : Value} {R : List Res} (hx : ev l x = some s) (hy : ev l y = some y0) (hf : Find W (.sl s xs E) R) (hr : RdW c W y0 ys)
    (ht : P.underlying t = some (.slice E)) (hz : zrOf P E = some z) (hs : szOf P E = some 1) (hb : byOf P E = some by') (h1 : z.oneCell' = true)
    (hys : ∀ v ∈ ys, v.oneCell' = true) (hbd : (xs.length + ys.length) * by' ≤ 140737488355328) (h63 : xs.length + ys.length < 9223372036854775808) (hn : Nat.blt d n = true)
    (hk : ∀ s', Go c n ((d, s') :: l) (.sl s' (xs ++ ys) E :: R) (wpList P ops Q rest)) :
    Go c n l W (wpList P ops Q (⟨some d, .call { callee := .builtin .append, args := #[x, y], argTypes := #[t, t] }, T, pos, after, none⟩ :: rest)) :=
  st_op rfl rfl hn (Φ := fun u V => V = .sl u (xs ++ ys) E :: R)
    (fun a w ha hw => by
      have hY := hr w hw
      have hw := hw.perm hf.perm
      obtain ⟨s', w', h2, h3, h4, h5⟩ := run_append_any (P := P) (ty := T) ht hz hs hb h1 (hw.holds _ (List.mem_cons_self ..)) hY hys hbd h63
      refine ⟨s', w', _, by simp [execOp, ha.ev hx, ha.ev hy, resolve, invoke, builtin, h2], ?_, rfl⟩
      rcases h5 with h5 | h5
      · exact hw.upd h5 h4 h3
      · have hlt := hw.lt
        have hn := hw.nd
        simp only [fps, List.flatMap_cons] at hn hlt
        obtain ⟨n1, n2, n3⟩ := List.nodup_append.1 hn
        refine ⟨hw.ext.trans h4 (fun q hq => hw.own q (by simp only [fps, List.flatMap_cons, List.mem_append]; exact .inl hq)), ?_, ?_, ?_⟩
        · intro r hr
          rcases List.mem_cons.1 hr with rfl | hr
          · exact h3
          · exact Res.holds_congr (hw.holds r (List.mem_cons_of_mem _ hr)) fun b hb => h4.block b (Res.fp_lt (hw.holds r (List.mem_cons_of_mem _ hr)) b hb) fun hb' => n3 b hb' b (List.mem_flatMap.2 ⟨r, hr, hb⟩) rfl
        · intro b hb
          simp only [fps, List.flatMap_cons, h5, List.mem_append, List.mem_singleton] at hb
          rcases hb with rfl | hb
          · exact .inl hw.ext.size
          · exact hw.own b (by simp only [fps, List.flatMap_cons, List.mem_append]; exact .inr hb)
        · simp only [fps, List.flatMap_cons, h5]
          refine List.nodup_append.2 ⟨by simp, n2, fun p hp q hq => ?_⟩
          simp only [List.mem_singleton] at hp; subst hp
          have := hlt q (List.mem_append.2 (.inr hq)); omega)
    (fun u V hV => by subst hV; exact hk u)
theorem st_appendN {x y : Operand} {s y0 : Value} {kk : IntKind} {xs ys : List Nat} {t E : TypeId} {by' : Nat} {R : List Res} (hx : ev l x = some s) (hy : ev l y = some y0) (hf : Find W (.sl s (xs.map (N kk)) E) R) (hr : RdW c W y0 (ys.map (N kk)))
    (ht : P.underlying t = some (.slice E)) (hz : zrOf P E = some (N kk 0)) (hs : szOf P E = some 1) (hb : byOf P E = some by')
    (hbd : (xs.length + ys.length) * by' ≤ 140737488355328) (h63 : xs.length + ys.length < 9223372036854775808) (hn : Nat.blt d n = true)
    (hk : ∀ s', Go c n ((d, s') :: l) (.sl s' ((xs ++ ys).map (N kk)) E :: R) (wpList P ops Q rest)) :
    Go c n l W (wpList P ops Q (⟨some d, .call { callee := .builtin .append, args := #[x, y], argTypes := #[t, t] }, T, pos, after, none⟩ :: rest)) :=
  st_append hx hy hf hr ht hz hs hb rfl (by simp [Value.oneCell']) (by simpa using hbd) (by simpa using h63) hn (fun s' => by rw [← List.map_append]; exact hk s')

/-! ## Copying -/
theorem run_storeCells_blk {w : World} {b off : Nat} {cur : List Value} {E : TypeId} {vs : List Value} (hh : w.heap[b]? = some (.cells cur.toArray E (0, 0))) (hle : off + vs.length ≤ cur.length) (h1 : ∀ v ∈ vs, v.oneCell' = true) :
    (storeCells ⟨b, off, none⟩ vs).run P w = .ok () (w.setRow b (cur.take off ++ vs ++ cur.drop (off + vs.length)).toArray) := by
  have := run_storeCells_at P b off E vs 0 cur.toArray w hh (by simpa using hle) h1
  simpa using this

/-- Into a slice of one's own that begins its block's row (fz as in boxes). -/
theorem st_copy_arr {x y : Operand} {b m lo hi : Nat} {cs ys : List Value} {y0 : Value} {dT sT E U : TypeId} {R : List Res} (hx : ev l x = some (subA b m lo hi)) (hy : ev l y = some y0) (hf : Find W (.blk b (.agg cs.toArray) U) R) (hr : RdW c W y0 ys)
    (ht : P.underlying dT = some (.slice E)) (hs : szOf P E = some 1) (hys : ∀ v ∈ ys, v.oneCell' = true) (hm : cs.length = m) (h1 : lo ≤ hi) (h2 : hi ≤ m) (hn : Nat.blt d n = true)
    (hk : Go c n ((d, N .i64 (min ys.length (hi - lo))) :: l) (.blk b (.agg (cs.take lo ++ ys.take (hi - lo) ++ cs.drop (lo + min ys.length (hi - lo))).toArray) U :: R) (wpList P ops Q rest)) :
    Go c n l W (wpList P ops Q (⟨some d, .call { callee := .builtin .copy, args := #[x, y], argTypes := #[dT, sT] }, T, pos, after, none⟩ :: rest)) :=
  st_op rfl rfl hn (Φ := fun u V => u = N .i64 (min ys.length (hi - lo)) ∧ V = .blk b (.agg (cs.take lo ++ ys.take (hi - lo) ++ cs.drop (lo + min ys.length (hi - lo))).toArray) U :: R)
    (fun a w ha hw => by
      have hY := hr w hw
      have hw := hw.perm hf.perm
      have hh : w.heap[b]? = some (.cells cs.toArray U (0, 0)) := hw.holds _ (List.mem_cons_self ..)
      obtain ⟨a1, cap1, hye, hc1, hn1, hsp1⟩ := hY.shape
      have hlenY : (Builtin.lenOf y0).run P w = .ok ys.length w := by rw [hye]; rfl
      have hfY := run_first (P := P) hY (k := min ys.length (hi - lo)) (Nat.min_le_left _ _)
      have etake : ys.take (min ys.length (hi - lo)) = ys.take (hi - lo) := by rw [Nat.min_comm, ← List.take_take]; simp
      rw [etake] at hfY
      have hlen : (ys.take (hi - lo)).length = min ys.length (hi - lo) := by rw [List.length_take]; omega
      by_cases hz : m = lo
      · have e0 : hi - lo = 0 := by omega
        refine ⟨_, w, _, ?_, ?_, rfl, rfl⟩
        · have hfY0 : (Builtin.firstCells 1 0 y0).run P w = .ok #[] w := by simpa [e0] using hfY
          simp [execOp, ha.ev hx, ha.ev hy, resolve, invoke, builtin, Builtin.copy_, run_underlying ht, run_sizeOf hs, hlenY, subA, e0, hfY0, storeCells, goInt]
        · simp only [e0, List.take_zero, List.append_nil, Nat.min_zero, Nat.add_zero, List.take_append_drop]
          exact hw
      · have hst := run_storeCells_blk (P := P) (off := lo) (vs := ys.take (hi - lo)) hh (by rw [hlen]; omega) (fun v hv => hys v (List.mem_of_mem_take hv))
        rw [hlen] at hst
        refine ⟨_, _, _, ?_, satW_setRow hw (r' := .blk b (.agg (cs.take lo ++ ys.take (hi - lo) ++ cs.drop (lo + min ys.length (hi - lo))).toArray) U) rfl rfl hh (fun w' h => h), rfl, rfl⟩
        simp [execOp, ha.ev hx, ha.ev hy, resolve, invoke, builtin, Builtin.copy_, run_underlying ht, run_sizeOf hs, hlenY, subA, if_neg hz, hfY, hst, goInt, Value.cells])
    (fun u V ⟨hu, hV⟩ => by subst hu; subst hV; exact hk)
theorem st_copy_arrN {x y : Operand} {b m lo hi : Nat} {kk : IntKind} {cs ys : List Nat} {y0 : Value} {dT sT E U : TypeId} {R : List Res} (hx : ev l x = some (subA b m lo hi)) (hy : ev l y = some y0) (hf : Find W (.blk b (LV kk cs) U) R) (hr : RdW c W y0 (ys.map (N kk)))
    (ht : P.underlying dT = some (.slice E)) (hs : szOf P E = some 1) (hm : cs.length = m) (h1 : lo ≤ hi) (h2 : hi ≤ m) (hn : Nat.blt d n = true)
    (hk : Go c n ((d, N .i64 (min ys.length (hi - lo))) :: l) (.blk b (LV kk (cs.take lo ++ ys.take (hi - lo) ++ cs.drop (lo + min ys.length (hi - lo)))) U :: R) (wpList P ops Q rest)) :
    Go c n l W (wpList P ops Q (⟨some d, .call { callee := .builtin .copy, args := #[x, y], argTypes := #[dT, sT] }, T, pos, after, none⟩ :: rest)) :=
  st_copy_arr hx hy hf hr ht hs (by simp [Value.oneCell']) (by simpa using hm) h1 h2 hn (by simpa [LV] using hk)

/-- Into a slice of one's own. -/
theorem st_copy_sl {x y : Operand} {s : Value} {xs ys : List Value} {y0 : Value} {dT sT E U : TypeId} {R : List Res} (hx : ev l x = some s) (hy : ev l y = some y0) (hf : Find W (.sl s xs U) R) (hr : RdW c W y0 ys)
    (ht : P.underlying dT = some (.slice E)) (hs : szOf P E = some 1) (hys : ∀ v ∈ ys, v.oneCell' = true) (hn : Nat.blt d n = true)
    (hk : Go c n ((d, N .i64 (min ys.length xs.length)) :: l) (.sl s (ys.take xs.length ++ xs.drop (min ys.length xs.length)) U :: R) (wpList P ops Q rest)) :
    Go c n l W (wpList P ops Q (⟨some d, .call { callee := .builtin .copy, args := #[x, y], argTypes := #[dT, sT] }, T, pos, after, none⟩ :: rest)) :=
  st_op rfl rfl hn (Φ := fun u V => u = N .i64 (min ys.length xs.length) ∧ V = .sl s (ys.take xs.length ++ xs.drop (min ys.length xs.length)) U :: R)
    (fun a w ha hw => by
      have hY := hr w hw
      have hw := hw.perm hf.perm
      obtain ⟨a1, cap1, hye, hc1, hn1, hsp1⟩ := hY.shape
      have hlenY : (Builtin.lenOf y0).run P w = .ok ys.length w := by rw [hye]; rfl
      have hfY := run_first (P := P) hY (k := min ys.length xs.length) (Nat.min_le_left _ _)
      have etake : ys.take (min ys.length xs.length) = ys.take xs.length := by rw [Nat.min_comm, ← List.take_take]; simp
      rw [etake] at hfY
      have hlen : (ys.take xs.length).length = min ys.length xs.length := by rw [List.length_take]; omega
      rcases hw.holds _ (List.mem_cons_self ..) with ⟨rfl, rfl⟩ | ⟨b, off, cap, pre, post, fz, hs'⟩
      · refine ⟨_, w, _, ?_, ?_, rfl, rfl⟩
        · have hfY0 : (Builtin.firstCells 1 0 y0).run P w = .ok #[] w := by simpa using hfY
          simp [execOp, ha.ev hx, ha.ev hy, resolve, invoke, builtin, Builtin.copy_, run_underlying ht, run_sizeOf hs, hlenY, hfY0, goInt]
        · simpa using hw
      · obtain ⟨rfl, g1, g2, g3, g4, g5⟩ := hs'
        by_cases hf0 : fz.1 < fz.2
        · -- frozen beyond the row: cell by cell
          have hst : ∀ (vs : List Value) (i0 : Nat) (cur : List Value) (w : World), w.heap[b]? = some (.cells cur.toArray U fz) → cur.length = (pre ++ xs ++ post).length → off + i0 + vs.length ≤ cur.length → (∀ v ∈ vs, v.oneCell' = true) →
              (storeCells ⟨b, off, none⟩ vs i0).run P w = .ok () (w.setRow b (cur.take (off + i0) ++ vs ++ cur.drop (off + i0 + vs.length)).toArray) := by
            intro vs
            induction vs with
            | nil =>
              intro i0 cur w hh hl hle h1v
              simp only [List.append_nil, List.length_nil, Nat.add_zero, List.take_append_drop]
              rw [setRow_self w b _ U fz hh]; rfl
            | cons v r ih =>
              intro i0 cur w hh hl hle h1v
              simp only [List.length_cons] at hle
              have hlt : off + i0 < cur.length := by omega
              have hcell : w.cell? ⟨b, off + i0, none⟩ = some cur[off + i0] := by simp [World.cell?, hh, hlt]
              have hg := g5 (by omega)
              have hfro : w.frozen? ⟨b, off + i0, none⟩ = false := by
                simp only [World.frozen?, hh]
                simp; omega
              have hs1 : (store ((⟨b, off, none⟩ : Addr).add i0) v).run P w = .ok () (w.setRow b (cur.set (off + i0) v).toArray) := by
                rw [add_pt, run_store P w _ v _ (h1v v (by simp)), hcell]
                simp [hfro, setCell_eq_setRow w b _ cur.toArray U fz v hh]
              have hr := ih (i0 + 1) (cur.set (off + i0) v) (w.setRow b (cur.set (off + i0) v).toArray) (setRow_heap w b _ _ U fz hh) (by simpa using hl) (by simp; omega) (fun u hu => h1v u (by simp [hu]))
              have e := list_seg_step cur (off + i0) v r (by omega)
              simp only [storeCells, Sem.run_bind, hs1, Result.andThen_ok, hr, setRow_setRow]
              congr 3
          have hst' := hst (ys.take xs.length) 0 (pre ++ xs ++ post) w g4 rfl (by rw [hlen]; simp; omega) (fun v hv => hys v (List.mem_of_mem_take hv))
          rw [hlen] at hst'
          have hcur : (pre ++ xs ++ post).take (off + 0) ++ ys.take xs.length ++ (pre ++ xs ++ post).drop (off + 0 + min ys.length xs.length) = pre ++ (ys.take xs.length ++ xs.drop (min ys.length xs.length)) ++ post := by
            subst g3
            simp only [Nat.add_zero, List.append_assoc]
            rw [List.take_left' rfl, List.drop_append, List.drop_eq_nil_of_le (by omega), Nat.add_sub_cancel_left, List.drop_append]
            simp [show min ys.length xs.length - xs.length = 0 by omega]
          rw [hcur] at hst'
          have hl2 : (ys.take xs.length ++ xs.drop (min ys.length xs.length)).length = xs.length := by simp; omega
          refine ⟨_, _, _, ?_, satW_setRow hw (r' := .sl (.slice (some ⟨b, off, none⟩) xs.length cap) (ys.take xs.length ++ xs.drop (min ys.length xs.length)) U) rfl rfl g4 (fun w' h => .inr ⟨b, off, cap, pre, post, fz, by rw [hl2], by rw [hl2]; exact g1, by rw [hl2]; exact g2, g3, h, fun hf => by have := g5 (by omega); simp only [List.length_append, hl2] at this ⊢; exact this⟩), rfl, rfl⟩
          simp [execOp, ha.ev hx, ha.ev hy, resolve, invoke, builtin, Builtin.copy_, run_underlying ht, run_sizeOf hs, hlenY, hfY, hst', goInt]
        · have hst : ∀ (vs : List Value) (i0 : Nat) (cur : List Value) (w : World), w.heap[b]? = some (.cells cur.toArray U fz) → off + i0 + vs.length ≤ cur.length → (∀ v ∈ vs, v.oneCell' = true) →
              (storeCells ⟨b, off, none⟩ vs i0).run P w = .ok () (w.setRow b (cur.take (off + i0) ++ vs ++ cur.drop (off + i0 + vs.length)).toArray) := by
            intro vs
            induction vs with
            | nil =>
              intro i0 cur w hh hle h1v
              simp only [List.append_nil, List.length_nil, Nat.add_zero, List.take_append_drop]
              rw [setRow_self w b _ U fz hh]; rfl
            | cons v r ih =>
              intro i0 cur w hh hle h1v
              simp only [List.length_cons] at hle
              have hlt : off + i0 < cur.length := by omega
              have hcell : w.cell? ⟨b, off + i0, none⟩ = some cur[off + i0] := by simp [World.cell?, hh, hlt]
              have hfro : w.frozen? ⟨b, off + i0, none⟩ = false := by
                simp only [World.frozen?, hh]
                simp; omega
              have hs1 : (store ((⟨b, off, none⟩ : Addr).add i0) v).run P w = .ok () (w.setRow b (cur.set (off + i0) v).toArray) := by
                rw [add_pt, run_store P w _ v _ (h1v v (by simp)), hcell]
                simp [hfro, setCell_eq_setRow w b _ cur.toArray U fz v hh]
              have hr := ih (i0 + 1) (cur.set (off + i0) v) (w.setRow b (cur.set (off + i0) v).toArray) (setRow_heap w b _ _ U fz hh) (by simp; omega) (fun u hu => h1v u (by simp [hu]))
              have e := list_seg_step cur (off + i0) v r (by omega)
              simp only [storeCells, Sem.run_bind, hs1, Result.andThen_ok, hr, setRow_setRow]
              congr 3
          have hst' := hst (ys.take xs.length) 0 (pre ++ xs ++ post) w g4 (by rw [hlen]; simp; omega) (fun v hv => hys v (List.mem_of_mem_take hv))
          rw [hlen] at hst'
          have hcur : (pre ++ xs ++ post).take (off + 0) ++ ys.take xs.length ++ (pre ++ xs ++ post).drop (off + 0 + min ys.length xs.length) = pre ++ (ys.take xs.length ++ xs.drop (min ys.length xs.length)) ++ post := by
            subst g3
            simp only [Nat.add_zero, List.append_assoc]
            rw [List.take_left' rfl, List.drop_append, List.drop_eq_nil_of_le (by omega), Nat.add_sub_cancel_left, List.drop_append]
            simp [show min ys.length xs.length - xs.length = 0 by omega]
          rw [hcur] at hst'
          have hl2 : (ys.take xs.length ++ xs.drop (min ys.length xs.length)).length = xs.length := by simp; omega
          refine ⟨_, _, _, ?_, satW_setRow hw (r' := .sl (.slice (some ⟨b, off, none⟩) xs.length cap) (ys.take xs.length ++ xs.drop (min ys.length xs.length)) U) rfl rfl g4 (fun w' h => .inr ⟨b, off, cap, pre, post, fz, by rw [hl2], by rw [hl2]; exact g1, by rw [hl2]; exact g2, g3, h, fun hf => by have := g5 (by omega); simp only [List.length_append, hl2] at this ⊢; exact this⟩), rfl, rfl⟩
          simp [execOp, ha.ev hx, ha.ev hy, resolve, invoke, builtin, Builtin.copy_, run_underlying ht, run_sizeOf hs, hlenY, hfY, hst', goInt])
    (fun u V ⟨hu, hV⟩ => by subst hu; subst hV; exact hk)
theorem st_copy_slN {x y : Operand} {s : Value} {kk : IntKind} {xs ys : List Nat} {y0 : Value} {dT sT E U : TypeId} {R : List Res} (hx : ev l x = some s) (hy : ev l y = some y0) (hf : Find W (.sl s (xs.map (N kk)) U) R) (hr : RdW c W y0 (ys.map (N kk)))
    (ht : P.underlying dT = some (.slice E)) (hs : szOf P E = some 1) (hn : Nat.blt d n = true)
    (hk : Go c n ((d, N .i64 (min ys.length xs.length)) :: l) (.sl s ((ys.take xs.length ++ xs.drop (min ys.length xs.length)).map (N kk)) U :: R) (wpList P ops Q rest)) :
    Go c n l W (wpList P ops Q (⟨some d, .call { callee := .builtin .copy, args := #[x, y], argTypes := #[dT, sT] }, T, pos, after, none⟩ :: rest)) :=
  st_copy_sl hx hy hf hr ht hs (by simp [Value.oneCell']) hn (by simpa using hk)

/-! ## Literals of arrays and slices, every place given -/
def Seq : Nat → List (Nat × Operand) → Bool
  | _, [] => true
  | i, p :: r => Nat.beq p.1 i && Seq (i + 1) r

theorem fill_seq : ∀ (parts : List (Nat × Value)) (i : Nat) (done z : List Value), (∀ j p, parts[j]? = some p → p.1 = i + j ∧ p.2.oneCell' = true) → done.length = i → parts.length = z.length →
    Instr.fill (fun i => some (i * 1, 1)) (done ++ z).toArray parts = some (done ++ parts.map (·.2)).toArray
  | [], i, done, z, _, _, hl => by
    have : z = [] := List.eq_nil_of_length_eq_zero hl.symm
    subst this; simp [Instr.fill]
  | (q, v) :: r, i, done, z, hp, hd, hl => by
    obtain ⟨h1, h2⟩ := hp 0 (q, v) rfl
    simp only [Nat.add_zero] at h1 h2
    subst h1
    cases z with
    | nil => simp at hl
    | cons z0 zr =>
      have hc := cells1 h2
      have ih := fill_seq r (q + 1) (done ++ [v]) zr (fun j p hj => by
        have := hp (j + 1) p (by simpa using hj)
        exact ⟨by omega, this.2⟩) (by simp [hd]) (by simpa using hl)
      have hset : (done ++ z0 :: zr).set q v = done ++ [v] ++ zr := by
        subst hd
        rw [List.set_append_right _ _ (by omega)]; simp
      simp only [Instr.fill, Nat.mul_one, hc]
      rw [if_neg (by simp; omega)]
      have hzi : (#[v].zipIdx) = #[(v, 0)] := by simp
      simp only [hzi]
      simp only [List.size_toArray, List.length_cons, List.length_nil, List.foldl_toArray', List.foldl_cons, List.foldl_nil, Nat.add_zero, List.setIfInBounds_toArray, hset]
      simp only [Nat.mul_one] at ih
      simpa using ih

theorem parts_ok {a : Act} : ∀ {ps : List (Nat × Operand)} {i : Nat} {vs : List Value} (_ : SatA n l a) (_ : Seq i ps = true) (_ : evs l (ps.map (·.2)) = some vs) (_ : vs.all (·.oneCell') = true),
    (ps.map fun (i, x) => (i, a.eval x)).map (·.2) = vs ∧ ∀ j p, (ps.map fun (i, x) => (i, a.eval x))[j]? = some p → p.1 = i + j ∧ p.2.oneCell' = true
  | [], i, vs, ha, hs, he, h1 => by simp [evs] at he; subst he; simp
  | (q, x) :: r, i, vs, ha, hs, he, h1 => by
    simp only [Seq, Bool.and_eq_true] at hs
    simp only [List.map_cons, evs] at he
    split at he
    · rename_i v us hx hr
      simp at he; subst he
      simp only [List.all_cons, Bool.and_eq_true] at h1
      obtain ⟨g1, g2⟩ := parts_ok (ps := r) (i := i + 1) ha hs.2 hr h1.2
      refine ⟨by simp [ha.ev hx]; simpa using g1, fun j p hj => ?_⟩
      cases j with
      | zero => simp at hj; subst hj; exact ⟨by simpa using Nat.eq_of_beq_eq_true hs.1, by rw [ha.ev hx]; exact h1.1⟩
      | succ j => have := g2 j p (by simpa using hj); exact ⟨by omega, this.2⟩
    · simp at he

theorem st_buildSlice {t E : TypeId} {k : Nat} {ps : List (Nat × Operand)} {vs : List Value} {z : Value} (ht : P.underlying t = some (.slice E)) (hz : zrOf P E = some z) (hs : szOf P E = some 1) (h1 : z.oneCell' = true)
    (hq : Seq 0 ps = true) (hl : ps.length = k) (hv : evs l (ps.map (·.2)) = some vs) (hone : vs.all (·.oneCell') = true) (hk24 : Nat.ble k 16777216 = true) (hn : Nat.blt d n = true)
    (hk : ∀ s, Go c n ((d, s) :: l) (.sl s vs E :: W) (wpList P ops Q rest)) :
    Go c n l W (wpList P ops Q (⟨some d, .buildSlice t k ps.toArray, T, pos, after, none⟩ :: rest)) :=
  st_op rfl rfl hn (Φ := fun u V => V = .sl u vs E :: W)
    (fun a w ha hw => by
      obtain ⟨g1, g2⟩ := parts_ok ha hq hv hone
      have hlen : vs.length = k := by rw [← g1]; simp [hl]
      have hle : ¬ (16777216 < k) := by have := Nat.le_of_ble_eq_true hk24; omega
      have hfill := fill_seq (ps.map fun (i, x) => (i, a.eval x)) 0 [] (List.replicate k z) (fun j p hj => by have := g2 j p hj; exact ⟨by omega, this.2⟩) rfl (by simp [hl])
      rw [g1] at hfill
      simp only [List.nil_append] at hfill
      have hmc : ∀ zs : Array Value, (k = 0 ∨ zs = #[z]) → (Array.range k).map (fun j => zs[j % zs.size]!) = (List.replicate k z).toArray := by
        intro zs h
        rcases h with rfl | rfl
        · simp
        · apply Array.ext
          · simp
          · intro j h1' h2'
            simp [Nat.mod_one]
      refine ⟨_, _, _, ?_, hw.alloc (o := .cells vs.toArray E) (r := .sl (.slice (some ⟨w.heap.size, 0, none⟩) k k) vs E) rfl ?_, rfl⟩
      · by_cases hk0 : k = 0
        · subst hk0
          simp only [execOp, Instr.buildSlice, Sem.run_bind, run_underlying ht, run_sizeOf hs, Result.andThen_ok, List.map_toArray]
          simp at hfill
          simp [hfill, newRow, Array.range_zero']
        · have h0 := hmc #[z] (.inr rfl)
          simp only [execOp, Instr.buildSlice, Sem.run_bind, run_underlying ht, run_sizeOf hs, Result.andThen_ok, List.map_toArray, Nat.mul_one]
          simp [hle, hk0, run_zero hz, cells1 h1] at h0 ⊢
          rw [h0]
          simp at hfill
          simp [hfill, newRow]
      · exact .inr ⟨w.heap.size, 0, k, [], [], (0, 0), by simp [hlen], by simp [hlen], by simp [hlen], rfl, by simp, by simp⟩)
    (fun u V hV => by subst hV; exact hk u)

theorem st_buildSliceN {t E : TypeId} {k : Nat} {ps : List (Nat × Operand)} {kk : IntKind} {vs : List Nat} (ht : P.underlying t = some (.slice E)) (hz : zrOf P E = some (N kk 0)) (hs : szOf P E = some 1)
    (hq : Seq 0 ps = true) (hl : ps.length = k) (hv : evs l (ps.map (·.2)) = some (vs.map (N kk))) (hk24 : Nat.ble k 16777216 = true) (hn : Nat.blt d n = true)
    (hk : ∀ s, Go c n ((d, s) :: l) (.sl s (vs.map (N kk)) E :: W) (wpList P ops Q rest)) :
    Go c n l W (wpList P ops Q (⟨some d, .buildSlice t k ps.toArray, T, pos, after, none⟩ :: rest)) :=
  st_buildSlice ht hz hs rfl hq hl hv (by simp [Value.oneCell']) hk24 hn hk
theorem st_build_arr {t E : TypeId} {k : Nat} {ps : List (Nat × Operand)} {vs : List Value} {zs : Array Value} (ht : P.underlying t = some (.array k E)) (hz : zrOf P t = some (.agg zs)) (hzs : zs.size = k) (hs : szOf P E = some 1)
    (hq : Seq 0 ps = true) (hl : ps.length = k) (hv : evs l (ps.map (·.2)) = some vs) (hone : vs.all (·.oneCell') = true) (hn : Nat.blt d n = true)
    (hk : Go c n ((d, .agg vs.toArray) :: l) W (wpList P ops Q rest)) :
    Go c n l W (wpList P ops Q (⟨some d, .build t ps.toArray, T, pos, after, none⟩ :: rest)) :=
  st_val rfl rfl hn (fun a w ha hw => by
      obtain ⟨g1, g2⟩ := parts_ok ha hq hv hone
      have hfill := fill_seq (ps.map fun (i, x) => (i, a.eval x)) 0 [] zs.toList (fun j p hj => by have := g2 j p hj; exact ⟨by omega, this.2⟩) rfl (by simp [hl, hzs])
      rw [g1] at hfill
      simp only [List.nil_append, Array.toArray_toList, Nat.mul_one] at hfill
      simp only [execOp, Instr.build, Sem.run_bind, run_underlying ht, run_zero hz, run_sizeOf hs, Result.andThen_ok, List.map_toArray, Value.cells, Nat.mul_one, hfill]
      rfl) hk
end

/-! ## A result that lies in a box -/
section
variable {P : Program} {c : Cx} {n : Nat} {l : Sl} {W : List Res}
theorem st_endc {fn : Func} {R : Ending → World → Prop} {t : Tmp} {b : Nat} {T U : TypeId} {cs : Array Value} {R0 : List Res}
    (hres : fn.results = #[.cell t T]) (hv : lk l t = some (pt b 0)) (hf : Find W (.blk b (.agg cs) U) R0) (hs : aggT P T = true) (hz : szOf P T = some cs.size)
    (hR : ∀ w, SatW c W w → R (.returned (.agg cs)) w) : Go c n l W (bodyPost P fn R .ret) := fun a w ha hw => by
  have hh : w.heap[b]? = some (.cells cs U (0, 0)) := hw.holds _ hf.mem
  have hl := run_loadVar_a (P := P) (w := w) (b := b) (off := 0) (cs := cs.toList) hs (by simpa using hz) hh (fun j v hv => by simpa using hv)
  have h1 := ha.at_ t _ hv
  refine bodyPost_ret (v := .agg cs) ?_ ha.dfr (hR w hw)
  have hp : a.tmps.getD t undef = pt b 0 := by rw [Array.getD_eq_getD_getElem?, h1]; rfl
  simp only [Array.toArray_toList] at hl
  have hp' : a.tmps[t]?.getD undef = pt b 0 := by simpa using hp
  simp [results, hres, hp', asAddr, hl]
theorem st_endc_LV {fn : Func} {R : Ending → World → Prop} {t : Tmp} {b m : Nat} {T U : TypeId} {k : IntKind} {ys : List Nat} {R0 : List Res}
    (hres : fn.results = #[.cell t T]) (hv : lk l t = some (pt b 0)) (hf : Find W (.blk b (LV k ys) U) R0) (hs : aggT P T = true) (hz : szOf P T = some m) (hl : ys.length = m)
    (hR : ∀ w, SatW c W w → R (.returned (LV k ys)) w) : Go c n l W (bodyPost P fn R .ret) :=
  st_endc hres hv hf hs (by subst hl; simpa using hz) hR
/-- Two results, the first in a box. -/
theorem st_endc2 {fn : Func} {R : Ending → World → Prop} {t u : Tmp} {b : Nat} {T U : TypeId} {cs : Array Value} {v : Value} {R0 : List Res}
    (hres : fn.results = #[.cell t T, .tmp u]) (hv : lk l t = some (pt b 0)) (hu : lk l u = some v) (hf : Find W (.blk b (.agg cs) U) R0) (hs : aggT P T = true) (hz : szOf P T = some cs.size)
    (hR : ∀ w, SatW c W w → R (.returned (.tuple #[.agg cs, v])) w) : Go c n l W (bodyPost P fn R .ret) := fun a w ha hw => by
  have hh : w.heap[b]? = some (.cells cs U (0, 0)) := hw.holds _ hf.mem
  have hl := run_loadVar_a (P := P) (w := w) (b := b) (off := 0) (cs := cs.toList) hs (by simpa using hz) hh (fun j v hv => by simpa using hv)
  have h1 := ha.at_ t _ hv
  have h2 := ha.at_ u _ hu
  refine bodyPost_ret (v := .tuple #[.agg cs, v]) ?_ ha.dfr (hR w hw)
  have hp' : a.tmps[t]?.getD undef = pt b 0 := by rw [h1]; rfl
  have hu' : a.tmps[u]?.getD undef = v := by rw [h2]; rfl
  simp only [Array.toArray_toList] at hl
  simp [results, hres, hp', hu', asAddr, hl]
theorem st_endc2c {fn : Func} {R : Ending → World → Prop} {t u : Tmp} {b b' : Nat} {T T' U U' : TypeId} {cs cs' : Array Value} {R0 R1 : List Res}
    (hres : fn.results = #[.cell t T, .cell u T']) (hv : lk l t = some (pt b 0)) (hu : lk l u = some (pt b' 0)) (hf : Find W (.blk b (.agg cs) U) R0) (hf' : Find W (.blk b' (.agg cs') U') R1) (hs : aggT P T = true) (hz : szOf P T = some cs.size)
    (hs' : aggT P T' = true) (hz' : szOf P T' = some cs'.size)
    (hR : ∀ w, SatW c W w → R (.returned (.tuple #[.agg cs, .agg cs'])) w) : Go c n l W (bodyPost P fn R .ret) := fun a w ha hw => by
  have hh : w.heap[b]? = some (.cells cs U (0, 0)) := hw.holds _ hf.mem
  have hh' : w.heap[b']? = some (.cells cs' U' (0, 0)) := hw.holds _ hf'.mem
  have hl := run_loadVar_a (P := P) (w := w) (b := b) (off := 0) (cs := cs.toList) hs (by simpa using hz) hh (fun j v hv => by simpa using hv)
  have hl' := run_loadVar_a (P := P) (w := w) (b := b') (off := 0) (cs := cs'.toList) hs' (by simpa using hz') hh' (fun j v hv => by simpa using hv)
  have h1 := ha.at_ t _ hv
  have h2 := ha.at_ u _ hu
  refine bodyPost_ret (v := .tuple #[.agg cs, .agg cs']) ?_ ha.dfr (hR w hw)
  have hp' : a.tmps[t]?.getD undef = pt b 0 := by rw [h1]; rfl
  have hu' : a.tmps[u]?.getD undef = pt b' 0 := by rw [h2]; rfl
  simp only [Array.toArray_toList] at hl hl'
  simp [results, hres, hp', hu', asAddr, hl, hl']
end
end Go.Proofs.Ytfhempgkdnecnaa.L
