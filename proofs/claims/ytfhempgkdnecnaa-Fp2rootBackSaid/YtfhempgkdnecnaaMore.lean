/- More steps of the small program logic: cap, append of fresh zeros, functions that the model stands in for. No condition. -/
import Derived.Test.YtfhempgkdnecnaaAuto
import Derived.Laws.Externs
namespace Go.Proofs.Ytfhempgkdnecnaa.L
open Go Go.Proofs

section
variable {P : Program} {c : Cx} {n : Nat} {l : Sl} {W : List Res} {ops : Array Oper} {Q : Exit → Act → World → Prop} {rest : List Oper}
variable {d : Nat} {T : TypeId} {pos : String} {after : Array Edge}

theorem st_capnil {x : Operand} {t E : TypeId} {ts : List TypeId} (hx : ev l x = some (.slice none 0 0)) (ht : P.underlying t = some (.slice E)) (hn : Nat.blt d n = true)
    (hk : Go c n ((d, N .i64 0) :: l) W (wpList P ops Q rest)) :
    Go c n l W (wpList P ops Q (⟨some d, .call { callee := .builtin .cap, args := #[x], argTypes := (t :: ts).toArray }, T, pos, after, none⟩ :: rest)) :=
  st_val rfl rfl hn (fun a w ha _ => by
    simp [execOp, ha.ev hx, resolve, invoke, builtin, Builtin.cap_, run_underlying ht, goInt]) hk

/-- append(nil, make([]E, k)...). -/
theorem st_append_mk {x y : Operand} {k : Nat} {t E I : TypeId} {by' : Nat} {z : Value} (hx : ev l x = some (.slice none 0 0)) (hy : ev l y = some (N .i64 k))
    (ht : P.underlying t = some (.slice E)) (hI : P.underlying I = some (.int .i64)) (hz : zrOf P E = some z) (hs : szOf P E = some 1) (hb : byOf P E = some by') (h1 : z.oneCell' = true)
    (hk0 : 0 < k) (hbd : k * by' ≤ 140737488355328) (h63 : k < 9223372036854775808) (hn : Nat.blt d n = true)
    (hk : ∀ s, Go c n ((d, s) :: l) (.sl s (List.replicate k z) E :: W) (wpList P ops Q rest)) :
    Go c n l W (wpList P ops Q (⟨some d, .call { callee := .builtin .append, args := #[x, y], argTypes := #[t, I] }, T, pos, after, none⟩ :: rest)) :=
  st_op rfl rfl hn (Φ := fun u V => V = .sl u (List.replicate k z) E :: W)
    (fun a w ha hw => by
      obtain ⟨i, hi, hz', hs', hb'⟩ := info_of hz hs hb
      have hti : ∀ w, (typeInfo E).run P w = .ok i w := fun w => by simp [typeInfo, hi]
      have hz0 : ∀ w, (zeroValue E).run P w = .ok z w := run_zero hz
      have hty : ∀ w, (underlying t).run P w = .ok (.slice E) w := run_underlying ht
      have htI : ∀ w, (underlying I).run P w = .ok (.int .i64) w := run_underlying hI
      have hw1 : IntKind.i64.wrap (Int.ofNat k) = Int.ofNat k := i64_wrap (by constructor <;> simp only [Int.ofNat_eq_natCast] <;> omega)
      have hl0 : ¬ ((k : Int) < 0) := by omega
      have hl1 : ¬ (281474976710656 < (k : Int) * (i.bytes : Int)) := by
        rw [hb']
        have : ((k * by' : Nat) : Int) ≤ 140737488355328 := by omega
        rw [Int.natCast_mul] at this; omega
      have h63i : ¬ (9223372036854775807 < (k : Int)) := by omega
      have hfit := growslice_fits (need := k) (old := 0) (bytes := by') (by omega) hbd
      have h48 : ¬ (281474976710656 < Builtin.nextslicecap k 0 * i.bytes) := by rw [hb']; omega
      have hcut : k ≤ grownCap w k 0 E := by simp only [grownCap, Question.cut]; omega
      have hzc : ∀ q, Builtin.zeroCells z.cells q = (List.replicate q z).toArray := by
        intro q
        apply Array.ext
        · simp [Builtin.zeroCells, cells1 h1]
        · intro j h1' h2'
          simp [Builtin.zeroCells, cells1 h1, Nat.mod_one]
      have hk00 : ¬ k = 0 := by omega
      have hk01 : ¬ k ≤ 0 := by omega
      have hres : (Builtin.append_ #[t, I] T #[Value.slice none 0 0, N .i64 k]).run P w =
          .ok (.slice (some ⟨w.heap.size, 0, none⟩) k (grownCap w k 0 E))
            (w.drew.alloc (.cells (List.replicate k z ++ List.replicate (grownCap w k 0 E - k) z).toArray E)) := by
        have hw1' : IntKind.i64.wrap (k : Int) = (k : Int) := hw1
        simp [Builtin.append_, hty, htI, run_sizeOf hs, asInt, asIntOf, N, hw1', hl0, hl1, hk00, h63i, h48, hti, Question.forced, hz0, newRow, grownCap, Builtin.firstCells, hzc, -List.replicate_append_replicate]
        simp [List.replicate_append_replicate]
      refine ⟨_, _, _, ?_, (hw.drawn (w.drawn + 1)).alloc (o := .cells (List.replicate k z ++ List.replicate (grownCap w k 0 E - k) z).toArray E)
        (r := .sl (.slice (some ⟨w.heap.size, 0, none⟩) k (grownCap w k 0 E)) (List.replicate k z) E) rfl ?_, rfl⟩
      · simp only [execOp, ha.ev hx, ha.ev hy, resolve, invoke, builtin, Sem.run_bind, Sem.run_pure, Result.andThen_ok, List.map_toArray, List.map_cons, List.map_nil]
        rw [hres]; rfl
      · exact .inr ⟨w.heap.size, 0, grownCap w k 0 E, [], List.replicate (grownCap w k 0 E - k) z, (0, 0), by simp, by simpa using hcut, by simp; omega, rfl, by simp, by simp⟩)
    (fun u V hV => by subst hV; exact hk u)

theorem run_append_made {w : World} {t E ty I : TypeId} {by' k : Nat} {z s : Value} {xs : List Value} (ht : P.underlying t = some (.slice E)) (hz : zrOf P E = some z) (hs : szOf P E = some 1) (hb : byOf P E = some by') (h1 : z.oneCell' = true)
    (hI : P.underlying I = some (.int .i64)) (hS : (Res.sl s xs E).holds w) (hbdk : (xs.length + k) * by' ≤ 140737488355328) (h63k : xs.length + k < 9223372036854775808) :
    ∃ s' w', (Builtin.append_ #[t, I] ty #[s, N .i64 k]).run P w = .ok s' w' ∧ (Res.sl s' (xs ++ List.replicate k z) E).holds w' ∧ Ext (Res.sl s xs E).fp w w' ∧
      ((Res.sl s' (xs ++ List.replicate k z) E).fp = (Res.sl s xs E).fp ∨ ((Res.sl s' (xs ++ List.replicate k z) E).fp = [w.heap.size])) := by
  obtain ⟨ys, hys0⟩ : ∃ ys, ys = List.replicate k z := ⟨_, rfl⟩
  have hyl : ys.length = k := by rw [hys0]; simp
  have hys : ∀ v ∈ ys, v.oneCell' = true := by intro v hv; rw [hys0] at hv; rw [List.eq_of_mem_replicate hv]; exact h1
  rw [← hys0]
  have hbd : (xs.length + ys.length) * by' ≤ 140737488355328 := by rw [hyl]; exact hbdk
  have h63 : xs.length + ys.length < 9223372036854775808 := by rw [hyl]; exact h63k
  obtain ⟨i, hi, hz', hs', hb'⟩ := info_of hz hs hb
  have htI : ∀ w, (underlying I).run P w = .ok (.int .i64) w := run_underlying hI
  have hw1 : IntKind.i64.wrap (k : Int) = (k : Int) := i64_wrap (by constructor <;> omega)
  have hw0 : IntKind.i64.wrap 0 = 0 := by decide
  have hl0 : ¬ ((k : Int) < 0) := by omega
  have hl1 : ¬ (281474976710656 < (k : Int) * (i.bytes : Int)) := by
    rw [hb']
    have h2 : k * by' ≤ (xs.length + k) * by' := Nat.mul_le_mul_right _ (by omega)
    have : ((k * by' : Nat) : Int) ≤ 140737488355328 := by omega
    rw [Int.natCast_mul] at this; omega
  have hzk : Builtin.zeroCells z.cells k = ys.toArray := by
    rw [hys0]
    apply Array.ext
    · simp [Builtin.zeroCells, cells1 h1]
    · intro j h1' h2'
      simp [Builtin.zeroCells, cells1 h1, Nat.mod_one]
  have hcE : P.underlying t = some (.slice E) := ht
  have hdst : ∃ base cap, s = .slice base xs.length cap := by
    rcases hS with ⟨rfl, rfl⟩ | ⟨b, off, cap, pre, post, fz, hs⟩
    · exact ⟨none, 0, rfl⟩
    · exact ⟨_, cap, hs.val⟩
  obtain ⟨base, cap, hse⟩ := hdst
  have hz0 : ∀ w, (zeroValue E).run P w = .ok z w := run_zero hz
  have hty : ∀ w, (underlying t).run P w = .ok (.slice E) w := run_underlying ht
  have hti : ∀ w, (typeInfo E).run P w = .ok i w := fun w => by simp [typeInfo, hi]
  have h63i : ¬ (9223372036854775807 < ((xs.length : Int) + (ys.length : Int))) := by omega
  by_cases hroom : xs.length + ys.length ≤ cap
  · -- there is room
    rcases hS with ⟨hs1, hx1⟩ | ⟨b, off, cap', pre, post, fz, hs⟩
    · subst hx1
      rw [hs1] at hse; cases hse
      have hy0 : ys = [] := List.eq_nil_of_length_eq_zero (by simpa using hroom)
      have hk0 : k = 0 := by rw [← hyl, hy0]; rfl
      rw [hy0]
      refine ⟨.slice none 0 0, w, ?_, .inl ⟨rfl, rfl⟩, Ext.refl _ _, .inl (by rw [hs1]; rfl)⟩
      subst hs1
      subst hk0
      simp [Builtin.append_, hty, htI, run_sizeOf hs, asInt, asIntOf, hw0, hti]
    · obtain ⟨hv, g1, g2, g3, g4, g5⟩ := hs
      rw [hv] at hse; cases hse
      subst hv
      have hfit : off + xs.length + ys.length ≤ (pre ++ xs ++ post).toArray.size := by simp; omega
      by_cases hy0 : ys = []
      · have hk0 : k = 0 := by rw [← hyl, hy0]; rfl
        rw [hy0]
        refine ⟨.slice (some ⟨b, off, none⟩) xs.length cap, w, ?_, ?_, Ext.refl _ _, .inl rfl⟩
        · subst hk0
          simp [Builtin.append_, hty, htI, run_sizeOf hs, asInt, asIntOf, hw0, hti, storeCells, g1]
        · simp only [List.append_nil]; exact .inr ⟨b, off, cap, pre, post, fz, rfl, g1, g2, g3, g4, g5⟩
      · have hfz : ¬ fz.1 < fz.2 ∨ (pre ++ xs ++ post).length ≤ fz.1 := by
          by_cases hf : fz.1 < fz.2
          · exact .inr (g5 (by omega))
          · exact .inl hf
        -- the store, cell by cell
        have hst : ∀ (vs : List Value) (i0 : Nat) (cur : List Value) (w : World), w.heap[b]? = some (.cells cur.toArray E fz) → cur.length = (pre ++ xs ++ post).length → off + xs.length + i0 + vs.length ≤ cur.length → (∀ v ∈ vs, v.oneCell' = true) →
            ∃ cur' : List Value, (storeCells ⟨b, off + xs.length, none⟩ vs i0).run P w = .ok () (w.setRow b cur'.toArray) ∧ cur' = cur.take (off + xs.length + i0) ++ vs ++ cur.drop (off + xs.length + i0 + vs.length) := by
          intro vs
          induction vs with
          | nil =>
            intro i0 cur w hh hl hle h1v
            refine ⟨cur, ?_, by simp⟩
            rw [setRow_self w b _ E fz hh]; rfl
          | cons v r ih =>
            intro i0 cur w hh hl hle h1v
            simp only [List.length_cons] at hle
            have hlt : off + xs.length + i0 < cur.length := by omega
            have hcell : w.cell? ⟨b, off + xs.length + i0, none⟩ = some cur[off + xs.length + i0] := by simp [World.cell?, hh, hlt]
            have hfro : w.frozen? ⟨b, off + xs.length + i0, none⟩ = false := by
              simp only [World.frozen?, hh]
              rcases hfz with h | h
              · simp; omega
              · simp; omega
            have hs1 : (store ((⟨b, off + xs.length, none⟩ : Addr).add i0) v).run P w = .ok () (w.setRow b (cur.set (off + xs.length + i0) v).toArray) := by
              rw [add_pt, run_store P w _ v _ (h1v v (by simp)), hcell]
              simp [hfro, setCell_eq_setRow w b _ cur.toArray E fz v hh]
            obtain ⟨cur', hr, he⟩ := ih (i0 + 1) (cur.set (off + xs.length + i0) v) (w.setRow b (cur.set (off + xs.length + i0) v).toArray) (setRow_heap w b _ _ E fz hh) (by simpa using hl) (by simp; omega) (fun u hu => h1v u (by simp [hu]))
            refine ⟨cur', ?_, ?_⟩
            · simp only [storeCells, Sem.run_bind, hs1, Result.andThen_ok, hr, setRow_setRow]
            · rw [he]
              have e := list_seg_step cur (off + xs.length + i0) v r (by omega)
              simpa [Nat.add_assoc] using e
        obtain ⟨cur', hr, he⟩ := hst ys 0 (pre ++ xs ++ post) w g4 rfl (by simp; omega) hys
        have hcur : cur' = pre ++ (xs ++ ys) ++ post.drop ys.length := by
          rw [he]
          subst g3
          simp only [Nat.add_zero]
          rw [List.take_left' (by simp), show pre.length + xs.length + ys.length = (pre ++ xs).length + ys.length by simp, List.drop_append]
          simp
        rw [hcur] at hr
        refine ⟨.slice (some ⟨b, off, none⟩) (xs.length + ys.length) cap, w.setRow b (pre ++ (xs ++ ys) ++ post.drop ys.length).toArray, ?_, ?_, ?_, .inl rfl⟩
        · have hk0 : ¬ k = 0 := fun h => hy0 (by rw [hys0, h]; rfl)
          simp at hr
          have hroom' : xs.length + k ≤ cap := by rw [← hyl]; exact hroom
          simp [Builtin.append_, hty, htI, run_sizeOf hs, asInt, asIntOf, hw1, hl0, hl1, hk0, hroom', hz0, hzk, add_pt, hr, hyl, hti]
        · refine .inr ⟨b, off, cap, pre, post.drop ys.length, fz, by simp, by simpa using hroom, ?_, g3, setRow_heap w b _ _ E fz g4, ?_⟩
          · simp; omega
          · intro hf; have := g5 (by omega); simp at this ⊢; omega
        · exact ⟨rfl, rfl, rfl, by simp, fun k _ hk => setRow_other w b k _ (by simpa [Res.fp] using hk)⟩
  · -- a new block
    have hfit := growslice_fits (need := xs.length + ys.length) (old := cap) (bytes := by') (by omega) hbd
    have h48 : ¬ (281474976710656 < Builtin.nextslicecap (xs.length + ys.length) cap * i.bytes) := by rw [hb']; omega
    have hX : Rd w s xs := by
      have := RdW.own (c := ⟨w, (Res.sl s xs E).fp⟩) (W := [.sl s xs E]) (Find.here)
      refine this w ⟨Ext.refl _ _, by simpa using hS, fun b hb => .inr (by simpa [fps] using hb), ?_⟩
      simp only [fps, List.flatMap_cons, List.flatMap_nil, List.append_nil]
      cases s with
      | slice a _ _ => cases a <;> simp [Res.fp]
      | _ => simp [Res.fp]
    have hfX := fun k => run_first (P := P) (hX.drew k) (Nat.le_refl xs.length)
    have hcut : xs.length + ys.length ≤ grownCap w (xs.length + ys.length) cap E := by
      simp only [grownCap, Question.cut]; omega
    have hzc : Builtin.zeroCells z.cells (grownCap w (xs.length + ys.length) cap E - (xs.length + ys.length)) = (List.replicate (grownCap w (xs.length + ys.length) cap E - (xs.length + ys.length)) z).toArray := by
      apply Array.ext
      · simp [Builtin.zeroCells, cells1 h1]
      · intro j h1' h2'
        simp [Builtin.zeroCells, cells1 h1, Nat.mod_one]
    refine ⟨.slice (some ⟨w.heap.size, 0, none⟩) (xs.length + ys.length) (grownCap w (xs.length + ys.length) cap E),
      { w with drawn := w.drawn + 1, heap := w.heap.push (.cells (xs ++ ys ++ List.replicate (grownCap w (xs.length + ys.length) cap E - (xs.length + ys.length)) z).toArray E) }, ?_, ?_, ?_, .inr rfl⟩
    · subst hse
      have hfX' : (Builtin.firstCells 1 xs.length (Value.slice base xs.length cap)).run P w.drew = .ok xs.toArray w.drew := by
        have := hfX (w.drawn + 1); simpa using this
      have hcells : xs.toArray ++ ys.toArray ++ Builtin.zeroCells z.cells (grownCap w (xs.length + ys.length) cap E - (xs.length + ys.length)) =
          (xs ++ ys ++ List.replicate (grownCap w (xs.length + ys.length) cap E - (xs.length + ys.length)) z).toArray := by rw [hzc]; simp
      have hres : (Builtin.append_ #[t, I] ty #[Value.slice base xs.length cap, N .i64 k]).run P w =
          .ok (.slice (some ⟨w.heap.size, 0, none⟩) (xs.length + ys.length) (grownCap w (xs.length + ys.length) cap E))
            (w.drew.alloc (.cells (xs.toArray ++ ys.toArray ++ Builtin.zeroCells z.cells (grownCap w (xs.length + ys.length) cap E - (xs.length + ys.length))) E)) := by
        rw [hyl] at hroom h63i h48 ⊢
        by_cases hk0 : k = 0
        · have hy0 : ys = [] := by rw [hys0, hk0]; rfl
          subst hk0
          simp only [hy0]
          simp only [Nat.add_zero, Int.natCast_zero, Int.add_zero] at hroom h63i h48
          simp [Builtin.append_, hty, htI, run_sizeOf hs, asInt, asIntOf, hw0, hroom, h63i, h48, hti, Question.forced, hfX', hz0, newRow, grownCap, -List.append_toArray]
        · simp [Builtin.append_, hty, htI, run_sizeOf hs, asInt, asIntOf, hw1, hl0, hl1, hk0, hroom, h63i, h48, hti, Question.forced, hfX', hzk, hz0, newRow, grownCap, -List.append_toArray]
      rw [hcells] at hres
      exact hres
    · refine .inr ⟨w.heap.size, 0, grownCap w (xs.length + ys.length) cap E, [], List.replicate (grownCap w (xs.length + ys.length) cap E - (xs.length + ys.length)) z, (0, 0), by simp, by simpa using hcut, ?_, rfl, ?_, by simp⟩
      · simp; omega
      · simp
    · exact ⟨rfl, rfl, rfl, by simp, fun k hk _ => by
        show (w.heap.push _)[k]? = _
        rw [Array.getElem?_push, if_neg (by omega)]⟩

theorem st_append_made {x y : Operand} {s : Value} {xs : List Value} {t E I : TypeId} {by' k : Nat} {z : Value} {R : List Res} (hx : ev l x = some s) (hy : ev l y = some (N .i64 k)) (hf : Find W (.sl s xs E) R)
    (ht : P.underlying t = some (.slice E)) (hI : P.underlying I = some (.int .i64)) (hz : zrOf P E = some z) (hs : szOf P E = some 1) (hb : byOf P E = some by') (h1 : z.oneCell' = true)
    (hbd : (xs.length + k) * by' ≤ 140737488355328) (h63 : xs.length + k < 9223372036854775808) (hn : Nat.blt d n = true)
    (hk : ∀ s', Go c n ((d, s') :: l) (.sl s' (xs ++ List.replicate k z) E :: R) (wpList P ops Q rest)) :
    Go c n l W (wpList P ops Q (⟨some d, .call { callee := .builtin .append, args := #[x, y], argTypes := #[t, I] }, T, pos, after, none⟩ :: rest)) :=
  st_op rfl rfl hn (Φ := fun u V => V = .sl u (xs ++ List.replicate k z) E :: R)
    (fun a w ha hw => by
      have hw := hw.perm hf.perm
      obtain ⟨s', w', h2, h3, h4, h5⟩ := run_append_made (P := P) (ty := T) ht hz hs hb h1 hI (hw.holds _ (List.mem_cons_self ..)) hbd h63
      refine ⟨s', w', _, by simp only [execOp, ha.ev hx, ha.ev hy, resolve, invoke, builtin, Sem.run_bind, Sem.run_pure, Result.andThen_ok, List.map_toArray, List.map_cons, List.map_nil, h2], ?_, rfl⟩
      rcases h5 with h5 | h5
      · exact hw.upd h5 h4 h3
      · have hlt := hw.lt
        have hn := hw.nd
        simp only [fps, List.flatMap_cons] at hn hlt
        obtain ⟨n1, n2, n3⟩ := List.nodup_append.1 hn
        refine ⟨hw.ext.trans h4 (fun q hq => hw.own q (by simp only [fps, List.flatMap_cons, List.mem_append]; exact .inl hq)), ?_, ?_, ?_⟩
        · intro r hr
          rcases List.mem_cons.1 hr with rfl | hr
          · exact h3
          · exact Res.holds_congr (hw.holds r (List.mem_cons_of_mem _ hr)) fun b hb => h4.block b (Res.fp_lt (hw.holds r (List.mem_cons_of_mem _ hr)) b hb) fun hb' => n3 b hb' b (List.mem_flatMap.2 ⟨r, hr, hb⟩) rfl
        · intro b hb
          simp only [fps, List.flatMap_cons, h5, List.mem_append, List.mem_singleton] at hb
          rcases hb with rfl | hb
          · exact .inl hw.ext.size
          · exact hw.own b (by simp only [fps, List.flatMap_cons, List.mem_append]; exact .inr hb)
        · simp only [fps, List.flatMap_cons, h5]
          refine List.nodup_append.2 ⟨by simp, n2, fun p hp q hq => ?_⟩
          simp only [List.mem_singleton] at hp; subst hp
          have := hlt q (List.mem_append.2 (.inr hq)); omega)
    (fun u V hV => by subst hV; exact hk u)
theorem st_append_madeN {x y : Operand} {s : Value} {kk : IntKind} {xs : List Nat} {t E I : TypeId} {by' k : Nat} {R : List Res} (hx : ev l x = some s) (hy : ev l y = some (N .i64 k)) (hf : Find W (.sl s (xs.map (N kk)) E) R)
    (ht : P.underlying t = some (.slice E)) (hI : P.underlying I = some (.int .i64)) (hz : zrOf P E = some (N kk 0)) (hs : szOf P E = some 1) (hb : byOf P E = some by')
    (hbd : (xs.length + k) * by' ≤ 140737488355328) (h63 : xs.length + k < 9223372036854775808) (hn : Nat.blt d n = true)
    (hk : ∀ s', Go c n ((d, s') :: l) (.sl s' ((xs ++ List.replicate k 0).map (N kk)) E :: R) (wpList P ops Q rest)) :
    Go c n l W (wpList P ops Q (⟨some d, .call { callee := .builtin .append, args := #[x, y], argTypes := #[t, I] }, T, pos, after, none⟩ :: rest)) :=
  st_append_made hx hy hf ht hI hz hs hb rfl (by simpa using hbd) (by simpa using h63) hn (fun s' => by have := hk s'; rw [List.map_append, List.map_replicate] at this; exact this)
/-- An array in a box, as the slice of all of it. -/
theorem st_blk_sl {φ : Act → World → Prop} {b m : Nat} {k : IntKind} {ys : List Nat} {U : TypeId} {R : List Res} (hf : Find W (.blk b (LV k ys) U) R) (hm : ys.length = m)
    (hk : Go c n l (.sl (subA b m 0 m) (ys.map (N k)) U :: R) φ) : Go c n l W φ :=
  st_ghost (fun w hw => by
    have hw := hw.perm hf.perm
    refine hw.upd (r' := .sl (subA b m 0 m) (ys.map (N k)) U) rfl (Ext.refl _ _) ?_
    have hh : w.heap[b]? = some (.cells (ys.map (N k)).toArray U (0, 0)) := hw.holds _ (List.mem_cons_self ..)
    exact .inr ⟨b, 0, m, [], [], (0, 0), by simp [subA, hm], by simp [hm], by simp [hm], rfl, by simpa using hh, by simp⟩) hk
theorem RdW.arrAll {b m : Nat} {k : IntKind} {ys : List Nat} {U : TypeId} {R : List Res} (h : Find W (.blk b (LV k ys) U) R) (hm : ys.length = m) : RdW c W (subA b m 0 m) (ys.map (N k)) := by
  have := RdW.arrN (c := c) (lo := 0) (hi := m) h (Nat.zero_le _) (Nat.le_refl _) hm
  rwa [List.drop_zero, List.take_of_length_le (by omega)] at this
/-- What the worlds say of values alone. -/
theorem st_fact {φ : Act → World → Prop} {p : Prop} (h : ∀ w, SatW c W w → p) (hk : p → Go c n l W φ) : Go c n l W φ := fun a w ha hw => hk (h w hw) a w ha hw
theorem Rd.one {w : World} {s : Value} {xs : List Value} (h : Rd w s xs) : s.oneCell' = true := by
  obtain ⟨a, cap, rfl, _⟩ := h.shape; rfl
/-- Old memory, for a function that writes some of what is owned. -/
theorem RdC.toWin {s : Value} {xs : List Value} {Win R : List Res} {w0 : World} (h : RdC c s xs) (h0 : SatW c W w0) (hS : Split W Win R) : RdC ⟨w0, fps Win⟩ s xs := by
  have h1 := RdC.shift h h0
  refine ⟨h1.rd, fun i hi hm => h1.out i hi ?_⟩
  have hp : (fps W).Perm (fps (Win ++ R)) := hS.perm.flatMap_right _
  refine hp.mem_iff.2 ?_
  simp only [fps, List.flatMap_append, List.mem_append]
  exact .inl hm
/-- A function that the model stands in for. -/
def ExtV (P : Program) (f : FuncId) (vs : List Value) (v : Value) : Prop := ∀ w, (callFunc f vs.toArray).run P w = .ok (.value v) w
theorem st_callX {f : FuncId} {x : Operand} {as : List Operand} {vs : List Value} {ats : Array TypeId} {first captured all : List Value} {v : Value}
    (hx : ev l x = some (.func (.func f) first.toArray captured.toArray)) (ha : evs l as = some vs) (hall : first ++ vs ++ captured = all)
    (hext : ExtV P f all v) (hn : Nat.blt d n = true) (hk : Go c n ((d, v) :: l) W (wpList P ops Q rest)) :
    Go c n l W (wpList P ops Q (⟨some d, .call { callee := .value x, args := as.toArray, argTypes := ats }, T, pos, after, none⟩ :: rest)) :=
  st_val rfl rfl hn (fun a w hA _ => by
    subst hall
    have := hext w
    simp only [execOp, resolve, hA.ev hx, Deferred.ofValue, List.map_toArray, hA.evs ha, Sem.run_bind, Sem.run_pure, Result.andThen_ok, invoke, List.append_toArray, this]) hk
end

/-! ## Sums and differences of words -/
def add64Entry' : Array Value → Sem Value := fun args => do
  let (x, y, c) ← Extern.MathBitsCarry.three "Add64" args
  pure (Extern.MathBitsCarry.pair ((x + y + c) % Extern.MathBitsCarry.m64) ((x + y + c) / Extern.MathBitsCarry.m64))
def sub64Entry' : Array Value → Sem Value := fun args => do
  let (x, y, b) ← Extern.MathBitsCarry.three "Sub64" args
  pure (Extern.MathBitsCarry.pair ((x + Extern.MathBitsCarry.m64 - y - b) % Extern.MathBitsCarry.m64) (if x < y + b then 1 else 0))
theorem run_add64' {P : Program} (x y b : Nat) (hb : b ≤ 1) (w : World) :
    (add64Entry' #[.int .u64 x, .int .u64 y, .int .u64 b]).run P w =
      .ok (.tuple #[.int .u64 (((x + y + b) % 18446744073709551616 : Nat) : Int), .int .u64 (((x + y + b) / 18446744073709551616 : Nat) : Int)]) w := by
  have : b = 0 ∨ b = 1 := by omega
  rcases this with rfl | rfl <;> rfl
theorem run_sub64' {P : Program} (x y b : Nat) (hb : b ≤ 1) (w : World) :
    (sub64Entry' #[.int .u64 x, .int .u64 y, .int .u64 b]).run P w =
      .ok (.tuple #[.int .u64 (((x + 18446744073709551616 - y - b) % 18446744073709551616 : Nat) : Int), .int .u64 ((if x < y + b then 1 else 0 : Nat) : Int)]) w := by
  have : b = 0 ∨ b = 1 := by omega
  rcases this with rfl | rfl <;> rfl
theorem ext_add64 {P : Program} {f : FuncId} {fn : Func} (hf : P.funcs[f]? = some fn) (hname : (fn.name == "runtime.NumGoroutine") = false)
    (hb : fn.body.isNone = true) (hn : Extern.findNext fn = none) (he : Extern.find fn = some add64Entry') (x y c : Nat) (hc : c ≤ 1) :
    ExtV P f [N .u64 x, N .u64 y, N .u64 c] (.tuple [N .u64 ((x + y + c) % 18446744073709551616), N .u64 ((x + y + c) / 18446744073709551616)].toArray) := fun w => by
  have := run_add64' (P := P) x y c hc w
  rw [run_callFunc_extern hf hname hb hn he]
  simp only [Int.ofNat_eq_natCast, N]
  rw [this]; rfl
theorem ext_sub64 {P : Program} {f : FuncId} {fn : Func} (hf : P.funcs[f]? = some fn) (hname : (fn.name == "runtime.NumGoroutine") = false)
    (hb : fn.body.isNone = true) (hn : Extern.findNext fn = none) (he : Extern.find fn = some sub64Entry') (x y c : Nat) (hc : c ≤ 1) :
    ExtV P f [N .u64 x, N .u64 y, N .u64 c] (.tuple [N .u64 ((x + 18446744073709551616 - y - c) % 18446744073709551616), N .u64 (if x < y + c then 1 else 0)].toArray) := fun w => by
  have := run_sub64' (P := P) x y c hc w
  rw [run_callFunc_extern hf hname hb hn he]
  simp only [Int.ofNat_eq_natCast, N]
  rw [this]; rfl
end Go.Proofs.Ytfhempgkdnecnaa.L
