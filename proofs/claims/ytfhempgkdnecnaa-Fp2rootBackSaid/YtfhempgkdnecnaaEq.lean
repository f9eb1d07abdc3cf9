/- Arrays of numbers compared. Conditions: as each statement says. -/
import Derived.Test.YtfhempgkdnecnaaCall
import Derived.Laws.StructEq
namespace Go.Proofs.Ytfhempgkdnecnaa.L
open Go Go.Proofs
variable {P : Program}

theorem run_part1 {w : World} {E : TypeId} {k : IntKind} (hE : P.underlying E = some (.int k)) (hz : szOf P E = some 1) (xs : List Nat) (i : Nat) (hi : i < xs.length) :
    (part E (xs.map (N k)).toArray i).run P w = .ok (N k (xs.getD i 0)) w := by
  have hs : scal P E = true := by unfold scal; rw [hE]
  unfold part
  simp [run_isAgg_f hs, run_sizeOf hz, hi]

theorem run_arrEq {w : World} (d : Nat) {t E : TypeId} {k : IntKind} {m : Nat} (ht : P.underlying t = some (.array m E)) (hE : P.underlying E = some (.int k)) (hz : szOf P E = some 1)
    (xs ys : List Nat) (hx : xs.length = m) (hy : ys.length = m) : (Op.equalIn (d + 2) t (LV k xs) (LV k ys)).run P w = .ok (decide (xs = ys)) w := by
  rw [Op.equalIn]
  simp only [LV, Sem.run_bind, run_underlying ht, Result.andThen_ok, run_sizeOf hz, Nat.mul_one]
  rw [Std.Legacy.Range.forIn_eq_forIn_range']
  simp only [Std.Legacy.Range.size, Nat.sub_zero, Nat.add_sub_cancel, Nat.div_one]
  have key : ∀ n s, s + n = m → ((Sem.run P (forIn (List.range' s n 1) (none, ()) fun i __s => do
        let a ← part E (List.map (N k) xs).toArray i
        let b ← part E (List.map (N k) ys).toArray i
        let r ← Op.equalIn (d + 1) E a b
        if (!r) = true then pure (ForInStep.done (some false, ())) else pure (ForInStep.yield (none, ()))) w).andThen fun r w1 => Sem.run P (match r.fst with | none => pure true | some a => pure a) w1) = .ok (decide (xs.drop s = ys.drop s)) w := by
    intro n
    induction n with
    | zero =>
      intro s hs
      simp [List.drop_eq_nil_of_le (show xs.length ≤ s by omega), List.drop_eq_nil_of_le (show ys.length ≤ s by omega)]
    | succ n ih =>
      intro s hs
      have hxs : s < xs.length := by omega
      have hys : s < ys.length := by omega
      rw [List.range'_succ, List.forIn_cons]
      simp only [Sem.run_bind, run_part1 hE hz xs s hxs, run_part1 hE hz ys s hys, Result.andThen_ok, N, run_equalIn_int w d E k k _ _ hE]
      have g1 : xs.getD s 0 = xs[s] := by simp [List.getD_eq_getElem?_getD, hxs]
      have g2 : ys.getD s 0 = ys[s] := by simp [List.getD_eq_getElem?_getD, hys]
      have hd : decide (xs.drop s = ys.drop s) = (decide (xs[s] = ys[s]) && decide (xs.drop (s + 1) = ys.drop (s + 1))) := by
        rw [List.drop_eq_getElem_cons hxs, List.drop_eq_getElem_cons hys, ← Bool.decide_and]
        exact decide_eq_decide.mpr (by rw [List.cons.injEq])
      rw [g1, g2, hd]
      by_cases he : xs[s] = ys[s]
      · have h1 : (Int.ofNat xs[s] == Int.ofNat ys[s]) = true := by rw [he]; simp
        rw [h1, decide_eq_true he, Bool.true_and]
        exact ih (s + 1) (by omega)
      · have h1 : (Int.ofNat xs[s] == Int.ofNat ys[s]) = false := by
          rw [beq_eq_false_iff_ne]; intro h; exact he (Int.ofNat.inj h)
        rw [h1, decide_eq_false he, Bool.false_and]
        rfl
  have := key m 0 (by omega)
  simp only [List.drop_zero] at this
  rw [← this]
  congr 1
  funext a w'
  cases a.fst <;> rfl

variable {c : Cx} {n : Nat} {l : Sl} {W : List Res} {ops : Array Oper} {Q : Exit → Act → World → Prop} {rest : List Oper}
variable {d : Nat} {T : TypeId} {pos : String} {after : Array Edge}
theorem st_eqArr {k : IntKind} {x y : Operand} {xs ys : List Nat} {m : Nat} {xt yt E : TypeId} (hx : ev l x = some (LV k xs)) (hy : ev l y = some (LV k ys)) (ht : P.underlying xt = some (.array m E))
    (hE : P.underlying E = some (.int k)) (hz : szOf P E = some 1) (hg : P.eqGuardType P.depth xt = false) (hlx : xs.length = m) (hly : ys.length = m) (hn : Nat.blt d n = true)
    (hk : Go c n ((d, .bool (decide (xs = ys))) :: l) W (wpList P ops Q rest)) :
    Go c n l W (wpList P ops Q (⟨some d, .binOp .eql xt x y yt, T, pos, after, none⟩ :: rest)) :=
  st_val rfl rfl hn (fun a w ha _ => by
    have h1 := run_arrEq (w := w) 9998 ht hE hz xs ys hlx hly
    have h2 := run_eqGuard_agg (P := P) w .eql xt x y (xs.map (N k)).toArray (ys.map (N k)).toArray hg
    have h3 := run_eql_struct (P := P) w xt (xs.map (N k)).toArray (ys.map (N k)).toArray
    simp only [LV] at h1 hx hy
    rw [h1] at h3
    simp only [execOp, ha.ev hx, ha.ev hy, Sem.run_bind, h2, Result.andThen_ok, h3, Sem.run_pure]) hk
theorem st_neArr {k : IntKind} {x y : Operand} {xs ys : List Nat} {m : Nat} {xt yt E : TypeId} (hx : ev l x = some (LV k xs)) (hy : ev l y = some (LV k ys)) (ht : P.underlying xt = some (.array m E))
    (hE : P.underlying E = some (.int k)) (hz : szOf P E = some 1) (hg : P.eqGuardType P.depth xt = false) (hlx : xs.length = m) (hly : ys.length = m) (hn : Nat.blt d n = true)
    (hk : Go c n ((d, .bool (!decide (xs = ys))) :: l) W (wpList P ops Q rest)) :
    Go c n l W (wpList P ops Q (⟨some d, .binOp .neq xt x y yt, T, pos, after, none⟩ :: rest)) :=
  st_val rfl rfl hn (fun a w ha _ => by
    have h1 := run_arrEq (w := w) 9998 ht hE hz xs ys hlx hly
    have h2 := run_eqGuard_agg (P := P) w .neq xt x y (xs.map (N k)).toArray (ys.map (N k)).toArray hg
    have h3 := run_neq_struct (P := P) w xt (xs.map (N k)).toArray (ys.map (N k)).toArray
    simp only [LV] at h1 hx hy
    rw [h1] at h3
    simp only [execOp, ha.ev hx, ha.ev hy, Sem.run_bind, h2, Result.andThen_ok, h3, Sem.run_pure]) hk
theorem st_eqSame {k : IntKind} {x y : Operand} {xs : List Nat} {m : Nat} {xt yt E : TypeId} (hx : ev l x = some (LV k xs)) (hy : ev l y = some (LV k xs)) (ht : P.underlying xt = some (.array m E))
    (hE : P.underlying E = some (.int k)) (hz : szOf P E = some 1) (hg : P.eqGuardType P.depth xt = false) (hlx : xs.length = m) (hn : Nat.blt d n = true)
    (hk : Go c n ((d, .bool true) :: l) W (wpList P ops Q rest)) :
    Go c n l W (wpList P ops Q (⟨some d, .binOp .eql xt x y yt, T, pos, after, none⟩ :: rest)) :=
  st_eqArr hx hy ht hE hz hg hlx hlx hn (by rw [decide_eq_true rfl]; exact hk)
/-- A block is marked behind its cells. -/
theorem run_mark {w : World} {b off : Nat} {C : Array Value} {T : TypeId} {fz : Nat × Nat} (h : w.heap[b]? = some (.cells C T fz)) :
    (markStringish ⟨b, off, none⟩).run P w = .ok () (w.freeze ⟨b, C.size, none⟩ 1) := by
  have hsh : w.shape? b = some (T, C.size) := by unfold World.shape?; rw [h]
  simp [markStringish, hsh]
theorem freeze_heap {w : World} {b k : Nat} {C : Array Value} {T : TypeId} {fz : Nat × Nat} (h : w.heap[b]? = some (.cells C T fz)) :
    (w.freeze ⟨b, k, none⟩ 1).heap[b]? = some (.cells C T (if fz.1 == fz.2 then (k, k + 1) else (min fz.1 k, max fz.2 (k + 1)))) := by
  obtain ⟨lo, hi⟩ := fz
  unfold World.freeze
  rw [if_neg (by decide)]
  obtain ⟨hb, hg⟩ := Array.getElem?_eq_some_iff.mp h
  simp [Array.getElem_modify, hb, hg]
theorem freeze_other {w : World} {b k j : Nat} (h : j ≠ b) : (w.freeze ⟨b, k, none⟩ 1).heap[j]? = w.heap[j]? := by
  unfold World.freeze
  rw [if_neg (by decide)]
  simp [Array.getElem?_modify, Ne.symm h]
theorem st_conv_sl {x : Operand} {s : Value} {xs : List Value} {t E U : TypeId} {R : List Res} (hx : ev l x = some s) (hf : Find W (.sl s xs U) R) (h0 : 0 < xs.length)
    (ht : P.underlying t = some (.slice E)) (hE : P.underlying E = some (.int .u8)) (hn : Nat.blt d n = true)
    (hk : Go c n ((d, s) :: l) (.sl s xs U :: R) (wpList P ops Q rest)) :
    Go c n l W (wpList P ops Q (⟨some d, .convert t t x, T, pos, after, none⟩ :: rest)) :=
  st_op rfl rfl hn (Φ := fun u V => u = s ∧ V = .sl s xs U :: R) (fun a w ha hw => by
    have hw := hw.perm hf.perm
    rcases hw.holds _ (List.mem_cons_self ..) with ⟨rfl, rfl⟩ | ⟨b, off, cap, pre, post, fz, hs⟩
    · simp at h0
    · obtain ⟨rfl, h1, h2, h3, h4, h5⟩ := hs
      have hm := run_mark (P := P) (off := off) h4
      have hf := freeze_heap (k := (pre ++ xs ++ post).toArray.size) h4
      refine ⟨_, w.freeze ⟨b, (pre ++ xs ++ post).toArray.size, none⟩ 1, _, ?_, hw.upd (r' := .sl (.slice (some ⟨b, off, none⟩) xs.length cap) xs U) rfl ⟨rfl, rfl, rfl, by simp [World.freeze], fun k _ hs => freeze_other (by simpa [Res.fp] using hs)⟩ (.inr ⟨b, off, cap, pre, post, _, rfl, h1, h2, h3, hf, ?_⟩), rfl, rfl⟩
      · simp [execOp, ha.ev hx, convert, run_underlying ht, run_underlying hE, hm]
      · intro hne
        by_cases he : fz.1 = fz.2
        · simp [he]
        · have := h5 he
          have e : (fz.1 == fz.2) = false := by simpa using he
          rw [e]
          simp at this ⊢; omega) (fun u V ⟨hu, hV⟩ => by subst hu; subst hV; exact hk)
end Go.Proofs.Ytfhempgkdnecnaa.L
