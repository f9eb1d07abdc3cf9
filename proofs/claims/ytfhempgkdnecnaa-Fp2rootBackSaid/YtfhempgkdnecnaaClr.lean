/- clear of a part of an array of one's own. No condition. -/
import Derived.Test.YtfhempgkdnecnaaMore
namespace Go.Proofs.Ytfhempgkdnecnaa.L
open Go
section
variable {P : Program} {c : Cx} {n : Nat} {l : Sl} {W : List Res} {ops : Array Oper} {Q : Exit → Act → World → Prop} {rest : List Oper}
variable {d : Nat} {T : TypeId} {pos : String} {after : Array Edge}
theorem st_doV {o : Oper} {W' : List Res} (hd : o.dst = none) (hg : o.guard = none)
    (h : ∀ a w, SatA n l a → SatW c W w → ∃ v w', (execOp a.eval o).run P w = .ok (.value v) w' ∧ SatW c W' w')
    (hk : Go c n l W' (wpList P ops Q rest)) : Go c n l W (wpList P ops Q (o :: rest)) := by
  intro a w ha hw
  obtain ⟨v, w', hr, hw'⟩ := h a w ha hw
  refine wpList_plain hg fun K hK => ?_
  show o.upon P a K Q ((execOp a.eval o).run P w)
  rw [hr]
  show K (a.put o.dst v) w'
  rw [hd]
  exact hK _ _ (hk _ _ ha hw')
theorem st_clear {x : Operand} {b m lo hi : Nat} {kk : IntKind} {cs : List Nat} {t E U : TypeId} {R : List Res} (hx : ev l x = some (subA b m lo hi)) (hf : Find W (.blk b (LV kk cs) U) R)
    (ht : P.underlying t = some (.slice E)) (hz : zrOf P E = some (N kk 0)) (hm : cs.length = m) (h1 : lo ≤ hi) (h2 : hi ≤ m)
    (hk : Go c n l (.blk b (LV kk (cs.take lo ++ List.replicate (hi - lo) 0 ++ cs.drop hi)) U :: R) (wpList P ops Q rest)) :
    Go c n l W (wpList P ops Q (⟨none, .call { callee := .builtin .clear, args := #[x], argTypes := #[t] }, T, pos, after, none⟩ :: rest)) :=
  st_doV rfl rfl (W' := .blk b (LV kk (cs.take lo ++ List.replicate (hi - lo) 0 ++ cs.drop hi)) U :: R)
    (fun a w ha hw => by
      have hw := hw.perm hf.perm
      have hh : w.heap[b]? = some (.cells (cs.map (N kk)).toArray U (0, 0)) := hw.holds _ (List.mem_cons_self ..)
      by_cases he : hi - lo = 0
      · have e1 : cs.take lo ++ List.replicate (hi - lo) 0 ++ cs.drop hi = cs := by
          rw [he, List.replicate_zero, List.append_nil, show hi = lo by omega, List.take_append_drop]
        rw [e1]
        refine ⟨.tuple #[], w, ?_, hw⟩
        simp [execOp, ha.ev hx, resolve, invoke, builtin, Builtin.clear_, run_underlying ht, subA, he]
      · have hml : ¬ m = lo := by omega
        have hzc : (Builtin.zeroCells (N kk 0).cells (hi - lo)).toList = List.replicate (hi - lo) (N kk 0) := by
          apply List.ext_getElem
          · simp [Builtin.zeroCells, Value.cells]
          · intro j h1' h2'
            simp [Builtin.zeroCells, Value.cells, Nat.mod_one]
        have hst := run_storeCells_blk (P := P) (off := lo) (vs := List.replicate (hi - lo) (N kk 0)) hh (by simp; omega) (fun v hv => by rw [List.eq_of_mem_replicate hv]; rfl)
        have e2 : (cs.map (N kk)).take lo ++ List.replicate (hi - lo) (N kk 0) ++ (cs.map (N kk)).drop (lo + (List.replicate (hi - lo) (N kk 0)).length) = (cs.take lo ++ List.replicate (hi - lo) 0 ++ cs.drop hi).map (N kk) := by
          rw [List.length_replicate, show lo + (hi - lo) = hi by omega]
          simp [List.map_append, List.map_take, List.map_drop]
        rw [e2] at hst
        refine ⟨.tuple #[], w.setRow b ((cs.take lo ++ List.replicate (hi - lo) 0 ++ cs.drop hi).map (N kk)).toArray, ?_, satW_setRow hw (r' := .blk b (LV kk (cs.take lo ++ List.replicate (hi - lo) 0 ++ cs.drop hi)) U) rfl rfl hh (fun w' h => by simp only [Res.holds, LV, Value.cells]; rw [h])⟩
        have hn0 : hi - lo ≠ 0 := he
        obtain ⟨k, hk⟩ : ∃ k, hi - lo = k + 1 := ⟨hi - lo - 1, by omega⟩
        rw [hk] at hst hzc
        simp [execOp, ha.ev hx, resolve, invoke, builtin, Builtin.clear_, run_underlying ht, subA, if_neg hml, hk, run_zero hz, hzc, hst]) hk
end
end Go.Proofs.Ytfhempgkdnecnaa.L
