/- The ways out of a block meet again in one family of states. No condition. -/
import Derived.Test.YtfhempgkdnecnaaAuto
namespace Go.Proofs.Ytfhempgkdnecnaa.L
open Go
theorem RdC.subC {c : Cx} {s : Value} {k : IntKind} {ys : List Nat} {lo hi : Nat} (h : RdC c s (ys.map (N k))) (h1 : lo ≤ hi) (h2 : hi ≤ ys.length) : RdC c (L.sub s lo hi) (((ys.take hi).drop lo).map (N k)) := by
  have hs := h.rd.sub (lo := lo) (hi := hi) h1 (by simpa using h2)
  have e : ((ys.map (N k)).take hi).drop lo = ((ys.take hi).drop lo).map (N k) := by rw [← List.map_take, ← List.map_drop]
  rw [e] at hs
  refine ⟨hs, fun i hi' => ?_⟩
  obtain ⟨a, cap, hse, hc, hn, hsp⟩ := h.rd.shape
  have hl : ((ys.take hi).drop lo).length = hi - lo := by simp; omega
  rw [List.length_map, hl] at hi'
  simp only [List.length_map] at hc hn hse
  have ho := h.out (lo + i) (by simp; omega)
  subst hse
  cases a with
  | none => have := (hn rfl).1; simp at this; subst this; simp at h2; omega
  | some a0 =>
    have hne : ¬ cap = lo := by omega
    have hb : ∀ (x : Addr) (j : Nat), (x.add j).block = x.block := fun x j => by unfold Addr.add; split <;> rfl
    simp only [ea, hb] at ho
    simp only [L.sub, if_neg hne, Option.map_some, ea, hb]
    exact ho
section
variable {P : Program} {c : Cx} {n : Nat} {l : Sl} {W : List Res} {B : Exit → Act → World → Prop} {k : List Fr}
theorem st_block_join {ι : Type} {id : Nat} {x : Code} (I : ι → Prop) (lm : ι → Sl) (Wm : ι → List Res)
    (h1 : Go c n l W (x.wp P (Af P B (.blk id :: .inv (Met c n I lm Wm) :: k))))
    (h2 : ∀ j, I j → Go c n (lm j) (Wm j) (Af P B k .normal)) : Go c n l W ((Code.block id x).wp P (Af P B k)) :=
  fun a w ha hw => wp_block (wp_mono (h1 a w ha hw) fun e a w hq => by
    have key : ∀ a w, Met c n I lm Wm a w → Af P B k .normal a w := fun a w ⟨j, hj, hA, hW⟩ => h2 j hj a w hA hW
    cases e with
    | exit id' =>
      simp only [Exit.inBlock]
      split
      · rename_i h; exact key _ _ (hq.1 h)
      · rename_i h; exact hq.2 h
    | normal => exact key _ _ hq
    | _ => exact hq)

variable {ops : Array Oper} {Q : Exit → Act → World → Prop} {rest : List Oper} {d : Nat} {T : TypeId} {pos : String} {after : Array Edge}
/-- A slice of one's own, moved upward within itself. -/
theorem st_copy_self {x y : Operand} {s : Value} {xs : List Value} {lo : Nat} {dT sT E U : TypeId} {R : List Res} (hx : ev l x = some (sub s lo xs.length)) (hy : ev l y = some s) (hf : Find W (.sl s xs U) R) (hlo : lo < xs.length)
    (ht : P.underlying dT = some (.slice E)) (hs : szOf P E = some 1) (hys : ∀ v ∈ xs, v.oneCell' = true) (hn : Nat.blt d n = true)
    (hk : Go c n ((d, N .i64 (xs.length - lo)) :: l) (.sl s (xs.take lo ++ xs.take (xs.length - lo)) U :: R) (wpList P ops Q rest)) :
    Go c n l W (wpList P ops Q (⟨some d, .call { callee := .builtin .copy, args := #[x, y], argTypes := #[dT, sT] }, T, pos, after, none⟩ :: rest)) :=
  st_op rfl rfl hn (Φ := fun u V => u = N .i64 (xs.length - lo) ∧ V = .sl s (xs.take lo ++ xs.take (xs.length - lo)) U :: R)
    (fun a w ha hw => by
      have hY := RdW.own (c := c) hf w hw
      have hw := hw.perm hf.perm
      rcases hw.holds _ (List.mem_cons_self ..) with ⟨rfl, rfl⟩ | ⟨b, off, cap, pre, post, fz, hs'⟩
      · simp at hlo
      · obtain ⟨rfl, g1, g2, g3, g4, g5⟩ := hs'
        have hfY := run_first (P := P) hY (k := xs.length - lo) (by omega)
        have hne : ¬ cap = lo := by omega
        have hfz : ¬ fz.1 < fz.2 ∨ (pre ++ xs ++ post).length ≤ fz.1 := by
          by_cases hf : fz.1 < fz.2
          · exact .inr (g5 (by omega))
          · exact .inl hf
        have hst : ∀ (vs : List Value) (i0 : Nat) (cur : List Value) (w : World), w.heap[b]? = some (.cells cur.toArray U fz) → cur.length = (pre ++ xs ++ post).length → off + lo + i0 + vs.length ≤ cur.length → (∀ v ∈ vs, v.oneCell' = true) →
            (storeCells ⟨b, off + lo, none⟩ vs i0).run P w = .ok () (w.setRow b (cur.take (off + lo + i0) ++ vs ++ cur.drop (off + lo + i0 + vs.length)).toArray) := by
          intro vs
          induction vs with
          | nil =>
            intro i0 cur w hh hl hle h1v
            simp only [List.append_nil, List.length_nil, Nat.add_zero, List.take_append_drop]
            rw [setRow_self w b _ U fz hh]; rfl
          | cons v r ih =>
            intro i0 cur w hh hl hle h1v
            simp only [List.length_cons] at hle
            have hlt : off + lo + i0 < cur.length := by omega
            have hcell : w.cell? ⟨b, off + lo + i0, none⟩ = some cur[off + lo + i0] := by simp [World.cell?, hh, hlt]
            have hfro : w.frozen? ⟨b, off + lo + i0, none⟩ = false := by
              simp only [World.frozen?, hh]
              rcases hfz with h | h
              · simp; omega
              · simp; omega
            have hs1 : (store ((⟨b, off + lo, none⟩ : Addr).add i0) v).run P w = .ok () (w.setRow b (cur.set (off + lo + i0) v).toArray) := by
              rw [add_pt, run_store P w _ v _ (h1v v (by simp)), hcell]
              simp [hfro, setCell_eq_setRow w b _ cur.toArray U fz v hh]
            have hr := ih (i0 + 1) (cur.set (off + lo + i0) v) (w.setRow b (cur.set (off + lo + i0) v).toArray) (setRow_heap w b _ _ U fz hh) (by simpa using hl) (by simp; omega) (fun u hu => h1v u (by simp [hu]))
            have e := list_seg_step cur (off + lo + i0) v r (by omega)
            simp only [storeCells, Sem.run_bind, hs1, Result.andThen_ok, hr, setRow_setRow]
            congr 3
        have htl : (xs.take (xs.length - lo)).length = xs.length - lo := by simp
        have hst' := hst (xs.take (xs.length - lo)) 0 (pre ++ xs ++ post) w g4 rfl (by rw [htl]; simp; omega) (fun v hv => hys v (List.mem_of_mem_take hv))
        rw [htl] at hst'
        have hcur : (pre ++ xs ++ post).take (off + lo + 0) ++ xs.take (xs.length - lo) ++ (pre ++ xs ++ post).drop (off + lo + 0 + (xs.length - lo)) = pre ++ (xs.take lo ++ xs.take (xs.length - lo)) ++ post := by
          subst g3
          rw [show pre.length + lo + 0 + (xs.length - lo) = (pre ++ xs).length by simp; omega, List.drop_left' rfl, Nat.add_zero, List.append_assoc pre xs, List.take_append, List.take_of_length_le (by omega), Nat.add_sub_cancel_left, List.take_append_of_le_length (by omega)]
          simp
        rw [hcur] at hst'
        have hl2 : (xs.take lo ++ xs.take (xs.length - lo)).length = xs.length := by simp; omega
        refine ⟨_, _, _, ?_, satW_setRow hw (r' := .sl (.slice (some ⟨b, off, none⟩) xs.length cap) (xs.take lo ++ xs.take (xs.length - lo)) U) rfl rfl g4 (fun w' h => .inr ⟨b, off, cap, pre, post, fz, by rw [hl2], by rw [hl2]; exact g1, by rw [hl2]; exact g2, g3, h, fun hf => by have := g5 (by omega); simp only [List.length_append, hl2] at this ⊢; exact this⟩), rfl, rfl⟩
        have hlenY : (Builtin.lenOf (Value.slice (some ⟨b, off, none⟩) xs.length cap)).run P w = .ok xs.length w := rfl
        have hmin : min xs.length (xs.length - lo) = xs.length - lo := by omega
        simp [execOp, ha.ev hx, ha.ev hy, resolve, invoke, builtin, Builtin.copy_, run_underlying ht, run_sizeOf hs, hlenY, sub, hne, add_pt, hmin, hfY, hst', goInt])
    (fun u V ⟨hu, hV⟩ => by subst hu; subst hV; exact hk)
theorem st_copy_selfN {x y : Operand} {s : Value} {kk : IntKind} {xs : List Nat} {lo : Nat} {dT sT E U : TypeId} {R : List Res} (hx : ev l x = some (sub s lo xs.length)) (hy : ev l y = some s) (hf : Find W (.sl s (xs.map (N kk)) U) R) (hlo : lo < xs.length)
    (ht : P.underlying dT = some (.slice E)) (hs : szOf P E = some 1) (hn : Nat.blt d n = true)
    (hk : Go c n ((d, N .i64 (xs.length - lo)) :: l) (.sl s ((xs.take lo ++ xs.take (xs.length - lo)).map (N kk)) U :: R) (wpList P ops Q rest)) :
    Go c n l W (wpList P ops Q (⟨some d, .call { callee := .builtin .copy, args := #[x, y], argTypes := #[dT, sT] }, T, pos, after, none⟩ :: rest)) :=
  st_copy_self (xs := xs.map (N kk)) (lo := lo) (by simpa using hx) hy hf (by simpa using hlo) ht hs (by simp [Value.oneCell']) hn (by simpa [List.map_take] using hk)
end
end Go.Proofs.Ytfhempgkdnecnaa.L
