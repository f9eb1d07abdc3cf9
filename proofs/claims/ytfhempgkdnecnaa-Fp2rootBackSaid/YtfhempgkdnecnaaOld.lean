/- Variables that a callee finds and only reads. Conditions: as each statement says. -/
import Derived.Test.YtfhempgkdnecnaaMore
import Derived.Test.YtfhempgkdnecnaaFld
namespace Go.Proofs.Ytfhempgkdnecnaa.L
open Go Go.Proofs

/-- What a world's block holds. -/
def HasB (w : World) (b : Nat) (v : Value) (U : TypeId) : Prop := w.heap[b]? = some (.cells v.cells U (0, 0))
structure OldB (c : Cx) (b : Nat) (v : Value) (U : TypeId) : Prop where
  has : HasB c.w0 b v U
  out : b ∉ c.S
theorem HasB.lt {w : World} {b : Nat} {v : Value} {U : TypeId} (h : HasB w b v U) : b < w.heap.size := by
  rcases Nat.lt_or_ge b w.heap.size with h1 | h1
  · exact h1
  · unfold HasB at h; rw [Array.getElem?_eq_none h1] at h; cases h
theorem OldB.mk0 {w : World} {b : Nat} {v : Value} {U : TypeId} (h : HasB w b v U) : OldB ⟨w, fps []⟩ b v U := ⟨h, by simp [fps]⟩
theorem OldB.now {c : Cx} {b : Nat} {v : Value} {U : TypeId} {W : List Res} (h : OldB c b v U) : ∀ w, SatW c W w → HasB w b v U := fun w hw => by
  have := hw.ext.block b h.has.lt h.out
  unfold HasB
  rw [this]; exact h.has
theorem OldB.shift {c : Cx} {b : Nat} {v : Value} {U : TypeId} {W : List Res} {w0 : World} (h : OldB c b v U) (h0 : SatW c W w0) : OldB ⟨w0, fps W⟩ b v U :=
  ⟨h.now w0 h0, fun hm => by
    rcases h0.own b hm with h1 | h1
    · have := h.has.lt; omega
    · exact h.out h1⟩
theorem HasB.own {c : Cx} {b : Nat} {v : Value} {U : TypeId} {W R : List Res} (h : Find W (.blk b v U) R) : ∀ w, SatW c W w → HasB w b v U := fun _ hw => hw.holds _ h.mem

section
variable {P : Program} {c : Cx} {n : Nat} {l : Sl} {W : List Res} {ops : Array Oper} {Q : Exit → Act → World → Prop} {rest : List Oper}
variable {d : Nat} {T : TypeId} {pos : String} {after : Array Edge}
theorem st_ldo {x : Operand} {b off m : Nat} {k : IntKind} {ys zs : List Nat} {E U : TypeId} (hx : ev l x = some (pt b off)) (ho : OldB c b (LV k ys) U) (hs : aggT P E = true) (hz : szOf P E = some m)
    (hp : PartAt ys off m zs) (hn : Nat.blt d n = true)
    (hk : Go c n ((d, LV k zs) :: l) W (wpList P ops Q rest)) : Go c n l W (wpList P ops Q (⟨some d, .load E x, T, pos, after, none⟩ :: rest)) :=
  st_val rfl rfl hn (fun a w ha hw => by
    have hh : w.heap[b]? = some (.cells (ys.map (N k)).toArray U (0, 0)) := ho.now w hw
    have hl : zs.length = m := by obtain ⟨_, _, _, _, h⟩ := hp; exact h
    have := run_loadVar_a (P := P) (w := w) (b := b) (off := off) (cs := zs.map (N k)) hs (by simpa [hl] using hz) hh (fun j v hv => by
      have := (hp.map (N k)).get j v hv
      simpa using this)
    simp [execOp, ha.ev hx, Instr.loadAt, Instr.sureAddr, this, LV]) hk
end
end Go.Proofs.Ytfhempgkdnecnaa.L
