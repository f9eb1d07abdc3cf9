/- A function whose body bears labels: no jump is made. No condition. -/
import Derived.Test.YtfhempgkdnecnaaAuto
import Derived.Scope
import Derived.Laws.Strings
namespace Go.Proofs.Ytfhempgkdnecnaa.L
open Go
section
variable {P : Program} {c : Cx} {n : Nat} {l : Sl} {W : List Res} {B Q : Exit → Act → World → Prop}
theorem st_scope0 {x : Code} (h : Go c n l W (x.wp P (Af P (Exit.noGoto B) []))) : Go c n l W ((Code.scope x).wp P (Af P B [])) :=
  fun a w ha hw => wp_scope_straight (wp_mono (h a w ha hw) fun e a w hq => by cases e <;> exact hq)
theorem st_ng_ret (h : Go c n l W (Q .ret)) : Go c n l W (Exit.noGoto Q .ret) := h
variable {ops : Array Oper} {rest : List Oper} {d : Nat} {T : TypeId} {pos : String} {after : Array Edge}
theorem st_udiv {k : IntKind} {m : Nat} {x y : Operand} {a0 b0 : Nat} {xt yt : TypeId} (hx : ev l x = some (N k a0)) (hy : ev l y = some (N k b0)) (hm : ub k = some m) (h0 : 0 < b0) (hb : a0 < m)
    (hn : Nat.blt d n = true) (hk : Go c n ((d, N k (a0 / b0)) :: l) W (wpList P ops Q rest)) :
    Go c n l W (wpList P ops Q (⟨some d, .binOp .quo xt x y yt, T, pos, after, none⟩ :: rest)) :=
  st_val rfl rfl hn (fun a w ha _ => by
    have e : (a0 : Int).tdiv b0 = ((a0 / b0 : Nat) : Int) := by rw [Int.tdiv_eq_ediv_of_nonneg (by omega)]; simp
    have hq : a0 / b0 ≤ a0 := Nat.div_le_self _ _
    have h : k.wrap ((a0 : Int) / (b0 : Int)) = (a0 : Int) / b0 := by
      have := ub_wrap_nat hm (a0 / b0)
      rw [Nat.mod_eq_of_lt (by omega)] at this
      simpa using this
    have hz' : ¬ (b0 = 0) := by omega
    simp [execOp, ha.ev hx, ha.ev hy, eqGuard, binOp, Op.intDiv, hz', e, h]) hk
theorem st_umod {k : IntKind} {x y : Operand} {a0 b0 : Nat} {xt yt : TypeId} (hx : ev l x = some (N k a0)) (hy : ev l y = some (N k b0)) (h0 : 0 < b0)
    (hn : Nat.blt d n = true) (hk : Go c n ((d, N k (a0 % b0)) :: l) W (wpList P ops Q rest)) :
    Go c n l W (wpList P ops Q (⟨some d, .binOp .rem xt x y yt, T, pos, after, none⟩ :: rest)) :=
  st_val rfl rfl hn (fun a w ha _ => by
    have e : (a0 : Int).tmod b0 = ((a0 % b0 : Nat) : Int) := by rw [Int.tmod_eq_emod_of_nonneg (by omega)]; simp
    have hz' : ¬ (b0 = 0) := by omega
    simp [execOp, ha.ev hx, ha.ev hy, eqGuard, binOp, Op.intDiv, hz', e]) hk
/-- A byte of a constant table of 256. -/
theorem st_index_tab {x y : Operand} {s : ByteArray} {k : IntKind} {i : Nat} {t : TypeId} (f : Nat → Nat) (hx : ev l x = some (.string s)) (hy : ev l y = some (N k i)) (ht : P.underlying t = some .string) (hi : i < 256) (hs : s.size = 256)
    (hv : (List.range 256).all (fun j => (s.data.getD j 0).toNat == f j) = true) (hn : Nat.blt d n = true) (hk : Go c n ((d, N .u8 (f i)) :: l) W (wpList P ops Q rest)) :
    Go c n l W (wpList P ops Q (⟨some d, .index t x y, T, pos, after, none⟩ :: rest)) :=
  st_val rfl rfl hn (fun a w ha _ => by
    have h := run_index_string (P := P) w t s k (Int.ofNat i) ht
    have h1 : (0 : Int) ≤ Int.ofNat i ∧ Int.ofNat i < s.size := ⟨Int.natCast_nonneg i, by rw [hs]; show (i : Int) < 256; omega⟩
    rw [dif_pos h1] at h
    have hf := List.all_eq_true.1 hv i (List.mem_range.2 hi)
    have e : (s[(Int.ofNat i).toNat]'(by have := h1.2; rw [hs] at this ⊢; simp at this ⊢; omega)).toNat = f i := by
      rw [← eq_of_beq hf]
      have hd : i < s.data.size := by have : s.data.size = s.size := rfl; omega
      rw [Array.getD_eq_getD_getElem?, Array.getElem?_eq_getElem hd]; rfl
    simp only [execOp, ha.ev hx, ha.ev hy, Sem.run_bind, h, Result.andThen_ok, e]; rfl) hk
theorem st_ng_normal (h : Go c n l W (Q .normal)) : Go c n l W (Exit.noGoto Q .normal) := h
end
end Go.Proofs.Ytfhempgkdnecnaa.L
