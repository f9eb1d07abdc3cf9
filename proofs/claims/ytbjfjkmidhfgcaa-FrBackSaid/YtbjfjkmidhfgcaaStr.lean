/- Bytes as a string, and equal strings. No condition. -/
import Derived.Test.YtbjfjkmidhfgcaaMore
import Derived.Laws.BytesArg
namespace Go.Proofs.Ytbjfjkmidhfgcaa.L
open Go
section
variable {P : Program} {c : Cx} {n : Nat} {l : Sl} {W : List Res} {ops : Array Oper} {Q : Exit → Act → World → Prop} {rest : List Oper}
variable {d : Nat} {T : TypeId} {pos : String} {after : Array Edge}
def STR (xs : List Nat) : Value := .string (strOfNums (xs.map Int.ofNat))
theorem st_conv_str {x : Operand} {s : Value} {xs : List Nat} {t u E : TypeId} (hx : ev l x = some s) (ht : P.underlying t = some (.slice E)) (hE : P.underlying E = some (.int .u8)) (hu : P.underlying u = some .string)
    (hr : RdW c W s (xs.map (N .u8))) (hn : Nat.blt d n = true) (hk : Go c n ((d, STR xs) :: l) W (wpList P ops Q rest)) :
    Go c n l W (wpList P ops Q (⟨some d, .convert t u x, T, pos, after, none⟩ :: rest)) :=
  st_val rfl rfl hn (fun a w ha hw => by
    have hR := hr w hw
    obtain ⟨a0, cap, hs, h1, h2, h3⟩ := hR.shape
    subst hs
    have hlm : (xs.map (N .u8)).length = xs.length := by simp
    have hv : (convert t u (.slice a0 (xs.map (N .u8)).length cap)).run P w = .ok (STR xs) w := by
      cases a0 with
      | none =>
        obtain ⟨h, _⟩ := h2 rfl
        have : xs = [] := by simpa using h
        subst this
        exact run_convert_bytes_nil (w := w) t E ht hE _ _ u hu
      | some a1 =>
        have hsp := h3 a1 rfl
        obtain ⟨b, off, sp⟩ := a1
        simp only at hsp; subst hsp
        rw [hlm]
        refine run_convert_bytes_arg w t E ht hE b off xs.length cap (xs.map Int.ofNat) (by simp) (fun i hi => ?_) u hu
        have := hR.cells i (N .u8 (xs.getD i 0)) (by simp [List.getD_eq_getElem?_getD, hi])
        simp only [ea, add_pt] at this
        rw [this]
        simp [List.getD_eq_getElem?_getD, hi]
    simp only [execOp, ha.ev hx, Sem.run_bind, hv, Result.andThen_ok, Sem.run_pure]) hk
theorem st_eqstr {x y : Operand} {b : ByteArray} {xt yt : TypeId} (hx : ev l x = some (.string b)) (hy : ev l y = some (.string b))
    (hn : Nat.blt d n = true) (hk : Go c n ((d, .bool true) :: l) W (wpList P ops Q rest)) :
    Go c n l W (wpList P ops Q (⟨some d, .binOp .eql xt x y yt, T, pos, after, none⟩ :: rest)) :=
  st_val rfl rfl hn (fun a w ha _ => by
    simp [execOp, ha.ev hx, ha.ev hy, eqGuard, binOp, Op.stringOp]) hk
theorem st_neSame {k : IntKind} {x y : Operand} {xs : List Nat} {m : Nat} {xt yt E : TypeId} (hx : ev l x = some (LV k xs)) (hy : ev l y = some (LV k xs)) (ht : P.underlying xt = some (.array m E))
    (hE : P.underlying E = some (.int k)) (hz : szOf P E = some 1) (hg : P.eqGuardType P.depth xt = false) (hl : xs.length = m) (hn : Nat.blt d n = true)
    (hk : Go c n ((d, .bool false) :: l) W (wpList P ops Q rest)) :
    Go c n l W (wpList P ops Q (⟨some d, .binOp .neq xt x y yt, T, pos, after, none⟩ :: rest)) :=
  st_neArr hx hy ht hE hz hg hl hl hn (by rw [decide_eq_true (rfl : xs = xs)]; exact hk)
end
end Go.Proofs.Ytbjfjkmidhfgcaa.L
