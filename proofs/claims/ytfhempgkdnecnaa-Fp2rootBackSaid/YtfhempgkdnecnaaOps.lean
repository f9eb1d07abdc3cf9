/- The steps of the small program logic: one lemma an operation. No condition. -/
import Derived.WalkKit
import Derived.Test.YtfhempgkdnecnaaLogic
namespace Go.Proofs.Ytfhempgkdnecnaa.L
open Go

/-- A number of kind k that is not negative. -/
@[reducible] def N (k : IntKind) (n : Nat) : Value := .int k (Int.ofNat n)

section ops
variable {P : Program} {c : Cx} {n : Nat} {l : Sl} {W : List Res} {ops : Array Oper} {Q : Exit → Act → World → Prop} {rest : List Oper}

theorem st_op {o : Oper} {d : Nat} (hd : o.dst = some d) (hg : o.guard = none) (hn : Nat.blt d n = true) {Φ : Value → List Res → Prop}
    (h : ∀ a w, SatA n l a → SatW c W w → ∃ v w' W', (execOp a.eval o).run P w = .ok (.value v) w' ∧ SatW c W' w' ∧ Φ v W')
    (hk : ∀ v W', Φ v W' → Go c n ((d, v) :: l) W' (wpList P ops Q rest)) : Go c n l W (wpList P ops Q (o :: rest)) := by
  intro a w ha hw
  obtain ⟨v, w', W', hr, hw', hp⟩ := h a w ha hw
  refine wpList_plain hg fun K hK => ?_
  show o.upon P a K Q ((execOp a.eval o).run P w)
  rw [hr]
  show K (a.put o.dst v) w'
  rw [hd]
  exact hK _ _ (hk v W' hp _ _ (ha.put hn) hw')

theorem st_val {o : Oper} {d : Nat} {v : Value} (hd : o.dst = some d) (hg : o.guard = none) (hn : Nat.blt d n = true)
    (h : ∀ a w, SatA n l a → SatW c W w → (execOp a.eval o).run P w = .ok (.value v) w)
    (hk : Go c n ((d, v) :: l) W (wpList P ops Q rest)) : Go c n l W (wpList P ops Q (o :: rest)) :=
  st_op hd hg hn (Φ := fun u V => u = v ∧ V = W) (fun a w ha hw => ⟨v, w, W, h a w ha hw, hw, rfl, rfl⟩)
    (fun u V ⟨hu, hV⟩ => by subst hu; subst hV; exact hk)

/-- An operation without a result that writes. -/
theorem st_do {o : Oper} {W' : List Res} (hd : o.dst = none) (hg : o.guard = none)
    (h : ∀ a w, SatA n l a → SatW c W w → ∃ w', (execOp a.eval o).run P w = .ok .skip w' ∧ SatW c W' w')
    (hk : Go c n l W' (wpList P ops Q rest)) : Go c n l W (wpList P ops Q (o :: rest)) := by
  intro a w ha hw
  obtain ⟨w', hr, hw'⟩ := h a w ha hw
  refine wpList_plain hg fun K hK => ?_
  show o.upon P a K Q ((execOp a.eval o).run P w)
  rw [hr]
  show K (a.put o.dst undef) w'
  rw [hd]
  exact hK _ _ (hk _ _ ha hw')

section shapes
variable {d : Nat} {T : TypeId} {pos : String} {after : Array Edge}

/-! ### Guards -/
theorem st_guard {op : Op} {j t : Nat} {want : Bool} {p : Prop} {inst : Decidable p} (hj : (ops[j]?).bind (·.dst) = some t)
    (ht : lk l t = some (.bool (@decide p inst))) (hn : Nat.blt d n = true)
    (hy : (decide p = want) → Go c n ((t, .bool want) :: l) W (wpList P ops Q (⟨some d, op, T, pos, after, none⟩ :: rest)))
    (hno : (decide p = !want) → Go c n ((d, undef) :: (t, .bool !want) :: l) W (wpList P ops Q rest)) :
    Go c n l W (wpList P ops Q (⟨some d, op, T, pos, after, some (j, want)⟩ :: rest)) := by
  intro a w ha hw
  have htm := ha.at_ _ _ ht
  have hyl : yielded ops a.tmps j = some (decide p) := by
    unfold yielded; rw [hj]; simp [htm]
  by_cases hp : decide p = want
  · have hs : subL ((t, Value.bool want) :: l) l := fun u x hx => by
      simp only [lk] at hx
      by_cases hc : t = u
      · subst hc; simp at hx; subst hx; rw [← hp]; exact ht
      · rw [beq_ne hc] at hx; exact hx
    have := hy hp a w ⟨ha.dfr, ha.sz, fun u x hx => ha.at_ u x (hs u x hx)⟩ hw
    simp only [wpList] at this ⊢
    rw [if_pos (by simp [Region.wanted])] at this
    rw [if_pos (by simp [Region.wanted, hyl, hp])]
    exact this
  · have hp' : decide p = !want := by revert hp; cases decide p <;> cases want <;> simp
    have hs : subL ((t, Value.bool !want) :: l) l := fun u x hx => by
      simp only [lk] at hx
      by_cases hc : t = u
      · subst hc; simp at hx; subst hx; rw [← hp']; exact ht
      · rw [beq_ne hc] at hx; exact hx
    have := hno hp' _ w (SatA.put (v := undef) ⟨ha.dfr, ha.sz, fun u x hx => ha.at_ u x (hs u x hx)⟩ hn) hw
    simp only [wpList]
    rw [if_neg (by simp [Region.wanted, hyl, hp])]
    exact this
/-- The guard's outcome is known. -/
theorem st_guard_yes {op : Op} {j t : Nat} {want : Bool} (hj : (ops[j]?).bind (·.dst) = some t)
    (ht : lk l t = some (.bool want)) (hy : Go c n l W (wpList P ops Q (⟨some d, op, T, pos, after, none⟩ :: rest))) :
    Go c n l W (wpList P ops Q (⟨some d, op, T, pos, after, some (j, want)⟩ :: rest)) := by
  intro a w ha hw
  have htm := ha.at_ _ _ ht
  have hyl : yielded ops a.tmps j = some want := by unfold yielded; rw [hj]; simp [htm]
  have := hy a w ha hw
  simp only [wpList] at this ⊢
  rw [if_pos (by simp [Region.wanted])] at this
  rw [if_pos (by simp [Region.wanted, hyl])]
  exact this
theorem st_guard_no {op : Op} {j t : Nat} {want : Bool} (hj : (ops[j]?).bind (·.dst) = some t)
    (ht : lk l t = some (.bool !want)) (hn : Nat.blt d n = true) (hno : Go c n ((d, undef) :: l) W (wpList P ops Q rest)) :
    Go c n l W (wpList P ops Q (⟨some d, op, T, pos, after, some (j, want)⟩ :: rest)) := by
  intro a w ha hw
  have htm := ha.at_ _ _ ht
  have hyl : yielded ops a.tmps j = some (!want) := by unfold yielded; rw [hj]; simp [htm]
  have := hno _ w (ha.put (v := undef) hn) hw
  simp only [wpList]
  rw [if_neg (by simp [Region.wanted, hyl])]
  exact this
/-- The guard's guard said no: the slot that it asks was never written. -/
theorem st_guard_un {op : Op} {j t : Nat} {want : Bool} (hj : (ops[j]?).bind (·.dst) = some t)
    (ht : lk l t = some undef) (hn : Nat.blt d n = true) (hno : Go c n ((d, undef) :: l) W (wpList P ops Q rest)) :
    Go c n l W (wpList P ops Q (⟨some d, op, T, pos, after, some (j, want)⟩ :: rest)) := by
  intro a w ha hw
  have htm := ha.at_ _ _ ht
  have hyl : yielded ops a.tmps j = none := by unfold yielded; rw [hj]; simp [htm, undef]
  have := hno _ w (ha.put (v := undef) hn) hw
  simp only [wpList]
  rw [if_neg (by simp [Region.wanted, hyl])]
  exact this

/-! ### Moves -/
theorem st_move {x : Operand} {v : Value} (hx : ev l x = some v) (hn : Nat.blt d n = true) (hk : Go c n ((d, v) :: l) W (wpList P ops Q rest)) :
    Go c n l W (wpList P ops Q (⟨some d, .move x, T, pos, after, none⟩ :: rest)) :=
  st_val rfl rfl hn (fun a w ha _ => by show Result.ok (Next.value (a.eval x)) w = _; rw [ha.ev hx]) hk
theorem st_assign {x : Operand} {v : Value} (hx : ev l x = some v) (hn : Nat.blt d n = true) (hk : Go c n ((d, v) :: l) W (wpList P ops Q rest)) :
    Go c n l W (wpList P ops Q (⟨some d, .assign x, T, pos, after, none⟩ :: rest)) :=
  st_val rfl rfl hn (fun a w ha _ => by show Result.ok (Next.value (a.eval x)) w = _; rw [ha.ev hx]) hk
theorem st_pick_t {x y z : Operand} {v : Value} (hc : ev l x = some (.bool true)) (hy : ev l y = some v) (hn : Nat.blt d n = true)
    (hk : Go c n ((d, v) :: l) W (wpList P ops Q rest)) : Go c n l W (wpList P ops Q (⟨some d, .pick x y z, T, pos, after, none⟩ :: rest)) :=
  st_val rfl rfl hn (fun a w ha _ => by simp [execOp, ha.ev hc, ha.ev hy, asBool]) hk
theorem st_pick_f {x y z : Operand} {v : Value} (hc : ev l x = some (.bool false)) (hz : ev l z = some v) (hn : Nat.blt d n = true)
    (hk : Go c n ((d, v) :: l) W (wpList P ops Q rest)) : Go c n l W (wpList P ops Q (⟨some d, .pick x y z, T, pos, after, none⟩ :: rest)) :=
  st_val rfl rfl hn (fun a w ha _ => by simp [execOp, ha.ev hc, ha.ev hz, asBool]) hk
theorem st_extract {x : Operand} {i : Nat} {vs : List Value} {v : Value} (hx : ev l x = some (.tuple vs.toArray)) (hv : vs[i]? = some v) (hn : Nat.blt d n = true)
    (hk : Go c n ((d, v) :: l) W (wpList P ops Q rest)) : Go c n l W (wpList P ops Q (⟨some d, .extract x i, T, pos, after, none⟩ :: rest)) :=
  st_val rfl rfl hn (fun a w ha _ => by simp [execOp, ha.ev hx, Instr.extract, hv]) hk
theorem st_nilCheck {x : Operand} {a0 : Addr} (hx : ev l x = some (.pointer (some a0))) (hn : Nat.blt d n = true)
    (hk : Go c n ((d, .pointer (some a0)) :: l) W (wpList P ops Q rest)) : Go c n l W (wpList P ops Q (⟨some d, .nilCheck x, T, pos, after, none⟩ :: rest)) :=
  st_val rfl rfl hn (fun a w ha _ => by simp [execOp, ha.ev hx]) hk
theorem st_nilCheck_f {x : Operand} {f : FuncId} {as bs : Array Value} (hx : ev l x = some (.func (.func f) as bs)) (hn : Nat.blt d n = true)
    (hk : Go c n ((d, .func (.func f) as bs) :: l) W (wpList P ops Q rest)) : Go c n l W (wpList P ops Q (⟨some d, .nilCheck x, T, pos, after, none⟩ :: rest)) :=
  st_val rfl rfl hn (fun a w ha _ => by simp [execOp, ha.ev hx]) hk
theorem st_makeFunc {f : Fn} {xs ys : List Operand} {us vs : List Value} (hx : evs l xs = some us) (hy : evs l ys = some vs) (hn : Nat.blt d n = true)
    (hk : Go c n ((d, .func f us.toArray vs.toArray) :: l) W (wpList P ops Q rest)) :
    Go c n l W (wpList P ops Q (⟨some d, .makeFunc f xs.toArray ys.toArray, T, pos, after, none⟩ :: rest)) :=
  st_val rfl rfl hn (fun a w ha _ => by simp [execOp, Instr.makeFunc, ha.evs hx, ha.evs hy]) hk

/-! ### Unsigned arithmetic -/
def ub : IntKind → Option Nat
  | .u8 => some 256
  | .u16 => some 65536
  | .u32 => some 4294967296
  | .u64 => some 18446744073709551616
  | _ => none
theorem ub_pow {k : IntKind} {m : Nat} (h : ub k = some m) : m = 2 ^ k.bits := by cases k <;> simp [ub] at h <;> subst h <;> rfl
theorem ub_wrap {k : IntKind} {m : Nat} (h : ub k = some m) (x : Int) : k.wrap x = x % (m : Int) := by
  cases k <;> simp [ub] at h <;> subst h <;> simp [IntKind.wrap, IntKind.bits, IntKind.signed]
theorem ub_wrap_nat {k : IntKind} {m : Nat} (h : ub k = some m) (x : Nat) : k.wrap (x : Int) = Int.ofNat (x % m) := by
  rw [ub_wrap h]; rfl
theorem ub_ofInt {k : IntKind} (x : Nat) : (BitVec.ofInt k.bits (Int.ofNat x)).toNat = x % 2 ^ k.bits := by
  simp

theorem ones_xor (w x : Nat) (h : x < 2 ^ w) : (2 ^ w - 1) ^^^ x = 2 ^ w - 1 - x := by
  have e : ((BitVec.allOnes w) ^^^ BitVec.ofNat w x).toNat = (~~~ BitVec.ofNat w x).toNat := by rw [BitVec.allOnes_xor]
  rw [BitVec.toNat_xor, BitVec.toNat_not, BitVec.toNat_allOnes, BitVec.toNat_ofNat, Nat.mod_eq_of_lt h] at e
  exact e

theorem st_add {k : IntKind} {m : Nat} {x y : Operand} {a0 b0 : Nat} {xt yt : TypeId} (hx : ev l x = some (N k a0)) (hy : ev l y = some (N k b0)) (hm : ub k = some m)
    (hn : Nat.blt d n = true) (hk : Go c n ((d, N k ((a0 + b0) % m)) :: l) W (wpList P ops Q rest)) :
    Go c n l W (wpList P ops Q (⟨some d, .binOp .add xt x y yt, T, pos, after, none⟩ :: rest)) :=
  st_val rfl rfl hn (fun a w ha _ => by
    have h := ub_wrap_nat hm (a0 + b0)
    simp only [Int.natCast_add] at h
    simp [execOp, ha.ev hx, ha.ev hy, eqGuard, binOp, Op.intArith, h]) hk
theorem st_mul {k : IntKind} {m : Nat} {x y : Operand} {a0 b0 : Nat} {xt yt : TypeId} (hx : ev l x = some (N k a0)) (hy : ev l y = some (N k b0)) (hm : ub k = some m)
    (hn : Nat.blt d n = true) (hk : Go c n ((d, N k ((a0 * b0) % m)) :: l) W (wpList P ops Q rest)) :
    Go c n l W (wpList P ops Q (⟨some d, .binOp .mul xt x y yt, T, pos, after, none⟩ :: rest)) :=
  st_val rfl rfl hn (fun a w ha _ => by
    have h := ub_wrap_nat hm (a0 * b0)
    simp only [Int.natCast_mul] at h
    simp [execOp, ha.ev hx, ha.ev hy, eqGuard, binOp, Op.intArith, h]) hk
theorem st_sub {k : IntKind} {m : Nat} {x y : Operand} {a0 b0 : Nat} {xt yt : TypeId} (hx : ev l x = some (N k a0)) (hy : ev l y = some (N k b0)) (hm : ub k = some m)
    (hn : Nat.blt d n = true) (hk : Go c n ((d, N k ((a0 + (m - b0 % m)) % m)) :: l) W (wpList P ops Q rest)) :
    Go c n l W (wpList P ops Q (⟨some d, .binOp .sub xt x y yt, T, pos, after, none⟩ :: rest)) :=
  st_val rfl rfl hn (fun a w ha _ => by
    have hpos : 0 < m := by rw [ub_pow hm]; exact Nat.two_pow_pos _
    have h : k.wrap ((a0 : Int) - (b0 : Int)) = Int.ofNat ((a0 + (m - b0 % m)) % m) := by
      rw [ub_wrap hm]
      have hlt := Nat.mod_lt b0 hpos
      have : ((a0 + (m - b0 % m) : Nat) : Int) = (a0 : Int) - b0 + (m : Int) * (b0 / m + 1 : Nat) := by
        have e := Nat.div_add_mod b0 m
        have e' : ((m * (b0 / m) + b0 % m : Nat) : Int) = (b0 : Int) := by rw [e]
        rw [Int.natCast_add, Int.natCast_sub (Nat.le_of_lt hlt)]
        rw [Int.natCast_add, Int.natCast_mul] at e'
        rw [Int.natCast_add, Int.mul_add]
        omega
      show _ = ((((a0 + (m - b0 % m)) % m : Nat)) : Int)
      rw [Int.natCast_emod, this, Int.add_mul_emod_self_left]
    simp [execOp, ha.ev hx, ha.ev hy, eqGuard, binOp, Op.intArith, h]) hk

theorem bits_run {k : IntKind} {m : Nat} (hm : ub k = some m) (w : World) {op : BinOp} {a0 b0 r : Nat} (hr : r < m)
    (h : (Op.intBits op k (Int.ofNat a0) (Int.ofNat b0)) = pure (.int k (k.wrap (r : Int)))) :
    (Op.intBits op k (Int.ofNat a0) (Int.ofNat b0)).run P w = .ok (N k r) w := by
  rw [h, ub_wrap_nat hm, Nat.mod_eq_of_lt hr]; rfl
theorem st_and {k : IntKind} {m : Nat} {x y : Operand} {a0 b0 : Nat} {xt yt : TypeId} (hx : ev l x = some (N k a0)) (hy : ev l y = some (N k b0)) (hm : ub k = some m)
    (hn : Nat.blt d n = true) (hk : Go c n ((d, N k ((a0 % m) &&& (b0 % m))) :: l) W (wpList P ops Q rest)) :
    Go c n l W (wpList P ops Q (⟨some d, .binOp .and xt x y yt, T, pos, after, none⟩ :: rest)) :=
  st_val rfl rfl hn (fun a w ha _ => by
    have hpos : 0 < m := by rw [ub_pow hm]; exact Nat.two_pow_pos _
    have := bits_run (P := P) hm w (op := .and) (a0 := a0) (b0 := b0) (r := (a0 % m) &&& (b0 % m)) (Nat.lt_of_le_of_lt Nat.and_le_left (Nat.mod_lt _ hpos))
      (by simp [Op.intBits, ub_pow hm])
    simp only [Int.ofNat_eq_natCast] at this
    simp [execOp, ha.ev hx, ha.ev hy, eqGuard, binOp, this]) hk
theorem st_or {k : IntKind} {m : Nat} {x y : Operand} {a0 b0 : Nat} {xt yt : TypeId} (hx : ev l x = some (N k a0)) (hy : ev l y = some (N k b0)) (hm : ub k = some m)
    (hn : Nat.blt d n = true) (hk : Go c n ((d, N k ((a0 % m) ||| (b0 % m))) :: l) W (wpList P ops Q rest)) :
    Go c n l W (wpList P ops Q (⟨some d, .binOp .or xt x y yt, T, pos, after, none⟩ :: rest)) :=
  st_val rfl rfl hn (fun a w ha _ => by
    have hpos : 0 < m := by rw [ub_pow hm]; exact Nat.two_pow_pos _
    have := bits_run (P := P) hm w (op := .or) (a0 := a0) (b0 := b0) (r := (a0 % m) ||| (b0 % m))
      (by rw [ub_pow hm]; exact Nat.or_lt_two_pow (Nat.mod_lt _ (Nat.two_pow_pos _)) (Nat.mod_lt _ (Nat.two_pow_pos _)))
      (by simp [Op.intBits, ub_pow hm])
    simp only [Int.ofNat_eq_natCast] at this
    simp [execOp, ha.ev hx, ha.ev hy, eqGuard, binOp, this]) hk
theorem st_xor {k : IntKind} {m : Nat} {x y : Operand} {a0 b0 : Nat} {xt yt : TypeId} (hx : ev l x = some (N k a0)) (hy : ev l y = some (N k b0)) (hm : ub k = some m)
    (hn : Nat.blt d n = true) (hk : Go c n ((d, N k ((a0 % m) ^^^ (b0 % m))) :: l) W (wpList P ops Q rest)) :
    Go c n l W (wpList P ops Q (⟨some d, .binOp .xor xt x y yt, T, pos, after, none⟩ :: rest)) :=
  st_val rfl rfl hn (fun a w ha _ => by
    have := bits_run (P := P) hm w (op := .xor) (a0 := a0) (b0 := b0) (r := (a0 % m) ^^^ (b0 % m))
      (by rw [ub_pow hm]; exact Nat.xor_lt_two_pow (Nat.mod_lt _ (Nat.two_pow_pos _)) (Nat.mod_lt _ (Nat.two_pow_pos _)))
      (by simp [Op.intBits, ub_pow hm])
    simp only [Int.ofNat_eq_natCast] at this
    simp [execOp, ha.ev hx, ha.ev hy, eqGuard, binOp, this]) hk
theorem st_andNot {k : IntKind} {m : Nat} {x y : Operand} {a0 b0 : Nat} {xt yt : TypeId} (hx : ev l x = some (N k a0)) (hy : ev l y = some (N k b0)) (hm : ub k = some m)
    (hn : Nat.blt d n = true) (hk : Go c n ((d, N k ((a0 % m) &&& (m - 1 - b0 % m))) :: l) W (wpList P ops Q rest)) :
    Go c n l W (wpList P ops Q (⟨some d, .binOp .andNot xt x y yt, T, pos, after, none⟩ :: rest)) :=
  st_val rfl rfl hn (fun a w ha _ => by
    have hpos : 0 < m := by rw [ub_pow hm]; exact Nat.two_pow_pos _
    have := bits_run (P := P) hm w (op := .andNot) (a0 := a0) (b0 := b0) (r := (a0 % m) &&& (m - 1 - b0 % m)) (Nat.lt_of_le_of_lt Nat.and_le_left (Nat.mod_lt _ hpos))
      (by simp [Op.intBits, ub_pow hm])
    simp only [Int.ofNat_eq_natCast] at this
    simp [execOp, ha.ev hx, ha.ev hy, eqGuard, binOp, this]) hk
theorem st_not {k : IntKind} {m : Nat} {x : Operand} {a0 : Nat} {xt : TypeId} (hx : ev l x = some (N k a0)) (hm : ub k = some m)
    (hn : Nat.blt d n = true) (hk : Go c n ((d, N k (m - 1 - a0 % m)) :: l) W (wpList P ops Q rest)) :
    Go c n l W (wpList P ops Q (⟨some d, .unOp .xor xt x, T, pos, after, none⟩ :: rest)) :=
  st_val rfl rfl hn (fun a w ha _ => by
    have hpos : 0 < m := by rw [ub_pow hm]; exact Nat.two_pow_pos _
    have hs : k.signed = false := by cases k <;> simp [ub] at hm <;> rfl
    have hmx : k.max = ((m - 1 : Nat) : Int) := by cases k <;> simp [ub] at hm <;> subst hm <;> rfl
    have e : ((m - 1) % 2 ^ k.bits) ^^^ (a0 % 2 ^ k.bits) = m - 1 - a0 % m := by
      have hb := ub_pow hm
      subst hb
      rw [Nat.mod_eq_of_lt (by omega)]
      exact ones_xor _ _ (Nat.mod_lt _ hpos)
    have h2 : (Op.intBits .xor k ((m - 1 : Nat) : Int) ((a0 : Nat) : Int)).run P w = .ok (N k (m - 1 - a0 % m)) w := by
      have := bits_run (P := P) hm w (op := .xor) (a0 := m - 1) (b0 := a0) (r := m - 1 - a0 % m) (by omega) (by simp only [Op.intBits]; rw [← e]; simp)
      simpa using this
    simp [execOp, ha.ev hx, Op.unary, hs, hmx, h2]) hk

/-! ### Shifts -/
theorem st_shl {k yk : IntKind} {m : Nat} {x y : Operand} {a0 b0 : Nat} {xt yt : TypeId} (hx : ev l x = some (N k a0)) (hy : ev l y = some (N yk b0)) (hm : ub k = some m)
    (hn : Nat.blt d n = true) (hk : Go c n ((d, N k ((a0 <<< b0) % m)) :: l) W (wpList P ops Q rest)) :
    Go c n l W (wpList P ops Q (⟨some d, .binOp .shl xt x y yt, T, pos, after, none⟩ :: rest)) :=
  st_val rfl rfl hn (fun a w ha _ => by
    have h : k.wrap ((a0 : Int) * 2 ^ (min b0 k.bits)) = ((a0 <<< b0 % m : Nat) : Int) := by
      have e : ((a0 : Int) * 2 ^ (min b0 k.bits)) = ((a0 * 2 ^ min b0 k.bits : Nat) : Int) := by simp
      rw [e, ub_wrap_nat hm]
      show (((a0 * 2 ^ min b0 k.bits) % m : Nat) : Int) = _
      congr 1
      rw [Nat.shiftLeft_eq]
      rcases Nat.le_total b0 k.bits with hle | hle
      · rw [Nat.min_eq_left hle]
      · rw [Nat.min_eq_right hle, ub_pow hm, Nat.mul_mod_left]
        obtain ⟨q, rfl⟩ := Nat.exists_eq_add_of_le hle
        rw [Nat.pow_add, ← Nat.mul_assoc, Nat.mul_right_comm, Nat.mul_mod_left]
    have hnn : ¬ ((b0 : Int) < 0) := by omega
    simp [execOp, ha.ev hx, ha.ev hy, eqGuard, binOp, Op.shift, h, hnn]) hk
theorem st_shr {k yk : IntKind} {x y : Operand} {a0 b0 : Nat} {xt yt : TypeId} (hx : ev l x = some (N k a0)) (hy : ev l y = some (N yk b0)) (hb : b0 ≤ k.bits)
    (hn : Nat.blt d n = true) (hk : Go c n ((d, N k (a0 >>> b0)) :: l) W (wpList P ops Q rest)) :
    Go c n l W (wpList P ops Q (⟨some d, .binOp .shr xt x y yt, T, pos, after, none⟩ :: rest)) :=
  st_val rfl rfl hn (fun a w ha _ => by
    have h : ((a0 : Int).fdiv (2 ^ b0)) = ((a0 >>> b0 : Nat) : Int) := by
      rw [Nat.shiftRight_eq_div_pow, Int.fdiv_eq_ediv_of_nonneg _ (by exact Int.pow_nonneg (by decide))]
      simp
    have hnn : ¬ ((b0 : Int) < 0) := by omega
    simp [execOp, ha.ev hx, ha.ev hy, eqGuard, binOp, Op.shift, h, hnn, Nat.min_eq_left hb]) hk

/-! ### Go's int -/
theorem i64_wrap {x : Int} (h : -9223372036854775808 ≤ x ∧ x < 9223372036854775808) : IntKind.i64.wrap x = x := by
  rw [IntKind.wrap_i64]; omega
theorem st_iadd {x y : Operand} {a0 b0 : Nat} {xt yt : TypeId} (hx : ev l x = some (N .i64 a0)) (hy : ev l y = some (N .i64 b0)) (hb : a0 + b0 < 9223372036854775808)
    (hn : Nat.blt d n = true) (hk : Go c n ((d, N .i64 (a0 + b0)) :: l) W (wpList P ops Q rest)) :
    Go c n l W (wpList P ops Q (⟨some d, .binOp .add xt x y yt, T, pos, after, none⟩ :: rest)) :=
  st_val rfl rfl hn (fun a w ha _ => by
    have h : IntKind.i64.wrap ((a0 : Int) + (b0 : Int)) = (a0 : Int) + b0 := i64_wrap (by omega)
    simp [execOp, ha.ev hx, ha.ev hy, eqGuard, binOp, Op.intArith, h]) hk
theorem st_isub {x y : Operand} {a0 b0 : Nat} {xt yt : TypeId} (hx : ev l x = some (N .i64 a0)) (hy : ev l y = some (N .i64 b0)) (hle : b0 ≤ a0) (hb : a0 < 9223372036854775808)
    (hn : Nat.blt d n = true) (hk : Go c n ((d, N .i64 (a0 - b0)) :: l) W (wpList P ops Q rest)) :
    Go c n l W (wpList P ops Q (⟨some d, .binOp .sub xt x y yt, T, pos, after, none⟩ :: rest)) :=
  st_val rfl rfl hn (fun a w ha _ => by
    have h : IntKind.i64.wrap ((a0 : Int) - (b0 : Int)) = ((a0 - b0 : Nat) : Int) := by rw [i64_wrap (by omega)]; omega
    simp [execOp, ha.ev hx, ha.ev hy, eqGuard, binOp, Op.intArith, h]) hk
theorem st_imul {x y : Operand} {a0 b0 : Nat} {xt yt : TypeId} (hx : ev l x = some (N .i64 a0)) (hy : ev l y = some (N .i64 b0)) (hb : a0 * b0 < 9223372036854775808)
    (hn : Nat.blt d n = true) (hk : Go c n ((d, N .i64 (a0 * b0)) :: l) W (wpList P ops Q rest)) :
    Go c n l W (wpList P ops Q (⟨some d, .binOp .mul xt x y yt, T, pos, after, none⟩ :: rest)) :=
  st_val rfl rfl hn (fun a w ha _ => by
    have e : ((a0 : Int) * (b0 : Int)) = ((a0 * b0 : Nat) : Int) := by simp
    have h : IntKind.i64.wrap ((a0 : Int) * (b0 : Int)) = (a0 : Int) * b0 := by rw [e]; exact i64_wrap (by omega)
    simp [execOp, ha.ev hx, ha.ev hy, eqGuard, binOp, Op.intArith, h]) hk
theorem st_idiv {x y : Operand} {a0 b0 : Nat} {xt yt : TypeId} (hx : ev l x = some (N .i64 a0)) (hy : ev l y = some (N .i64 b0)) (h0 : 0 < b0) (hb : a0 < 9223372036854775808)
    (hn : Nat.blt d n = true) (hk : Go c n ((d, N .i64 (a0 / b0)) :: l) W (wpList P ops Q rest)) :
    Go c n l W (wpList P ops Q (⟨some d, .binOp .quo xt x y yt, T, pos, after, none⟩ :: rest)) :=
  st_val rfl rfl hn (fun a w ha _ => by
    have e : (a0 : Int).tdiv b0 = ((a0 / b0 : Nat) : Int) := by rw [Int.tdiv_eq_ediv_of_nonneg (by omega)]; simp
    have hq : a0 / b0 ≤ a0 := Nat.div_le_self _ _
    have h : IntKind.i64.wrap ((a0 : Int) / (b0 : Int)) = (a0 : Int) / b0 := by
      rw [show (a0 : Int) / (b0 : Int) = ((a0 / b0 : Nat) : Int) by simp]; generalize a0 / b0 = q at hq ⊢; exact i64_wrap ⟨by omega, by omega⟩
    have hz' : ¬ (b0 = 0) := by omega
    simp [execOp, ha.ev hx, ha.ev hy, eqGuard, binOp, Op.intDiv, e, h, hz']) hk
theorem st_imod {x y : Operand} {a0 b0 : Nat} {xt yt : TypeId} (hx : ev l x = some (N .i64 a0)) (hy : ev l y = some (N .i64 b0)) (h0 : 0 < b0)
    (hn : Nat.blt d n = true) (hk : Go c n ((d, N .i64 (a0 % b0)) :: l) W (wpList P ops Q rest)) :
    Go c n l W (wpList P ops Q (⟨some d, .binOp .rem xt x y yt, T, pos, after, none⟩ :: rest)) :=
  st_val rfl rfl hn (fun a w ha _ => by
    have e : (a0 : Int).tmod b0 = ((a0 % b0 : Nat) : Int) := by rw [Int.tmod_eq_emod_of_nonneg (by omega)]; simp
    have hz' : ¬ (b0 = 0) := by omega
    simp [execOp, ha.ev hx, ha.ev hy, eqGuard, binOp, Op.intDiv, e, hz']) hk
theorem st_zadd {x y : Operand} {a0 b0 : Int} {xt yt : TypeId} (hx : ev l x = some (.int .i64 a0)) (hy : ev l y = some (.int .i64 b0)) (hb : -9223372036854775808 ≤ a0 + b0 ∧ a0 + b0 < 9223372036854775808)
    (hn : Nat.blt d n = true) (hk : Go c n ((d, .int .i64 (a0 + b0)) :: l) W (wpList P ops Q rest)) :
    Go c n l W (wpList P ops Q (⟨some d, .binOp .add xt x y yt, T, pos, after, none⟩ :: rest)) :=
  st_val rfl rfl hn (fun a w ha _ => by
    have h : IntKind.i64.wrap (a0 + b0) = a0 + b0 := i64_wrap hb
    simp [execOp, ha.ev hx, ha.ev hy, eqGuard, binOp, Op.intArith, h]) hk
theorem st_zsub {x y : Operand} {a0 b0 : Int} {xt yt : TypeId} (hx : ev l x = some (.int .i64 a0)) (hy : ev l y = some (.int .i64 b0)) (hb : -9223372036854775808 ≤ a0 - b0 ∧ a0 - b0 < 9223372036854775808)
    (hn : Nat.blt d n = true) (hk : Go c n ((d, .int .i64 (a0 - b0)) :: l) W (wpList P ops Q rest)) :
    Go c n l W (wpList P ops Q (⟨some d, .binOp .sub xt x y yt, T, pos, after, none⟩ :: rest)) :=
  st_val rfl rfl hn (fun a w ha _ => by
    have h : IntKind.i64.wrap (a0 - b0) = a0 - b0 := i64_wrap hb
    simp [execOp, ha.ev hx, ha.ev hy, eqGuard, binOp, Op.intArith, h]) hk
theorem st_zneg {x : Operand} {a0 : Int} {xt : TypeId} (hx : ev l x = some (.int .i64 a0)) (hb : -9223372036854775808 < a0 ∧ a0 < 9223372036854775808)
    (hn : Nat.blt d n = true) (hk : Go c n ((d, .int .i64 (-a0)) :: l) W (wpList P ops Q rest)) :
    Go c n l W (wpList P ops Q (⟨some d, .unOp .neg xt x, T, pos, after, none⟩ :: rest)) :=
  st_val rfl rfl hn (fun a w ha _ => by
    have h : IntKind.i64.wrap (-a0) = -a0 := by rw [i64_wrap (by omega)]
    simp [execOp, ha.ev hx, Op.unary, Op.intArith, h]) hk

theorem st_ineg {x : Operand} {a0 : Nat} {xt : TypeId} (hx : ev l x = some (N .i64 a0)) (hb : a0 < 9223372036854775808)
    (hn : Nat.blt d n = true) (hk : Go c n ((d, .int .i64 (-(a0 : Int))) :: l) W (wpList P ops Q rest)) :
    Go c n l W (wpList P ops Q (⟨some d, .unOp .neg xt x, T, pos, after, none⟩ :: rest)) :=
  st_zneg hx ⟨by show _ < (a0 : Int); omega, by show (a0 : Int) < _; omega⟩ hn hk

/-! ### Comparisons -/
theorem beq_dec (a b : Int) : (a == b) = decide (a = b) := by
  rw [Bool.eq_iff_iff]; simp
theorem natcast_dec (a b : Nat) : decide ((a : Int) = (b : Int)) = decide (a = b) := by
  rw [Bool.eq_iff_iff]; simp only [decide_eq_true_eq]; omega
theorem beq_decb (a b : Bool) : (a == b) = decide (a = b) := by cases a <;> cases b <;> rfl
def cmpN : BinOp → Nat → Nat → Option Bool
  | .lss, x, y => some (decide (x < y))
  | .leq, x, y => some (decide (x ≤ y))
  | .gtr, x, y => some (decide (y < x))
  | .geq, x, y => some (decide (y ≤ x))
  | .eql, x, y => some (decide (x = y))
  | .neq, x, y => some (decide (¬ x = y))
  | _, _, _ => none
theorem st_cmp {k : IntKind} {op : BinOp} {r : Bool} {x y : Operand} {a0 b0 : Nat} {xt yt : TypeId} (hx : ev l x = some (N k a0)) (hy : ev l y = some (N k b0))
    (hr : cmpN op a0 b0 = some r) (hn : Nat.blt d n = true) (hk : Go c n ((d, .bool r) :: l) W (wpList P ops Q rest)) :
    Go c n l W (wpList P ops Q (⟨some d, .binOp op xt x y yt, T, pos, after, none⟩ :: rest)) :=
  st_val rfl rfl hn (fun a w ha _ => by
    cases op <;> simp only [cmpN, Option.some.injEq, reduceCtorEq] at hr <;> subst hr <;>
      simp [execOp, ha.ev hx, ha.ev hy, eqGuard, binOp, Op.intCmp, bne, beq_dec, natcast_dec]) hk
def cmpZ : BinOp → Int → Int → Option Bool
  | .lss, x, y => some (decide (x < y))
  | .leq, x, y => some (decide (x ≤ y))
  | .gtr, x, y => some (decide (y < x))
  | .geq, x, y => some (decide (y ≤ x))
  | .eql, x, y => some (decide (x = y))
  | .neq, x, y => some (decide (¬ x = y))
  | _, _, _ => none
theorem st_cmpz {k : IntKind} {op : BinOp} {r : Bool} {x y : Operand} {a0 b0 : Int} {xt yt : TypeId} (hx : ev l x = some (.int k a0)) (hy : ev l y = some (.int k b0))
    (hr : cmpZ op a0 b0 = some r) (hn : Nat.blt d n = true) (hk : Go c n ((d, .bool r) :: l) W (wpList P ops Q rest)) :
    Go c n l W (wpList P ops Q (⟨some d, .binOp op xt x y yt, T, pos, after, none⟩ :: rest)) :=
  st_val rfl rfl hn (fun a w ha _ => by
    cases op <;> simp only [cmpZ, Option.some.injEq, reduceCtorEq] at hr <;> subst hr <;>
      simp [execOp, ha.ev hx, ha.ev hy, eqGuard, binOp, Op.intCmp, bne, beq_dec]) hk
theorem st_bnot {x : Operand} {b0 : Bool} {xt : TypeId} (hx : ev l x = some (.bool b0))
    (hn : Nat.blt d n = true) (hk : Go c n ((d, .bool (!b0)) :: l) W (wpList P ops Q rest)) :
    Go c n l W (wpList P ops Q (⟨some d, .unOp .not xt x, T, pos, after, none⟩ :: rest)) :=
  st_val rfl rfl hn (fun a w ha _ => by simp [execOp, ha.ev hx, Op.unary]) hk
theorem st_beq {x y : Operand} {a0 b0 : Bool} {xt yt : TypeId} (hx : ev l x = some (.bool a0)) (hy : ev l y = some (.bool b0)) (ht : P.underlying xt = some .bool)
    (hn : Nat.blt d n = true) (hk : Go c n ((d, .bool (decide (a0 = b0))) :: l) W (wpList P ops Q rest)) :
    Go c n l W (wpList P ops Q (⟨some d, .binOp .eql xt x y yt, T, pos, after, none⟩ :: rest)) :=
  st_val rfl rfl hn (fun a w ha _ => by
    simp [execOp, ha.ev hx, ha.ev hy, eqGuard, run_eql_bool w xt a0 b0 ht, beq_decb]) hk
theorem st_bne {x y : Operand} {a0 b0 : Bool} {xt yt : TypeId} (hx : ev l x = some (.bool a0)) (hy : ev l y = some (.bool b0)) (ht : P.underlying xt = some .bool)
    (hn : Nat.blt d n = true) (hk : Go c n ((d, .bool (decide (¬ a0 = b0))) :: l) W (wpList P ops Q rest)) :
    Go c n l W (wpList P ops Q (⟨some d, .binOp .neq xt x y yt, T, pos, after, none⟩ :: rest)) :=
  st_val rfl rfl hn (fun a w ha _ => by
    simp [execOp, ha.ev hx, ha.ev hy, eqGuard, run_neq_bool w xt a0 b0 ht, beq_decb]) hk

/-! ### Conversions between integers -/
theorem st_conv {k k' : IntKind} {m : Nat} {x : Operand} {a0 : Nat} {sd : TypeDesc} {s t : TypeId} (hx : ev l x = some (N k a0)) (hs : P.underlying s = some sd) (ht : P.underlying t = some (.int k')) (hm : ub k' = some m)
    (hn : Nat.blt d n = true) (hk : Go c n ((d, N k' (a0 % m)) :: l) W (wpList P ops Q rest)) :
    Go c n l W (wpList P ops Q (⟨some d, .convert s t x, T, pos, after, none⟩ :: rest)) :=
  st_val rfl rfl hn (fun a w ha _ => by
    have h := ub_wrap_nat hm a0
    simp [execOp, ha.ev hx, convert, run_underlying hs, run_underlying ht, Conv.intToInt, h]) hk
theorem st_convi {k : IntKind} {x : Operand} {a0 : Nat} {sd : TypeDesc} {s t : TypeId} (hx : ev l x = some (N k a0)) (hs : P.underlying s = some sd) (ht : P.underlying t = some (.int .i64)) (hb : a0 < 9223372036854775808)
    (hn : Nat.blt d n = true) (hk : Go c n ((d, N .i64 a0) :: l) W (wpList P ops Q rest)) :
    Go c n l W (wpList P ops Q (⟨some d, .convert s t x, T, pos, after, none⟩ :: rest)) :=
  st_val rfl rfl hn (fun a w ha _ => by
    have h : IntKind.i64.wrap (a0 : Int) = (a0 : Int) := i64_wrap (by omega)
    simp [execOp, ha.ev hx, convert, run_underlying hs, run_underlying ht, Conv.intToInt, h]) hk
theorem st_convz {m : Nat} {k k' : IntKind} {x : Operand} {a0 : Int} {sd : TypeDesc} {s t : TypeId} (hx : ev l x = some (.int k a0)) (hs : P.underlying s = some sd) (ht : P.underlying t = some (.int k')) (hm : ub k' = some m)
    (hn : Nat.blt d n = true) (hk : Go c n ((d, N k' (a0 % (m : Int)).toNat) :: l) W (wpList P ops Q rest)) :
    Go c n l W (wpList P ops Q (⟨some d, .convert s t x, T, pos, after, none⟩ :: rest)) :=
  st_val rfl rfl hn (fun a w ha _ => by
    have hpos : 0 < m := by rw [ub_pow hm]; exact Nat.two_pow_pos _
    have h : k'.wrap a0 = Int.ofNat (a0 % (m : Int)).toNat := by
      rw [ub_wrap hm]
      have := Int.emod_nonneg a0 (b := (m : Int)) (by omega)
      show _ = (((a0 % (m : Int)).toNat : Nat) : Int)
      omega
    simp [execOp, ha.ev hx, convert, run_underlying hs, run_underlying ht, Conv.intToInt, h]) hk
theorem st_max {x y : Operand} {k k' : IntKind} {a0 b0 : Nat} {ts : List TypeId} (hx : ev l x = some (N k a0)) (hy : ev l y = some (N k' b0))
    (hn : Nat.blt d n = true) (hk : Go c n ((d, N k (max a0 b0)) :: l) W (wpList P ops Q rest)) :
    Go c n l W (wpList P ops Q (⟨some d, .call { callee := .builtin .max, args := #[x, y], argTypes := ts.toArray }, T, pos, after, none⟩ :: rest)) :=
  st_val rfl rfl hn (fun a w ha _ => by
    have h := run_max_int2 (P := P) w ts.toArray T k k' (a0 : Int) (b0 : Int)
    have e : (if (b0 : Int) > (a0 : Int) then (b0 : Int) else (a0 : Int)) = ((max a0 b0 : Nat) : Int) := by split <;> omega
    rw [e] at h
    simp [execOp, ha.ev hx, ha.ev hy, resolve, invoke, builtin]; rw [show N k a0 = Value.int k (a0 : Int) from rfl, show N k' b0 = Value.int k' (b0 : Int) from rfl, h]; rfl) hk
theorem st_min {x y : Operand} {k k' : IntKind} {a0 b0 : Nat} {ts : List TypeId} (hx : ev l x = some (N k a0)) (hy : ev l y = some (N k' b0))
    (hn : Nat.blt d n = true) (hk : Go c n ((d, N k (min a0 b0)) :: l) W (wpList P ops Q rest)) :
    Go c n l W (wpList P ops Q (⟨some d, .call { callee := .builtin .min, args := #[x, y], argTypes := ts.toArray }, T, pos, after, none⟩ :: rest)) :=
  st_val rfl rfl hn (fun a w ha _ => by
    have h := run_min_int2 (P := P) w ts.toArray T k k' (a0 : Int) (b0 : Int)
    have e : (if (b0 : Int) < (a0 : Int) then (b0 : Int) else (a0 : Int)) = ((min a0 b0 : Nat) : Int) := by split <;> omega
    rw [e] at h
    simp [execOp, ha.ev hx, ha.ev hy, resolve, invoke, builtin]; rw [show N k a0 = Value.int k (a0 : Int) from rfl, show N k' b0 = Value.int k' (b0 : Int) from rfl, h]; rfl) hk
end shapes
end ops
end Go.Proofs.Ytfhempgkdnecnaa.L
