/- Arrays and numbers of many words as values: built from fewer parts. No condition. -/
import Derived.Test.YtfhempgkdnecnaaMore
namespace Go.Proofs.Ytfhempgkdnecnaa.L
open Go

theorem fill_seqP : ∀ (parts : List (Nat × Value)) (i : Nat) (done z : List Value), (∀ j p, parts[j]? = some p → p.1 = i + j ∧ p.2.oneCell' = true) → done.length = i → parts.length ≤ z.length →
    Instr.fill (fun i => some (i * 1, 1)) (done ++ z).toArray parts = some (done ++ parts.map (·.2) ++ z.drop parts.length).toArray
  | [], i, done, z, _, _, _ => by simp [Instr.fill]
  | (q, v) :: r, i, done, z, hp, hd, hl => by
    obtain ⟨h1, h2⟩ := hp 0 (q, v) rfl
    simp only [Nat.add_zero] at h1 h2
    subst h1
    cases z with
    | nil => simp at hl
    | cons z0 zr =>
      have hc := cells1 h2
      have ih := fill_seqP r (q + 1) (done ++ [v]) zr (fun j p hj => by
        have := hp (j + 1) p (by simpa using hj)
        exact ⟨by omega, this.2⟩) (by simp [hd]) (by simpa using hl)
      have hset : (done ++ z0 :: zr).set q v = done ++ [v] ++ zr := by
        subst hd
        rw [List.set_append_right _ _ (by omega)]; simp
      simp only [Instr.fill, Nat.mul_one, hc]
      rw [if_neg (by simp; omega)]
      have hzi : (#[v].zipIdx) = #[(v, 0)] := by simp
      simp only [hzi]
      simp only [List.size_toArray, List.length_cons, List.length_nil, List.foldl_toArray', List.foldl_cons, List.foldl_nil, Nat.add_zero, List.setIfInBounds_toArray, hset]
      simp only [Nat.mul_one] at ih
      simpa using ih

section
variable {P : Program} {c : Cx} {n : Nat} {l : Sl} {W : List Res} {ops : Array Oper} {Q : Exit → Act → World → Prop} {rest : List Oper}
variable {d : Nat} {T : TypeId} {pos : String} {after : Array Edge}
/-- An array of numbers whose last ones are not given: they are 0. -/
theorem st_buildP {t E : TypeId} {m : Nat} {ps : List (Nat × Operand)} {kk : IntKind} {vs : List Nat} (ht : P.underlying t = some (.array m E)) (hz : zrOf P t = some (LV kk (List.replicate m 0))) (hs : szOf P E = some 1)
    (hq : Seq 0 ps = true) (hl : ps.length = vs.length) (hm : Nat.ble vs.length m = true) (hv : evs l (ps.map (·.2)) = some (vs.map (N kk))) (hn : Nat.blt d n = true)
    (hk : Go c n ((d, LV kk (vs ++ List.replicate (m - vs.length) 0)) :: l) W (wpList P ops Q rest)) :
    Go c n l W (wpList P ops Q (⟨some d, .build t ps.toArray, T, pos, after, none⟩ :: rest)) :=
  st_val rfl rfl hn (fun a w ha hw => by
      have hm' := Nat.le_of_ble_eq_true hm
      obtain ⟨g1, g2⟩ := parts_ok ha hq hv (by simp [Value.oneCell'])
      have hfill := fill_seqP (ps.map fun (i, x) => (i, a.eval x)) 0 [] ((List.replicate m 0).map (N kk)) (fun j p hj => by have := g2 j p hj; exact ⟨by omega, this.2⟩) rfl (by simp; omega)
      rw [g1] at hfill
      simp only [List.nil_append, Nat.mul_one, List.length_map, hl] at hfill
      have e : (vs.map (N kk) ++ List.drop vs.length ((List.replicate m 0).map (N kk))).toArray = ((vs ++ List.replicate (m - vs.length) 0).map (N kk)).toArray := by
        rw [← List.map_drop, List.drop_replicate, List.map_append]
      rw [e] at hfill
      simp only [execOp, Instr.build, Sem.run_bind, run_underlying ht, run_zero hz, run_sizeOf hs, Result.andThen_ok, List.map_toArray, Value.cells, LV, Nat.mul_one, hfill]
      rfl) hk
theorem st_ishl {yk : IntKind} {x y : Operand} {a0 b0 : Nat} {xt yt : TypeId} (hx : ev l x = some (N .i64 a0)) (hy : ev l y = some (N yk b0)) (hb : b0 ≤ 62) (hlt : a0 * 2 ^ b0 < 9223372036854775808)
    (hn : Nat.blt d n = true) (hk : Go c n ((d, N .i64 (a0 * 2 ^ b0)) :: l) W (wpList P ops Q rest)) :
    Go c n l W (wpList P ops Q (⟨some d, .binOp .shl xt x y yt, T, pos, after, none⟩ :: rest)) :=
  st_val rfl rfl hn (fun a w ha _ => by
    have h : IntKind.i64.wrap ((a0 : Int) * 2 ^ (min b0 IntKind.i64.bits)) = ((a0 * 2 ^ b0 : Nat) : Int) := by
      rw [Nat.min_eq_left (by simp [IntKind.bits]; omega)]
      have e : ((a0 : Int) * 2 ^ b0) = ((a0 * 2 ^ b0 : Nat) : Int) := by simp
      rw [e]
      generalize a0 * 2 ^ b0 = z at hlt ⊢
      exact i64_wrap ⟨by omega, by omega⟩
    have hnn : ¬ ((b0 : Int) < 0) := by omega
    simp only [execOp, ha.ev hx, ha.ev hy, eqGuard, binOp, Op.shift, Int.ofNat_eq_natCast, Int.toNat_natCast, h, if_neg hnn]
    rfl) hk
/-- Numbers of Go's int. -/
def IV (ds : List Int) : List Value := ds.map (Value.int .i64)
theorem IV_len (ds : List Int) : (IV ds).length = ds.length := by simp [IV]
theorem IV_get {ds : List Int} {i : Nat} (h : i < ds.length) : (IV ds)[i]? = some (.int .i64 (ds.getD i 0)) := by
  simp [IV, List.getD_eq_getElem?_getD, h]
theorem IV_one (ds : List Int) : ∀ v ∈ IV ds, v.oneCell' = true := by simp [IV, Value.oneCell']
theorem IV_app (ds es : List Int) : IV (ds ++ es) = IV ds ++ IV es := by simp [IV]
theorem IV_take (ds : List Int) (i : Nat) : (IV ds).take i = IV (ds.take i) := by simp [IV]
theorem st_appendI {x y : Operand} {s y0 : Value} {xs ys : List Int} {t E : TypeId} {by' : Nat} {R : List Res} (hx : ev l x = some s) (hy : ev l y = some y0) (hf : Find W (.sl s (IV xs) E) R) (hr : RdW c W y0 (IV ys))
    (ht : P.underlying t = some (.slice E)) (hz : zrOf P E = some (N .i64 0)) (hs : szOf P E = some 1) (hb : byOf P E = some by')
    (hbd : (xs.length + ys.length) * by' ≤ 140737488355328) (h63 : xs.length + ys.length < 9223372036854775808) (hn : Nat.blt d n = true)
    (hk : ∀ s', Go c n ((d, s') :: l) (.sl s' (IV (xs ++ ys)) E :: R) (wpList P ops Q rest)) :
    Go c n l W (wpList P ops Q (⟨some d, .call { callee := .builtin .append, args := #[x, y], argTypes := #[t, t] }, T, pos, after, none⟩ :: rest)) :=
  st_append hx hy hf hr ht hz hs hb rfl (IV_one _) (by rw [IV_len, IV_len]; exact hbd) (by rw [IV_len, IV_len]; exact h63) hn (fun s' => by rw [← IV_app]; exact hk s')
theorem st_buildSliceI {t E : TypeId} {k : Nat} {ps : List (Nat × Operand)} {vs : List Int} (ht : P.underlying t = some (.slice E)) (hz : zrOf P E = some (N .i64 0)) (hs : szOf P E = some 1)
    (hq : Seq 0 ps = true) (hl : ps.length = k) (hv : evs l (ps.map (·.2)) = some (IV vs)) (hk24 : Nat.ble k 16777216 = true) (hn : Nat.blt d n = true)
    (hk : ∀ s, Go c n ((d, s) :: l) (.sl s (IV vs) E :: W) (wpList P ops Q rest)) :
    Go c n l W (wpList P ops Q (⟨some d, .buildSlice t k ps.toArray, T, pos, after, none⟩ :: rest)) :=
  st_buildSlice ht hz hs rfl hq hl hv (by rw [List.all_eq_true]; exact IV_one vs) hk24 hn hk
theorem st_lenI {x : Operand} {s : Value} {xs : List Int} {t E : TypeId} {ts : List TypeId} (hx : ev l x = some s) (ht : P.underlying t = some (.slice E)) (hr : RdW c W s (IV xs))
    (hn : Nat.blt d n = true) (hk : Go c n ((d, N .i64 xs.length) :: l) W (wpList P ops Q rest)) :
    Go c n l W (wpList P ops Q (⟨some d, .call { callee := .builtin .len, args := #[x], argTypes := (t :: ts).toArray }, T, pos, after, none⟩ :: rest)) :=
  st_len hx ht hr hn (by rw [IV_len]; exact hk)
theorem st_iaI {x y : Operand} {s : Value} {i : Nat} {k : IntKind} {xs : List Int} {t E : TypeId} (hx : ev l x = some s) (hy : ev l y = some (N k i)) (ht : P.underlying t = some (.slice E)) (hz : szOf P E = some 1) (hr : RdW c W s (IV xs)) (hi : i < xs.length)
    (hn : Nat.blt d n = true) (hk : Go c n ((d, .pointer (some (ea s i))) :: l) W (wpList P ops Q rest)) : Go c n l W (wpList P ops Q (⟨some d, .indexAddr t x y, T, pos, after, none⟩ :: rest)) :=
  st_ia_sl hx hy ht hz hr (by rw [IV_len]; exact hi) hn hk
theorem st_load_I {x : Operand} {s : Value} {i : Nat} {xs : List Int} {E : TypeId} (hx : ev l x = some (.pointer (some (ea s i)))) (hr : RdW c W s (IV xs)) (hi : i < xs.length) (hs : scal P E = true)
    (hn : Nat.blt d n = true) (hk : Go c n ((d, .int .i64 (xs.getD i 0)) :: l) W (wpList P ops Q rest)) : Go c n l W (wpList P ops Q (⟨some d, .load E x, T, pos, after, none⟩ :: rest)) :=
  st_load_rd hx hr (IV_get hi) hs hn hk
theorem st_endc2_LV {fn : Func} {R : Ending → World → Prop} {t u : Tmp} {b m : Nat} {T U : TypeId} {k : IntKind} {ys : List Nat} {v : Value} {R0 : List Res}
    (hres : fn.results = #[.cell t T, .tmp u]) (hv : lk l t = some (pt b 0)) (hu : lk l u = some v) (hf : Find W (.blk b (LV k ys) U) R0) (hs : aggT P T = true) (hz : szOf P T = some m) (hl : ys.length = m)
    (hR : ∀ w, SatW c W w → R (.returned (.tuple #[LV k ys, v])) w) : Go c n l W (bodyPost P fn R .ret) :=
  st_endc2 hres hv hu hf hs (by subst hl; simpa using hz) hR
end
end Go.Proofs.Ytfhempgkdnecnaa.L
