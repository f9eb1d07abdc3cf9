/- What the proof of the statement about SswuIsos stands on, part B. Conditions: as each statement says. -/
import Derived.Test.YtbpmbdlgmmabcaaSswuIsosA
import Derived.Below
import Derived.Laws.Externs
import Derived.Laws.Strings
import Derived.Laws.StructEq
import Derived.Orders
import Derived.Scope
import Derived.Tactics
import Derived.Test.YtbpmbdlgmmabcaaProg
import Derived.WalkKit
namespace Go.Proofs.Ytbpmbdlgmmabcaa.L
open Go Go.Proofs
section
variable {P : Program} {c : Cx} {n : Nat} {l : Sl} {W : List Res} {ops : Array Oper} {Q : Exit → Act → World → Prop} {rest : List Oper}
variable {d : Nat} {T : TypeId} {pos : String} {after : Array Edge}
theorem RdW.arrAll {b m : Nat} {k : IntKind} {ys : List Nat} {U : TypeId} {R : List Res} (h : Find W (.blk b (LV k ys) U) R) (hm : ys.length = m) : RdW c W (subA b m 0 m) (ys.map (N k)) := by
  have := RdW.arrN (c := c) (lo := 0) (hi := m) h (Nat.zero_le _) (Nat.le_refl _) hm
  rwa [List.drop_zero, List.take_of_length_le (by omega)] at this
theorem Rd.one {w : World} {s : Value} {xs : List Value} (h : Rd w s xs) : s.oneCell' = true := by
  obtain ⟨a, cap, rfl, _⟩ := h.shape; rfl
/-- A function that the model stands in for. -/
def ExtV (P : Program) (f : FuncId) (vs : List Value) (v : Value) : Prop := ∀ w, (callFunc f vs.toArray).run P w = .ok (.value v) w
theorem st_callX {f : FuncId} {x : Operand} {ars : List Operand} {vs : List Value} {ats : Array TypeId} {first captured all : List Value} {v : Value}
    (hx : ev l x = some (.func (.func f) first.toArray captured.toArray)) (ha : evs l ars = some vs) (hall : first ++ vs ++ captured = all)
    (hext : ExtV P f all v) (hn : Nat.blt d n = true) (hk : Go c n ((d, v) :: l) W (wpList P ops Q rest)) :
    Go c n l W (wpList P ops Q (⟨some d, .call { callee := .value x, args := ars.toArray, argTypes := ats }, T, pos, after, none⟩ :: rest)) :=
  st_val rfl rfl hn (fun a w hA _ => by
    subst hall
    have := hext w
    simp only [execOp, resolve, hA.ev hx, Deferred.ofValue, List.map_toArray, hA.evs ha, Sem.run_bind, Sem.run_pure, Result.andThen_ok, invoke, List.append_toArray, this]) hk
end
def add64Entry' : Array Value → Sem Value := fun args => do
  let (x, y, c) ← Extern.MathBitsCarry.three "Add64" args
  pure (Extern.MathBitsCarry.pair ((x + y + c) % Extern.MathBitsCarry.m64) ((x + y + c) / Extern.MathBitsCarry.m64))
def sub64Entry' : Array Value → Sem Value := fun args => do
  let (x, y, b) ← Extern.MathBitsCarry.three "Sub64" args
  pure (Extern.MathBitsCarry.pair ((x + Extern.MathBitsCarry.m64 - y - b) % Extern.MathBitsCarry.m64) (if x < y + b then 1 else 0))
theorem run_add64' {P : Program} (x y b : Nat) (hb : b ≤ 1) (w : World) :
    (add64Entry' #[.int .u64 x, .int .u64 y, .int .u64 b]).run P w =
      .ok (.tuple #[.int .u64 (((x + y + b) % 18446744073709551616 : Nat) : Int), .int .u64 (((x + y + b) / 18446744073709551616 : Nat) : Int)]) w := by
  have : b = 0 ∨ b = 1 := by omega
  rcases this with rfl | rfl <;> rfl
theorem run_sub64' {P : Program} (x y b : Nat) (hb : b ≤ 1) (w : World) :
    (sub64Entry' #[.int .u64 x, .int .u64 y, .int .u64 b]).run P w =
      .ok (.tuple #[.int .u64 (((x + 18446744073709551616 - y - b) % 18446744073709551616 : Nat) : Int), .int .u64 ((if x < y + b then 1 else 0 : Nat) : Int)]) w := by
  have : b = 0 ∨ b = 1 := by omega
  rcases this with rfl | rfl <;> rfl
theorem ext_add64 {P : Program} {f : FuncId} {fn : Func} (hf : P.funcs[f]? = some fn) (hname : (fn.name == "runtime.NumGoroutine") = false)
    (hb : fn.body.isNone = true) (hn : Extern.findNext fn = none) (he : Extern.find fn = some add64Entry') (x y c : Nat) (hc : c ≤ 1) :
    ExtV P f [N .u64 x, N .u64 y, N .u64 c] (.tuple [N .u64 ((x + y + c) % 18446744073709551616), N .u64 ((x + y + c) / 18446744073709551616)].toArray) := fun w => by
  have := run_add64' (P := P) x y c hc w
  rw [run_callFunc_extern hf hname hb hn he]
  simp only [Int.ofNat_eq_natCast, N]
  rw [this]; rfl
theorem ext_sub64 {P : Program} {f : FuncId} {fn : Func} (hf : P.funcs[f]? = some fn) (hname : (fn.name == "runtime.NumGoroutine") = false)
    (hb : fn.body.isNone = true) (hn : Extern.findNext fn = none) (he : Extern.find fn = some sub64Entry') (x y c : Nat) (hc : c ≤ 1) :
    ExtV P f [N .u64 x, N .u64 y, N .u64 c] (.tuple [N .u64 ((x + 18446744073709551616 - y - c) % 18446744073709551616), N .u64 (if x < y + c then 1 else 0)].toArray) := fun w => by
  have := run_sub64' (P := P) x y c hc w
  rw [run_callFunc_extern hf hname hb hn he]
  simp only [Int.ofNat_eq_natCast, N]
  rw [this]; rfl
end Go.Proofs.Ytbpmbdlgmmabcaa.L
namespace Go.Proofs.Ytbpmbdlgmmabcaa.Num
def val (B : Nat) : List Nat → Nat
  | [] => 0
  | x :: r => x + B * val B r
def dig (B : Nat) : Nat → Nat → List Nat
  | 0, _ => []
  | n + 1, v => v % B :: dig B n (v / B)
def Lt (m : Nat) (xs : List Nat) : Prop := ∀ x ∈ xs, x < m
section
variable {B : Nat}
theorem dig_len (n v : Nat) : (dig B n v).length = n := by
  induction n generalizing v with
  | zero => rfl
  | succ n ih => simp [dig, ih]
theorem dig_lt (hB : 0 < B) (n v : Nat) : Lt B (dig B n v) := by
  induction n generalizing v with
  | zero => intro x hx; simp [dig] at hx
  | succ n ih =>
    intro x hx
    simp only [dig, List.mem_cons] at hx
    rcases hx with rfl | hx
    · exact Nat.mod_lt _ hB
    · exact ih _ x hx
theorem mod_pow_succ (v n : Nat) : v % B ^ (n + 1) = v % B + B * (v / B % B ^ n) := by
  rw [Nat.pow_succ, Nat.mul_comm, Nat.mod_mul]
theorem mod_pow_succ' (v n : Nat) : v % B ^ (n + 1) = v % B ^ n + B ^ n * (v / B ^ n % B) := by
  rw [Nat.pow_succ, Nat.mod_mul]
theorem val_dig (n v : Nat) : val B (dig B n v) = v % B ^ n := by
  induction n generalizing v with
  | zero => simp [dig, val, Nat.mod_one]
  | succ n ih => simp only [dig, val, ih, mod_pow_succ]
theorem val_cons (x : Nat) (r : List Nat) : val B (x :: r) = x + B * val B r := rfl
theorem Lt.nil (m : Nat) : Lt m [] := by intro x hx; cases hx
theorem Lt.cons {m x : Nat} {r : List Nat} (h : x < m) (hr : Lt m r) : Lt m (x :: r) := by
  intro y hy
  rcases List.mem_cons.1 hy with rfl | hy
  · exact h
  · exact hr y hy
theorem Lt.tail {m x : Nat} {r : List Nat} (h : Lt m (x :: r)) : Lt m r := fun y hy => h y (List.mem_cons_of_mem _ hy)
theorem Lt.head {m x : Nat} {r : List Nat} (h : Lt m (x :: r)) : x < m := h x (List.mem_cons_self ..)
theorem Lt.append {m : Nat} {xs ys : List Nat} (h : Lt m xs) (k : Lt m ys) : Lt m (xs ++ ys) := fun x hx => by
  rcases List.mem_append.1 hx with hx | hx
  · exact h x hx
  · exact k x hx
theorem Lt.take {m : Nat} {xs : List Nat} (h : Lt m xs) (i : Nat) : Lt m (xs.take i) := fun x hx => h x (List.mem_of_mem_take hx)
theorem Lt.drop {m : Nat} {xs : List Nat} (h : Lt m xs) (i : Nat) : Lt m (xs.drop i) := fun x hx => h x (List.mem_of_mem_drop hx)
theorem Lt.getD {m : Nat} {xs : List Nat} (h : Lt m xs) (hm : 0 < m) (i : Nat) : xs.getD i 0 < m := by
  rw [List.getD_eq_getElem?_getD]
  cases hi : xs[i]? with
  | none => exact hm
  | some v => exact h v (List.mem_of_getElem? hi)
theorem val_lt (_ : 0 < B) {xs : List Nat} (h : Lt B xs) : val B xs < B ^ xs.length := by
  induction xs with
  | nil => simp [val]
  | cons x r ih =>
    have h1 := ih h.tail
    have h2 := h.head
    have h3 : B * (val B r + 1) ≤ B * B ^ r.length := Nat.mul_le_mul_left _ h1
    simp only [val_cons, List.length_cons, Nat.pow_succ]
    rw [Nat.mul_comm (B ^ r.length)]
    rw [Nat.mul_add] at h3
    omega
theorem dig_val {xs : List Nat} (h : Lt B xs) : dig B xs.length (val B xs) = xs := by
  induction xs with
  | nil => rfl
  | cons x r ih =>
    have h2 := h.head
    have hB : 0 < B := by omega
    have e1 : (x + B * val B r) % B = x := by rw [Nat.add_mul_mod_self_left, Nat.mod_eq_of_lt h2]
    have e2 : (x + B * val B r) / B = val B r := by rw [Nat.add_mul_div_left _ _ hB, Nat.div_eq_of_lt h2]; omega
    simp only [val_cons, List.length_cons, dig, e1, e2, ih h.tail]
theorem dig_mod (n m v : Nat) (h : n ≤ m) : dig B n (v % B ^ m) = dig B n v := by
  induction n generalizing v m with
  | zero => rfl
  | succ n ih =>
    obtain ⟨k, rfl⟩ : ∃ k, m = k + 1 := ⟨m - 1, by omega⟩
    simp only [dig]
    have e1 : v % B ^ (k + 1) % B = v % B := by rw [Nat.pow_succ]; exact Nat.mod_mul_left_mod _ _ _
    have e2 : v % B ^ (k + 1) / B = v / B % B ^ k := by
      rw [Nat.pow_succ, Nat.mul_comm, Nat.mod_mul_right_div_self]
    rw [e1, e2, ih _ _ (by omega)]
theorem val_append (xs ys : List Nat) : val B (xs ++ ys) = val B xs + B ^ xs.length * val B ys := by
  induction xs with
  | nil => simp [val]
  | cons x r ih => simp only [List.cons_append, val_cons, ih, List.length_cons, Nat.pow_succ, Nat.mul_add, Nat.add_assoc]; congr 2; rw [Nat.mul_comm (B ^ r.length) B, Nat.mul_assoc]
theorem dig_add (n m v : Nat) : dig B (n + m) v = dig B n v ++ dig B m (v / B ^ n) := by
  induction n generalizing v with
  | zero => simp [dig]
  | succ n ih => rw [Nat.add_right_comm]; simp only [dig, ih, List.cons_append, Nat.pow_succ]; rw [Nat.div_div_eq_div_mul, Nat.mul_comm B]
theorem dig_snoc (n v : Nat) : dig B (n + 1) v = dig B n v ++ [v / B ^ n % B] := by rw [dig_add]; simp [dig]
theorem dig_zero (n : Nat) : dig B n 0 = List.replicate n 0 := by
  induction n with
  | zero => rfl
  | succ n ih => simp [dig, ih, List.replicate_succ]
theorem getD_val {xs : List Nat} (h : Lt B xs) (i : Nat) : xs.getD i 0 = val B xs / B ^ i % B := by
  induction xs generalizing i with
  | nil => simp [val]
  | cons x r ih =>
    have h2 := h.head
    have hB : 0 < B := by omega
    have e2 : (x + B * val B r) / B = val B r := by rw [Nat.add_mul_div_left _ _ hB, Nat.div_eq_of_lt h2]; omega
    cases i with
    | zero => simp only [List.getD_cons_zero, val_cons, Nat.pow_zero, Nat.div_one, Nat.add_mul_mod_self_left, Nat.mod_eq_of_lt h2]
    | succ i => rw [List.getD_cons_succ, ih h.tail, val_cons, Nat.pow_succ, Nat.mul_comm (B ^ i), ← Nat.div_div_eq_div_mul, e2]
theorem getD_dig (n v i : Nat) (h : i < n) : (dig B n v).getD i 0 = v / B ^ i % B := by
  induction n generalizing v i with
  | zero => omega
  | succ n ih =>
    cases i with
    | zero => simp [dig]
    | succ i => rw [dig, List.getD_cons_succ, ih _ _ (by omega), Nat.pow_succ, Nat.mul_comm (B ^ i), Nat.div_div_eq_div_mul]
theorem getD_out {xs : List Nat} {i : Nat} (h : xs.length ≤ i) : xs.getD i 0 = 0 := by
  rw [List.getD_eq_getElem?_getD, List.getElem?_eq_none h]; rfl
theorem val_drop {xs : List Nat} (h : Lt B xs) (i : Nat) : val B (xs.drop i) = val B xs / B ^ i := by
  induction xs generalizing i with
  | nil => simp [val]
  | cons x r ih =>
    have h2 := h.head
    have hB : 0 < B := by omega
    have e2 : (x + B * val B r) / B = val B r := by rw [Nat.add_mul_div_left _ _ hB, Nat.div_eq_of_lt h2]; omega
    cases i with
    | zero => simp
    | succ i => rw [List.drop_succ_cons, ih h.tail, val_cons, Nat.pow_succ, Nat.mul_comm (B ^ i), ← Nat.div_div_eq_div_mul, e2]
/-- One place is written. -/
theorem val_set {xs : List Nat} (h : Lt B xs) (i y : Nat) (hi : i < xs.length) : val B (xs.set i y) + B ^ i * xs.getD i 0 = val B xs + B ^ i * y := by
  induction xs generalizing i with
  | nil => simp at hi
  | cons x r ih =>
    cases i with
    | zero => simp [val]; omega
    | succ i =>
      have := ih h.tail i (by simpa using hi)
      simp only [List.set_cons_succ, val_cons, List.getD_cons_succ, Nat.pow_succ]
      have e : ∀ z, B ^ i * B * z = B * (B ^ i * z) := fun z => by rw [Nat.mul_comm (B ^ i), Nat.mul_assoc]
      have h3 : B * (val B (r.set i y) + B ^ i * r.getD i 0) = B * (val B r + B ^ i * y) := by rw [this]
      rw [Nat.mul_add, Nat.mul_add] at h3
      rw [e, e]; omega
theorem Lt.set {m : Nat} {xs : List Nat} (h : Lt m xs) {y : Nat} (hy : y < m) (i : Nat) : Lt m (xs.set i y) := fun x hx => by
  rcases List.mem_or_eq_of_mem_set hx with hx | rfl
  · exact h x hx
  · exact hy
end
def W : Nat := 18446744073709551616
theorem W_pos : 0 < W := by decide
@[irreducible] def V (xs : List Nat) : Nat := val W xs
@[irreducible] def D (n v : Nat) : List Nat := dig W n v
theorem V_def (xs : List Nat) : V xs = val W xs := by unfold V; rfl
theorem D_def (n v : Nat) : D n v = dig W n v := by unfold D; rfl
theorem D_len (n v : Nat) : (D n v).length = n := by rw [D_def]; exact dig_len _ _
theorem D_lt (n v : Nat) : Lt 18446744073709551616 (D n v) := by rw [D_def]; exact dig_lt W_pos _ _
theorem V_D (n v : Nat) : V (D n v) = v % W ^ n := by rw [V_def, D_def]; exact val_dig _ _
theorem V_D' {n v : Nat} (h : v < W ^ n) : V (D n v) = v := by rw [V_D, Nat.mod_eq_of_lt h]
theorem D_V {xs : List Nat} (h : Lt 18446744073709551616 xs) : D xs.length (V xs) = xs := by rw [V_def, D_def]; exact dig_val h
theorem V_lt {xs : List Nat} (h : Lt 18446744073709551616 xs) : V xs < W ^ xs.length := by rw [V_def]; exact val_lt W_pos h
theorem V_nil : V [] = 0 := by rw [V_def]; rfl
theorem V_one (x : Nat) : V [x] = x := by rw [V_def]; simp [val]
theorem D_mod (n v : Nat) : D n (v % W ^ n) = D n v := by rw [D_def, D_def]; exact dig_mod _ _ _ (Nat.le_refl _)
theorem D_inj {n v v' : Nat} (h : D n v = D n v') : v % W ^ n = v' % W ^ n := by rw [← V_D, h, V_D]
theorem D_snoc (n v : Nat) : D (n + 1) v = D n v ++ [v / W ^ n % W] := by rw [D_def, D_def]; exact dig_snoc _ _
theorem D_0 (v : Nat) : D 0 v = [] := by rw [D_def]; rfl
theorem D_zero (n : Nat) : D n 0 = List.replicate n 0 := by rw [D_def]; exact dig_zero n
theorem D_add (n m v : Nat) : D (n + m) v = D n v ++ D m (v / W ^ n) := by simp only [D_def]; exact dig_add _ _ _
theorem V_append (xs ys : List Nat) : V (xs ++ ys) = V xs + W ^ xs.length * V ys := by simp only [V_def]; exact val_append _ _
theorem V_getD {xs : List Nat} (h : Lt 18446744073709551616 xs) (i : Nat) : xs.getD i 0 = V xs / W ^ i % W := by rw [V_def]; exact getD_val h i
theorem D_getD (n v i : Nat) (h : i < n) : (D n v).getD i 0 = v / W ^ i % W := by rw [D_def]; exact getD_dig n v i h
theorem V_drop {xs : List Nat} (h : Lt 18446744073709551616 xs) (i : Nat) : V (xs.drop i) = V xs / W ^ i := by simp only [V_def]; exact val_drop h i
theorem V_set {xs : List Nat} (h : Lt 18446744073709551616 xs) (i y : Nat) (hi : i < xs.length) : V (xs.set i y) + W ^ i * xs.getD i 0 = V xs + W ^ i * y := by simp only [V_def]; exact val_set h i y hi
theorem W_mod_succ (v n : Nat) : v % W ^ (n + 1) = v % W ^ n + W ^ n * (v / W ^ n % W) := mod_pow_succ' v n
theorem W_pow_pos (n : Nat) : 0 < W ^ n := Nat.pow_pos W_pos
theorem W_le {m n : Nat} (h : m ≤ n) : W ^ m ≤ W ^ n := Nat.pow_le_pow_right W_pos h
end Go.Proofs.Ytbpmbdlgmmabcaa.Num
namespace Go.Proofs.Ytbpmbdlgmmabcaa.Num
theorem split_p (A p : Nat) : A % p + p * (A / p) = A := Nat.mod_add_div A p
theorem add_digit (A B i : Nat) : (A + B) / W ^ i % W = (A / W ^ i % W + B / W ^ i % W + (A % W ^ i + B % W ^ i) / W ^ i) % W := by
  have hp := W_pow_pos i
  generalize W ^ i = p at *
  have hA := split_p A p
  have hB := split_p B p
  have e : A + B = (A % p + B % p) + p * (A / p + B / p) := by rw [Nat.mul_add]; omega
  conv => lhs; rw [e, Nat.add_mul_div_left _ _ hp]
  generalize A / p = x
  generalize B / p = y
  generalize (A % p + B % p) / p = c
  simp only [W]; omega
theorem add_carry (A B i : Nat) : (A % W ^ (i + 1) + B % W ^ (i + 1)) / W ^ (i + 1) = (A / W ^ i % W + B / W ^ i % W + (A % W ^ i + B % W ^ i) / W ^ i) / W := by
  rw [W_mod_succ, W_mod_succ, Nat.pow_succ, ← Nat.div_div_eq_div_mul]
  have hp := W_pow_pos i
  generalize W ^ i = p at *
  have e : A % p + p * (A / p % W) + (B % p + p * (B / p % W)) = (A % p + B % p) + p * (A / p % W + B / p % W) := by rw [Nat.mul_add]; omega
  rw [e, Nat.add_mul_div_left _ _ hp, Nat.add_comm ((A % p + B % p) / p)]
theorem add_step (A B i : Nat) : D (i + 1) (A + B) = D i (A + B) ++ [(A / W ^ i % W + B / W ^ i % W + (A % W ^ i + B % W ^ i) / W ^ i) % W] := by
  rw [D_snoc, add_digit]
def bw (A B i : Nat) : Nat := if A % W ^ i < B % W ^ i then 1 else 0
def sb (A B i : Nat) : Nat := A % W ^ i + W ^ i - B % W ^ i
theorem bw_le (A B i : Nat) : bw A B i ≤ 1 := by unfold bw; split <;> omega
theorem bw_0 (A B : Nat) : bw A B 0 = 0 := by simp [bw, Nat.mod_one]
theorem sub_carry (A B i : Nat) : bw A B (i + 1) = if A / W ^ i % W < B / W ^ i % W + bw A B i then 1 else 0 := by
  unfold bw
  rw [W_mod_succ, W_mod_succ]
  have hp := W_pow_pos i
  generalize W ^ i = p at *
  have h1 := Nat.mod_lt A hp
  have h2 := Nat.mod_lt B hp
  generalize A / p % W = x
  generalize B / p % W = y
  generalize A % p = a at *
  generalize B % p = b at *
  rcases Nat.lt_trichotomy x y with h | h | h
  · have := Nat.mul_le_mul_left p (show x + 1 ≤ y from h)
    rw [Nat.mul_add] at this
    rw [if_pos (show a + p * x < b + p * y by omega), if_pos (by split <;> omega)]
  · subst h
    by_cases hab : a < b
    · rw [if_pos (by omega), if_pos (by rw [if_pos hab]; omega)]
    · rw [if_neg (by omega), if_neg (by rw [if_neg hab]; omega)]
  · have := Nat.mul_le_mul_left p (show y + 1 ≤ x from h)
    rw [Nat.mul_add] at this
    rw [if_neg (show ¬ a + p * x < b + p * y by omega), if_neg (by split <;> omega)]
theorem sub_step (A B i : Nat) : D (i + 1) (sb A B (i + 1)) = D i (sb A B i) ++ [(A / W ^ i % W + 18446744073709551616 - B / W ^ i % W - bw A B i) % W] := by
  have hp := W_pow_pos i
  have h1 := Nat.mod_lt A hp
  have h2 := Nat.mod_lt B hp
  have hx : A / W ^ i % W < W := Nat.mod_lt _ W_pos
  have hy : B / W ^ i % W < W := Nat.mod_lt _ W_pos
  have hW : W = 18446744073709551616 := rfl
  have e : sb A B (i + 1) = sb A B i + W ^ i * (A / W ^ i % W + W - B / W ^ i % W - 1) := by
    unfold sb
    rw [W_mod_succ, W_mod_succ, Nat.pow_succ]
    generalize W ^ i = p at *
    generalize A / p % W = x at *
    generalize B / p % W = y at *
    have e2 : p * (x + W - y - 1) + p * y + p = p * x + p * W := by
      rw [← Nat.mul_add, ← Nat.mul_succ, ← Nat.mul_add]; congr 1; omega
    omega
  rw [D_snoc, e]
  have e3 : D i (sb A B i + W ^ i * (A / W ^ i % W + W - B / W ^ i % W - 1)) = D i (sb A B i) := by
    rw [← D_mod, Nat.add_mul_mod_self_left, D_mod]
  rw [e3, Nat.add_mul_div_left _ _ hp]
  have e4 : sb A B i / W ^ i = 1 - bw A B i := by
    unfold sb bw
    by_cases hab : A % W ^ i < B % W ^ i
    · rw [if_pos hab, Nat.div_eq_of_lt (by omega)]
    · rw [if_neg hab]
      generalize W ^ i = p at *
      generalize A % p = a at *
      generalize B % p = b at *
      rw [show a + p - b = (a - b) + p * 1 by omega, Nat.add_mul_div_left _ _ hp, Nat.div_eq_of_lt (by omega)]
  rw [e4]
  have := bw_le A B i
  congr 2
  generalize A / W ^ i % W = x at *
  generalize B / W ^ i % W = y at *
  generalize bw A B i = b at *
  rw [hW] at *
  rw [show 1 - b + (x + 18446744073709551616 - y - 1) = x + 18446744073709551616 - y - b by omega]
def crun (g : Nat → Nat → Nat → Nat × Nat) (xs ys : List Nat) : Nat → List Nat × Nat
  | 0 => ([], 0)
  | i + 1 => ((crun g xs ys i).1 ++ [(g (xs.getD i 0) (ys.getD i 0) (crun g xs ys i).2).1], (g (xs.getD i 0) (ys.getD i 0) (crun g xs ys i).2).2)
theorem crun_len (g : Nat → Nat → Nat → Nat × Nat) (xs ys : List Nat) (i : Nat) : (crun g xs ys i).1.length = i := by
  induction i with
  | zero => rfl
  | succ i ih => simp [crun, ih]
theorem crun_0 (g : Nat → Nat → Nat → Nat × Nat) (xs ys : List Nat) : crun g xs ys 0 = ([], 0) := rfl
theorem crun_fst (g : Nat → Nat → Nat → Nat × Nat) (xs ys : List Nat) (i : Nat) : (crun g xs ys (i + 1)).1 = (crun g xs ys i).1 ++ [(g (xs.getD i 0) (ys.getD i 0) (crun g xs ys i).2).1] := rfl
theorem crun_snd (g : Nat → Nat → Nat → Nat × Nat) (xs ys : List Nat) (i : Nat) : (crun g xs ys (i + 1)).2 = (g (xs.getD i 0) (ys.getD i 0) (crun g xs ys i).2).2 := rfl
theorem crun_le {g : Nat → Nat → Nat → Nat × Nat} (hg : ∀ x y c, x < 18446744073709551616 → y < 18446744073709551616 → c ≤ 1 → (g x y c).2 ≤ 1) {xs ys : List Nat} (hx : Lt 18446744073709551616 xs) (hy : Lt 18446744073709551616 ys) (i : Nat) : (crun g xs ys i).2 ≤ 1 := by
  induction i with
  | zero => exact Nat.zero_le _
  | succ i ih => exact hg _ _ _ (hx.getD (by decide) i) (hy.getD (by decide) i) ih
def addg (x y c : Nat) : Nat × Nat := ((x + y + c) % 18446744073709551616, (x + y + c) / 18446744073709551616)
def subg (x y c : Nat) : Nat × Nat := ((x + 18446744073709551616 - y - c) % 18446744073709551616, if x < y + c then 1 else 0)
theorem addg_le (x y c : Nat) (hx : x < 18446744073709551616) (hy : y < 18446744073709551616) (hc : c ≤ 1) : (addg x y c).2 ≤ 1 := by
  simp only [addg]; omega
theorem subg_le (x y c : Nat) (_ : x < 18446744073709551616) (_ : y < 18446744073709551616) (_ : c ≤ 1) : (subg x y c).2 ≤ 1 := by
  simp only [subg]; split <;> omega
theorem crun_add {xs ys : List Nat} (hx : Lt 18446744073709551616 xs) (hy : Lt 18446744073709551616 ys) (i : Nat) :
    crun addg xs ys i = (D i (V xs + V ys), (V xs % W ^ i + V ys % W ^ i) / W ^ i) := by
  induction i with
  | zero => simp [crun, D_0, Nat.mod_one]
  | succ i ih =>
    have e1 := crun_fst addg xs ys i
    have e2 := crun_snd addg xs ys i
    rw [ih] at e1 e2
    rw [add_step, add_carry]
    refine Prod.ext ?_ ?_
    · rw [e1, V_getD hx, V_getD hy]; rfl
    · rw [e2, V_getD hx, V_getD hy]; rfl
theorem crun_sub {xs ys : List Nat} (hx : Lt 18446744073709551616 xs) (hy : Lt 18446744073709551616 ys) (i : Nat) :
    crun subg xs ys i = (D i (sb (V xs) (V ys) i), bw (V xs) (V ys) i) := by
  induction i with
  | zero => simp [crun, D_0, bw_0]
  | succ i ih =>
    have e1 := crun_fst subg xs ys i
    have e2 := crun_snd subg xs ys i
    rw [ih] at e1 e2
    rw [sub_step, sub_carry]
    refine Prod.ext ?_ ?_
    · rw [e1, V_getD hx, V_getD hy]; rfl
    · rw [e2, V_getD hx, V_getD hy]; rfl
theorem V_lt_le {xs : List Nat} (h : Lt 18446744073709551616 xs) {n : Nat} (hn : xs.length ≤ n) : V xs < W ^ n := Nat.lt_of_lt_of_le (V_lt h) (W_le hn)
theorem crun_add_end {xs ys : List Nat} (hx : Lt 18446744073709551616 xs) (hy : Lt 18446744073709551616 ys) {n : Nat} (h1 : xs.length ≤ n) (h2 : ys.length ≤ n) :
    crun addg xs ys n = (D n (V xs + V ys), (V xs + V ys) / W ^ n) := by
  rw [crun_add hx hy, Nat.mod_eq_of_lt (V_lt_le hx h1), Nat.mod_eq_of_lt (V_lt_le hy h2)]
/-- A difference, of so many words. -/
def sbn (n A B : Nat) : Nat := A + W ^ n - B
def bwn (A B : Nat) : Nat := if A < B then 1 else 0
theorem crun_sub_end {xs ys : List Nat} (hx : Lt 18446744073709551616 xs) (hy : Lt 18446744073709551616 ys) {n : Nat} (h1 : xs.length ≤ n) (h2 : ys.length ≤ n) :
    crun subg xs ys n = (D n (sbn n (V xs) (V ys)), bwn (V xs) (V ys)) := by
  rw [crun_sub hx hy]; unfold sb bw sbn bwn
  rw [Nat.mod_eq_of_lt (V_lt_le hx h1), Nat.mod_eq_of_lt (V_lt_le hy h2)]
theorem crun_set (g : Nat → Nat → Nat → Nat × Nat) (xs ys : List Nat) (i n : Nat) (h : i < n) (y : Nat) : ((crun g xs ys i).1 ++ List.replicate (n - i) 0).set i y = (crun g xs ys i).1 ++ [y] ++ List.replicate (n - (i + 1)) 0 := by
  have hl := crun_len g xs ys i
  rw [List.set_append_right _ _ (by omega), hl, Nat.sub_self, show n - i = (n - (i + 1)) + 1 by omega, List.replicate_succ, List.set_cons_zero, List.append_assoc]; rfl
attribute [irreducible] crun
def ord3 (A B : Nat) : Int := if A < B then -1 else if A = B then 0 else 1
theorem ord3_lt {A B : Nat} (h : A < B) : ord3 A B = -1 := if_pos h
theorem ord3_eq {A B : Nat} (h : A = B) : ord3 A B = 0 := by unfold ord3; rw [if_neg (by omega), if_pos h]
theorem ord3_gt {A B : Nat} (h : B < A) : ord3 A B = 1 := by unfold ord3; rw [if_neg (by omega), if_neg (by omega)]
theorem div_top (A j : Nat) : A / W ^ j = W * (A / W ^ (j + 1)) + A / W ^ j % W := by
  rw [Nat.pow_succ, ← Nat.div_div_eq_div_mul]; exact (Nat.div_add_mod _ _).symm
theorem ord_same {A B j : Nat} (h : A / W ^ (j + 1) = B / W ^ (j + 1)) (hd : A / W ^ j % W = B / W ^ j % W) : A / W ^ j = B / W ^ j := by
  rw [div_top A, div_top B, h, hd]
theorem ord_less {A B j : Nat} (h : A / W ^ (j + 1) = B / W ^ (j + 1)) (hd : A / W ^ j % W < B / W ^ j % W) : A < B := by
  have h1 : A / W ^ j < B / W ^ j := by rw [div_top A, div_top B, h]; omega
  rcases Nat.lt_or_ge A B with h2 | h2
  · exact h2
  · have := Nat.div_le_div_right (c := W ^ j) h2; omega
theorem mul_bound {x y : Nat} (hx : x < 18446744073709551616) (hy : y < 18446744073709551616) : x * y ≤ 340282366920938463426481119284349108225 :=
  Nat.mul_le_mul (show x ≤ 18446744073709551615 by omega) (show y ≤ 18446744073709551615 by omega)
theorem mul64_hi (x y : Nat) (hx : x < 18446744073709551616) (hy : y < 18446744073709551616) :
    (x % 4294967296) * (y % 4294967296) < 18446744073709551616 ∧
    (x / 4294967296) * (y % 4294967296) + (x % 4294967296) * (y % 4294967296) / 4294967296 < 18446744073709551616 ∧
    ((x / 4294967296) * (y % 4294967296) + (x % 4294967296) * (y % 4294967296) / 4294967296) % 4294967296 + (x % 4294967296) * (y / 4294967296) < 18446744073709551616 ∧
    (x / 4294967296) * (y / 4294967296) + ((x / 4294967296) * (y % 4294967296) + (x % 4294967296) * (y % 4294967296) / 4294967296) / 4294967296 +
      (((x / 4294967296) * (y % 4294967296) + (x % 4294967296) * (y % 4294967296) / 4294967296) % 4294967296 + (x % 4294967296) * (y / 4294967296)) / 4294967296 = x * y / 18446744073709551616 := by
  have hx1 : x / 4294967296 ≤ 4294967295 := by omega
  have hx0 : x % 4294967296 ≤ 4294967295 := by omega
  have hy1 : y / 4294967296 ≤ 4294967295 := by omega
  have hy0 : y % 4294967296 ≤ 4294967295 := by omega
  have e : x * y = x / 4294967296 * (y / 4294967296) * 18446744073709551616 + (x / 4294967296 * (y % 4294967296) + x % 4294967296 * (y / 4294967296)) * 4294967296 + x % 4294967296 * (y % 4294967296) := by
    have h1 : x = x / 4294967296 * 4294967296 + x % 4294967296 := by omega
    have h2 : y = y / 4294967296 * 4294967296 + y % 4294967296 := by omega
    generalize x / 4294967296 = p at *
    generalize x % 4294967296 = q at *
    generalize y / 4294967296 = r at *
    generalize y % 4294967296 = s at *
    subst h1; subst h2
    grind
  have ha := Nat.mul_le_mul hx1 hy1
  have hb := Nat.mul_le_mul hx1 hy0
  have hc := Nat.mul_le_mul hx0 hy1
  have hd := Nat.mul_le_mul hx0 hy0
  rw [e]
  generalize x / 4294967296 * (y / 4294967296) = a at *
  generalize x / 4294967296 * (y % 4294967296) = b at *
  generalize x % 4294967296 * (y / 4294967296) = c at *
  generalize x % 4294967296 * (y % 4294967296) = d at *
  refine ⟨by omega, by omega, by omega, by omega⟩
/-- One word of a product, added to what is there. -/
theorem mul_word {p c s : Nat} (hp : p < 18446744073709551616) (hc : c < 18446744073709551616) (hs : s ≤ 340282366920938463426481119284349108225) :
    (p + (s % 18446744073709551616 + c) % 18446744073709551616) % 18446744073709551616 + 18446744073709551616 * ((((s / 18446744073709551616 + (s % 18446744073709551616 + c) / 18446744073709551616) % 18446744073709551616) +
      (p + (s % 18446744073709551616 + c) % 18446744073709551616) / 18446744073709551616) % 18446744073709551616) = p + s + c ∧
    (((s / 18446744073709551616 + (s % 18446744073709551616 + c) / 18446744073709551616) % 18446744073709551616) + (p + (s % 18446744073709551616 + c) % 18446744073709551616) / 18446744073709551616) % 18446744073709551616 < 18446744073709551616 := by
  omega
end Go.Proofs.Ytbpmbdlgmmabcaa.Num
namespace Go.Proofs.Ytbpmbdlgmmabcaa.Num
theorem mul64_mod {a b d e H : Nat} (h1 : e < 18446744073709551616) (h2 : b + e / 4294967296 < 18446744073709551616) (h3 : (b + e / 4294967296) % 4294967296 + d < 18446744073709551616)
    (h4 : a + (b + e / 4294967296) / 4294967296 + ((b + e / 4294967296) % 4294967296 + d) / 4294967296 = H) (h5 : H < 18446744073709551616) :
    ((a % 18446744073709551616 + (b % 18446744073709551616 + e % 18446744073709551616 / 4294967296) % 18446744073709551616 / 4294967296) % 18446744073709551616 +
      ((b % 18446744073709551616 + e % 18446744073709551616 / 4294967296) % 18446744073709551616 % 4294967296 + d % 18446744073709551616) % 18446744073709551616 / 4294967296) % 18446744073709551616 = H := by
  have hb : b < 18446744073709551616 := Nat.lt_of_le_of_lt (Nat.le_add_right _ _) h2
  have hd : d < 18446744073709551616 := Nat.lt_of_le_of_lt (Nat.le_add_left _ _) h3
  have h6 : a + (b + e / 4294967296) / 4294967296 < 18446744073709551616 := Nat.lt_of_le_of_lt (Nat.le_add_right _ _) (h4 ▸ h5)
  have ha : a < 18446744073709551616 := Nat.lt_of_le_of_lt (Nat.le_add_right _ _) h6
  rw [Nat.mod_eq_of_lt h1, Nat.mod_eq_of_lt hb, Nat.mod_eq_of_lt h2, Nat.mod_eq_of_lt hd, Nat.mod_eq_of_lt h3, Nat.mod_eq_of_lt ha, Nat.mod_eq_of_lt h6, h4, Nat.mod_eq_of_lt h5]
/-- The quotient is no more than what the highest halves give. -/
theorem qhat_ge {u u1 v1 v0 : Nat} (hv1 : 0 < v1) (h1 : u1 < 4294967296) : (u * 4294967296 + u1) / (v1 * 4294967296 + v0) ≤ u / v1 := by
  rw [Nat.le_div_iff_mul_le hv1]
  have h := Nat.div_mul_le_self (u * 4294967296 + u1) (v1 * 4294967296 + v0)
  generalize (u * 4294967296 + u1) / (v1 * 4294967296 + v0) = q at *
  rw [Nat.mul_add q, ← Nat.mul_assoc q v1] at h
  omega
theorem qkey {A B r u u1 : Nat} (h : A + r = u) (h2 : r * 4294967296 + u1 < B) : u * 4294967296 + u1 < A * 4294967296 + B := by
  subst h; rw [Nat.add_mul, Nat.add_assoc]; exact Nat.add_lt_add_left h2 _
/-- A guess that is too great. -/
theorem qhat_step {u u1 v1 v0 q r : Nat} (hu : u < v1 * 4294967296 + v0) (hqr : q * v1 + r = u) (h1 : u1 < 4294967296) (hc : 4294967296 ≤ q ∨ r * 4294967296 + u1 < q * v0) :
    (u * 4294967296 + u1) / (v1 * 4294967296 + v0) < q := by
  have hp : 0 < v1 * 4294967296 + v0 := by omega
  rw [Nat.div_lt_iff_lt_mul hp]
  rcases hc with hc | hc
  · have h2 := Nat.mul_le_mul_right (v1 * 4294967296 + v0) hc
    have h3 := Nat.mul_le_mul_left 4294967296 (show u + 1 ≤ v1 * 4294967296 + v0 from hu)
    omega
  · rw [Nat.mul_add q, ← Nat.mul_assoc q v1]
    exact qkey hqr hc
/-- A guess that is not. -/
theorem qhat_stop {u u1 v1 v0 q r : Nat} (hp : 0 < v1 * 4294967296 + v0) (hqr : q * v1 + r = u) (hc : q * v0 ≤ r * 4294967296 + u1) (hq : (u * 4294967296 + u1) / (v1 * 4294967296 + v0) ≤ q) :
    q = (u * 4294967296 + u1) / (v1 * 4294967296 + v0) := by
  refine Nat.le_antisymm ?_ hq
  rw [Nat.le_div_iff_mul_le hp, Nat.mul_add q, ← Nat.mul_assoc q v1]
  omega
theorem qhat_break {u u1 v1 v0 q r : Nat} (hv0 : v0 < 4294967296) (hu : u < v1 * 4294967296 + v0) (hqr : q * v1 + r = u) (hr : 4294967296 ≤ r) : q * v0 ≤ r * 4294967296 + u1 := by
  have hq : q ≤ 4294967296 := by
    rcases Nat.lt_or_ge 4294967296 q with h | h
    · exfalso
      have h2 := Nat.mul_le_mul_right v1 (show 4294967297 ≤ q from h)
      omega
    · exact h
  have h3 : q * v0 ≤ 4294967296 * 4294967296 := Nat.mul_le_mul hq (by omega)
  have h4 : 4294967296 * 4294967296 ≤ r * 4294967296 := Nat.mul_le_mul_right _ hr
  omega
theorem qhat_lt {u u1 y : Nat} (hu : u < y) (h1 : u1 < 4294967296) : (u * 4294967296 + u1) / y < 4294967296 := by
  rw [Nat.div_lt_iff_lt_mul (by omega)]
  have := Nat.mul_le_mul_left 4294967296 (show u + 1 ≤ y from hu)
  omega
/-- Both halves together. -/
theorem div_two {u u1 u0 y : Nat} (hy : 0 < y) :
    ((u * 4294967296 + u1) / y) * 4294967296 + (((u * 4294967296 + u1) % y) * 4294967296 + u0) / y = (u * 18446744073709551616 + (u1 * 4294967296 + u0)) / y ∧
    (((u * 4294967296 + u1) % y) * 4294967296 + u0) % y = (u * 18446744073709551616 + (u1 * 4294967296 + u0)) % y := by
  have h1 := Nat.div_add_mod (u * 4294967296 + u1) y
  have h2 := Nat.div_add_mod (((u * 4294967296 + u1) % y) * 4294967296 + u0) y
  have h3 := Nat.mod_lt (((u * 4294967296 + u1) % y) * 4294967296 + u0) hy
  obtain ⟨a, ha⟩ : ∃ a, a = (u * 4294967296 + u1) / y := ⟨_, rfl⟩
  obtain ⟨b, hb⟩ : ∃ b, b = (u * 4294967296 + u1) % y := ⟨_, rfl⟩
  rw [← ha, ← hb] at h1
  rw [← hb] at h2 h3
  rw [← ha, ← hb]
  obtain ⟨d, hd⟩ : ∃ d, d = (b * 4294967296 + u0) / y := ⟨_, rfl⟩
  obtain ⟨e, he⟩ : ∃ e, e = (b * 4294967296 + u0) % y := ⟨_, rfl⟩
  rw [← hd, ← he] at h2
  rw [← he] at h3
  rw [← hd, ← he]
  have e1 : u * 18446744073709551616 + (u1 * 4294967296 + u0) = y * (a * 4294967296 + d) + e := by
    rw [Nat.mul_add y, ← Nat.mul_assoc y a]
    omega
  rw [e1]
  have e2 : (y * (a * 4294967296 + d) + e) / y = a * 4294967296 + d := by rw [Nat.mul_add_div hy, Nat.div_eq_of_lt h3, Nat.add_zero]
  have e3 : (y * (a * 4294967296 + d) + e) % y = e := by rw [Nat.mul_add_mod y, Nat.mod_eq_of_lt h3]
  exact ⟨e2.symm, e3.symm⟩
theorem norm_div {hi lo y s : Nat} (hy : hi < y) (hlo : lo < 18446744073709551616) (hs : s ≤ 64) :
    (hi * 2 ^ s + lo / 2 ^ (64 - s)) * 18446744073709551616 + lo * 2 ^ s % 18446744073709551616 = (hi * 18446744073709551616 + lo) * 2 ^ s ∧ hi * 2 ^ s + lo / 2 ^ (64 - s) < y * 2 ^ s := by
  have hW : (18446744073709551616 : Nat) = 2 ^ (64 - s) * 2 ^ s := by rw [← Nat.pow_add, show 64 - s + s = 64 by omega]
  have hq : lo * 2 ^ s / 18446744073709551616 = lo / 2 ^ (64 - s) := by rw [hW, Nat.mul_div_mul_right _ _ (Nat.two_pow_pos s)]
  have hd := Nat.div_add_mod (lo * 2 ^ s) 18446744073709551616
  rw [hq] at hd
  have hl : lo / 2 ^ (64 - s) < 2 ^ s := by
    rw [Nat.div_lt_iff_lt_mul (Nat.two_pow_pos _), Nat.mul_comm, ← hW]; exact hlo
  have hm := Nat.mul_le_mul_right (2 ^ s) (show hi + 1 ≤ y from hy)
  rw [Nat.add_mul, Nat.one_mul] at hm
  refine ⟨?_, by omega⟩
  rw [Nat.add_mul, Nat.add_mul (hi * 18446744073709551616), show hi * 18446744073709551616 * 2 ^ s = hi * 2 ^ s * 18446744073709551616 by rw [Nat.mul_assoc, Nat.mul_comm 18446744073709551616, Nat.mul_assoc], Nat.add_assoc, Nat.mul_comm (lo / 2 ^ (64 - s)), hd]
theorem or_plus {a b s : Nat} (hb : b < 2 ^ s) : a * 2 ^ s ||| b = a * 2 ^ s + b := by
  rw [Nat.mul_comm, Nat.two_pow_add_eq_or_of_lt hb]
theorem wrap_sub {a b c d : Nat} (h : a + b = c + d) (hd : d < 18446744073709551616) :
    ((a % 18446744073709551616 + b) % 18446744073709551616 + (18446744073709551616 - c % 18446744073709551616 % 18446744073709551616)) % 18446744073709551616 = d := by
  have e1 : (a % 18446744073709551616 + b) % 18446744073709551616 = (a + b) % 18446744073709551616 := by omega
  rw [e1, h]; omega
theorem wrap_sub1 {a c d : Nat} (h : a = c + d) (hd : d < 18446744073709551616) :
    (a + (18446744073709551616 - c % 18446744073709551616 % 18446744073709551616)) % 18446744073709551616 = d := by
  subst h; omega
theorem wrap_dec {q : Nat} (h : 0 < q) (hq : q < 18446744073709551616) : (q + (18446744073709551616 - 1 % 18446744073709551616)) % 18446744073709551616 = q - 1 := by omega
theorem div_rem_eq (a b : Nat) : a = a / b * b + a % b := by rw [Nat.mul_comm]; exact (Nat.div_add_mod a b).symm
def bl (x : Nat) : Nat := if x = 0 then 0 else x.log2 + 1
theorem bl_spec (x : Nat) (h : 0 < x) : x < 2 ^ bl x ∧ 2 ^ (bl x - 1) ≤ x ∧ 0 < bl x := by
  unfold bl
  rw [if_neg (by omega)]
  exact ⟨Nat.lt_log2_self, by simpa using Nat.log2_self_le (by omega), by omega⟩
theorem bl_shift (x k : Nat) (h : 2 ^ k ≤ x) : bl x = k + bl (x >>> k) := by
  have hp : 0 < 2 ^ k := Nat.two_pow_pos k
  have hq : 0 < x / 2 ^ k := Nat.div_pos h hp
  have hx : x ≠ 0 := by omega
  rw [Nat.shiftRight_eq_div_pow]
  unfold bl
  rw [if_neg hx, if_neg (by omega)]
  have h1 := Nat.log2_self_le (show x / 2 ^ k ≠ 0 by omega)
  have h2 : x / 2 ^ k < 2 ^ ((x / 2 ^ k).log2 + 1) := Nat.lt_log2_self
  have e : x.log2 = (x / 2 ^ k).log2 + k := (Nat.log2_eq_iff hx).2
    ⟨by rw [Nat.pow_add]; exact (Nat.le_div_iff_mul_le hp).1 h1, by rw [show (x / 2 ^ k).log2 + k + 1 = ((x / 2 ^ k).log2 + 1) + k by omega, Nat.pow_add]; exact (Nat.div_lt_iff_lt_mul hp).1 h2⟩
  omega
theorem bl_le (x k : Nat) (h : x < 2 ^ k) : bl x ≤ k := by
  unfold bl
  split
  · omega
  · rename_i h0
    have := (Nat.log2_lt h0).2 h
    omega
attribute [irreducible] bl
theorem mul_inner {vP vP' p new c c' x y wi wk T bk : Nat} (h1 : vP' + wi * wk * p = vP + wi * wk * new) (h2 : new + W * c' = p + x * y + c) (h3 : vP + wi * wk * c = T + x * wi * bk) :
    vP' + wi * (wk * W) * c' = T + x * wi * (bk + wk * y) := by
  have e1 : wi * wk * new + wi * wk * (W * c') = wi * wk * p + wi * wk * (x * y) + wi * wk * c := by rw [← Nat.mul_add, h2, Nat.mul_add, Nat.mul_add]
  have e2 : wi * wk * (x * y) = x * wi * (wk * y) := by ac_rfl
  have e3 : wi * wk * (W * c') = wi * (wk * W) * c' := by ac_rfl
  rw [Nat.mul_add (x * wi)]
  rw [e2, e3] at e1
  generalize wi * wk * p = a1 at *
  generalize wi * wk * new = a2 at *
  generalize wi * wk * c = a3 at *
  generalize x * wi * bk = a4 at *
  generalize x * wi * (wk * y) = a5 at *
  generalize wi * (wk * W) * c' = a6 at *
  omega
theorem mul_outer (A B i : Nat) : A % W ^ i * B + A / W ^ i % W * W ^ i * B = A % W ^ (i + 1) * B := by
  rw [W_mod_succ, Nat.add_mul, Nat.mul_comm (W ^ i)]
theorem set_mid {P : List Nat} {i m : Nat} (h : P.length = i) (hm : 0 < m) (c : Nat) : (P ++ List.replicate m 0).set i c = (P ++ [c]) ++ List.replicate (m - 1) 0 := by
  rw [List.set_append_right _ _ (by omega), h, Nat.sub_self]
  obtain ⟨k, rfl⟩ : ∃ k, m = k + 1 := ⟨m - 1, by omega⟩
  simp [List.replicate_succ]
theorem set_low {P : List Nat} {i m : Nat} (h : i < P.length) (c : Nat) : (P ++ List.replicate m 0).set i c = P.set i c ++ List.replicate m 0 := by
  rw [List.set_append_left _ _ h]
theorem getD_low {P Q : List Nat} {i : Nat} (h : i < P.length) : (P ++ Q).getD i 0 = P.getD i 0 := by
  rw [List.getD_eq_getElem?_getD, List.getD_eq_getElem?_getD, List.getElem?_append_left h]
theorem V_snoc {P : List Nat} {i : Nat} (h : P.length = i) (c : Nat) : V (P ++ [c]) = V P + W ^ i * c := by rw [V_append, V_one, h]
theorem D_of_V {P : List Nat} {n v : Nat} (h : Lt 18446744073709551616 P) (hl : P.length = n) (hv : V P = v) : P = D n v := by
  rw [← hv, ← hl, D_V h]
theorem quo_lt {a b t : Nat} (ha : a < t) (hb : b < 18446744073709551616) : (a * 18446744073709551616 + b) / t < 18446744073709551616 := by
  rw [Nat.div_lt_iff_lt_mul (by omega)]
  have := Nat.mul_le_mul_left 18446744073709551616 (show a + 1 ≤ t from ha)
  omega
end Go.Proofs.Ytbpmbdlgmmabcaa.Num
namespace Go.Proofs.Ytbpmbdlgmmabcaa.Num
theorem W_2 : W = 2 ^ 64 := by decide
/-- A bit of a number. -/
theorem word_bit (A i : Nat) : ((A / W ^ (i / 64) % W) >>> (i % 64)) % 2 = A / 2 ^ i % 2 := by
  have hk := Nat.div_add_mod i 64
  have hr : i % 64 < 64 := Nat.mod_lt _ (by decide)
  have e1 : A / 2 ^ i = A / W ^ (i / 64) / 2 ^ (i % 64) := by
    conv => lhs; rw [← hk, Nat.pow_add, Nat.pow_mul, ← W_2, ← Nat.div_div_eq_div_mul]
  rw [e1]
  generalize A / W ^ (i / 64) = z
  rw [Nat.shiftRight_eq_div_pow]
  have e3 : W = 2 ^ (i % 64) * (2 * 2 ^ (63 - i % 64)) := by
    rw [W_2, ← Nat.pow_succ', ← Nat.pow_add, show i % 64 + (63 - i % 64 + 1) = 64 by omega]
  rw [e3, Nat.mod_mul_right_div_self, Nat.mod_mul_right_mod]
theorem bit_step (A i : Nat) : A / 2 ^ i = 2 * (A / 2 ^ (i + 1)) + A / 2 ^ i % 2 := by
  have := Nat.div_add_mod (A / 2 ^ i) 2
  rw [Nat.div_div_eq_div_mul, ← Nat.pow_succ] at this
  exact this.symm
end Go.Proofs.Ytbpmbdlgmmabcaa.Num
namespace Go.Proofs.Ytbpmbdlgmmabcaa.L
open Go
section
variable {P : Program} {c : Cx} {n : Nat} {l : Sl} {W : List Res} {B Q : Exit → Act → World → Prop}
theorem st_scope0 {x : Code} (h : Go c n l W (x.wp P (Af P (Exit.noGoto B) []))) : Go c n l W ((Code.scope x).wp P (Af P B [])) :=
  fun a w ha hw => wp_scope_straight (wp_mono (h a w ha hw) fun e a w hq => by cases e <;> exact hq)
theorem st_ng_ret (h : Go c n l W (Q .ret)) : Go c n l W (Exit.noGoto Q .ret) := h
variable {ops : Array Oper} {rest : List Oper} {d : Nat} {T : TypeId} {pos : String} {after : Array Edge}
theorem st_udiv {k : IntKind} {m : Nat} {x y : Operand} {a0 b0 : Nat} {xt yt : TypeId} (hx : ev l x = some (N k a0)) (hy : ev l y = some (N k b0)) (hm : ub k = some m) (h0 : 0 < b0) (hb : a0 < m)
    (hn : Nat.blt d n = true) (hk : Go c n ((d, N k (a0 / b0)) :: l) W (wpList P ops Q rest)) :
    Go c n l W (wpList P ops Q (⟨some d, .binOp .quo xt x y yt, T, pos, after, none⟩ :: rest)) :=
  st_val rfl rfl hn (fun a w ha _ => by
    have e : (a0 : Int).tdiv b0 = ((a0 / b0 : Nat) : Int) := by rw [Int.tdiv_eq_ediv_of_nonneg (by omega)]; simp
    have hq : a0 / b0 ≤ a0 := Nat.div_le_self _ _
    have h : k.wrap ((a0 : Int) / (b0 : Int)) = (a0 : Int) / b0 := by
      have := ub_wrap_nat hm (a0 / b0)
      rw [Nat.mod_eq_of_lt (by omega)] at this
      simpa using this
    have hz' : ¬ (b0 = 0) := by omega
    simp [execOp, ha.ev hx, ha.ev hy, eqGuard, binOp, Op.intDiv, hz', e, h]) hk
theorem st_umod {k : IntKind} {x y : Operand} {a0 b0 : Nat} {xt yt : TypeId} (hx : ev l x = some (N k a0)) (hy : ev l y = some (N k b0)) (h0 : 0 < b0)
    (hn : Nat.blt d n = true) (hk : Go c n ((d, N k (a0 % b0)) :: l) W (wpList P ops Q rest)) :
    Go c n l W (wpList P ops Q (⟨some d, .binOp .rem xt x y yt, T, pos, after, none⟩ :: rest)) :=
  st_val rfl rfl hn (fun a w ha _ => by
    have e : (a0 : Int).tmod b0 = ((a0 % b0 : Nat) : Int) := by rw [Int.tmod_eq_emod_of_nonneg (by omega)]; simp
    have hz' : ¬ (b0 = 0) := by omega
    simp [execOp, ha.ev hx, ha.ev hy, eqGuard, binOp, Op.intDiv, hz', e]) hk
/-- A byte of a constant table of 256. -/
theorem st_index_tab {x y : Operand} {s : ByteArray} {k : IntKind} {i : Nat} {t : TypeId} (f : Nat → Nat) (hx : ev l x = some (.string s)) (hy : ev l y = some (N k i)) (ht : P.underlying t = some .string) (hi : i < 256) (hs : s.size = 256)
    (hv : (List.range 256).all (fun j => (s.data.getD j 0).toNat == f j) = true) (hn : Nat.blt d n = true) (hk : Go c n ((d, N .u8 (f i)) :: l) W (wpList P ops Q rest)) :
    Go c n l W (wpList P ops Q (⟨some d, .index t x y, T, pos, after, none⟩ :: rest)) :=
  st_val rfl rfl hn (fun a w ha _ => by
    have h := run_index_string (P := P) w t s k (Int.ofNat i) ht
    have h1 : (0 : Int) ≤ Int.ofNat i ∧ Int.ofNat i < s.size := ⟨Int.natCast_nonneg i, by rw [hs]; show (i : Int) < 256; omega⟩
    rw [dif_pos h1] at h
    have hf := List.all_eq_true.1 hv i (List.mem_range.2 hi)
    have e : (s[(Int.ofNat i).toNat]'(by have := h1.2; rw [hs] at this ⊢; simp at this ⊢; omega)).toNat = f i := by
      rw [← eq_of_beq hf]
      have hd : i < s.data.size := by have : s.data.size = s.size := rfl; omega
      rw [Array.getD_eq_getD_getElem?, Array.getElem?_eq_getElem hd]; rfl
    simp only [execOp, ha.ev hx, ha.ev hy, Sem.run_bind, h, Result.andThen_ok, e]; rfl) hk
end
end Go.Proofs.Ytbpmbdlgmmabcaa.L
namespace Go.Proofs.Ytbpmbdlgmmabcaa.L
open Go
section
variable {P : Program} {c : Cx} {n : Nat} {l : Sl} {W : List Res} {B : Exit → Act → World → Prop} {k : List Fr}
theorem st_block_join {ι : Type} {id : Nat} {x : Code} (I : ι → Prop) (lm : ι → Sl) (Wm : ι → List Res)
    (h1 : Go c n l W (x.wp P (Af P B (.blk id :: .inv (Met c n I lm Wm) :: k))))
    (h2 : ∀ j, I j → Go c n (lm j) (Wm j) (Af P B k .normal)) : Go c n l W ((Code.block id x).wp P (Af P B k)) :=
  fun a w ha hw => wp_block (wp_mono (h1 a w ha hw) fun e a w hq => by
    have key : ∀ a w, Met c n I lm Wm a w → Af P B k .normal a w := fun a w ⟨j, hj, hA, hW⟩ => h2 j hj a w hA hW
    cases e with
    | exit id' =>
      simp only [Exit.inBlock]
      split
      · rename_i h; exact key _ _ (hq.1 h)
      · rename_i h; exact hq.2 h
    | normal => exact key _ _ hq
    | _ => exact hq)
variable {ops : Array Oper} {Q : Exit → Act → World → Prop} {rest : List Oper} {d : Nat} {T : TypeId} {pos : String} {after : Array Edge}
end
end Go.Proofs.Ytbpmbdlgmmabcaa.L
namespace Go.Proofs.Ytbpmbdlgmmabcaa.L
open Go Go.Proofs
set_option maxRecDepth 100000
attribute [local irreducible] Code.wp wpList Af bodyPost L.Go
open Num
theorem add64X (x y c : Nat) (hc : c ≤ 1) : ExtV Try.prog 61 [N .u64 x, N .u64 y, N .u64 c] (.tuple [N .u64 ((x + y + c) % 18446744073709551616), N .u64 ((x + y + c) / 18446744073709551616)].toArray) :=
  ext_add64 Try.func61 (by kernel_rfl) (by kernel_rfl) (by kernel_rfl) (by kernel_rfl) x y c hc
theorem sub64X (x y c : Nat) (hc : c ≤ 1) : ExtV Try.prog 95 [N .u64 x, N .u64 y, N .u64 c] (.tuple [N .u64 ((x + 18446744073709551616 - y - c) % 18446744073709551616), N .u64 (if x < y + c then 1 else 0)].toArray) :=
  ext_sub64 Try.func95 (by kernel_rfl) (by kernel_rfl) (by kernel_rfl) (by kernel_rfl) x y c hc
theorem add64X0 (x y : Nat) : ExtV Try.prog 61 [N .u64 x, N .u64 y, N .u64 0] (.tuple [N .u64 ((x + y) % 18446744073709551616), N .u64 ((x + y) / 18446744073709551616)].toArray) := add64X x y 0 (by decide)
theorem and32 (x : Nat) : x % 18446744073709551616 &&& 4294967295 % 18446744073709551616 = x % 4294967296 := by
  have := Nat.and_two_pow_sub_one_eq_mod (x % 18446744073709551616) 32
  rw [show (4294967295 : Nat) % 18446744073709551616 = 2 ^ 32 - 1 from rfl, this]; omega
theorem shr32 (x : Nat) : x >>> 32 = x / 4294967296 := Nat.shiftRight_eq_div_pow x 32
set_option maxHeartbeats 1000000 in
theorem mul64_spec (x y : Nat) (hx : x < 18446744073709551616) (hy : y < 18446744073709551616) :
    Spec Try.prog 103 [N .u64 x, N .u64 y] NoPre [] (IsV (.tuple [N .u64 (x * y / 18446744073709551616), N .u64 (x * y % 18446744073709551616)].toArray)) := by
  refine mk_spec Try.func103 rfl rfl rfl fun w _ => ?_
  obtain ⟨h1, h2, h3, h4⟩ := mul64_hi x y hx hy
  have hxm : x % 18446744073709551616 = x := Nat.mod_eq_of_lt hx
  have hym : y % 18446744073709551616 = y := Nat.mod_eq_of_lt hy
  repeat (first
    |refine Z01 ?_|refine Z02 ?_|refine Z03 ?_|refine Z04 ?_|refine Z05 ?_|refine Z06 ?_|refine Z07 ?_|refine Z08 ?_|refine Z09 ?_|refine Z10 ?_|refine Z11 ?_
    |refine Z12 ?_|refine Z13 ?_|refine Z14 ?_|refine Z33 ?_|refine Z35 ?_|refine Z40 ?_|refine Z42 ?_)
  refine Ze2 fun _ hw => post_of hw SubW.nil ⟨?_, rfl⟩
  refine congrArg (fun z => Value.tuple [N .u64 z, N .u64 (x * y % 18446744073709551616)].toArray) ?_
  simp only [and32, shr32]
  have h5 : x * y / 18446744073709551616 < 18446744073709551616 := by have := mul_bound hx hy; omega
  exact mul64_mod h1 h2 h3 h4 h5
theorem at_spec (s : Value) (xs : List Nat) (i : Nat) (_ : xs.length < 4294967296) :
    Spec Try.prog 132 [s, N .i64 i] (fun w => Rd w s (xs.map (N .u64))) [] (IsV (N .u64 (xs.getD i 0))) := by
  refine mk_spec Try.func132 rfl rfl rfl fun w hr => ?_
  have hr := RdC.mk0 hr
  repeat (first
    |refine Z01 ?_|refine Z02 ?_|refine Z03 ?_|refine Z04 ?_|refine Z05 ?_|refine Z06 ?_|refine Z07 ?_|refine Z08 ?_|refine Z09 ?_|refine Z10 ?_|refine Z11 ?_
    |refine Z12 ?_|refine Z13 ?_|refine Z14 ?_|refine Z17 ?_|refine Z18 ?_|refine Z20 ?_|refine Z21 ?_|refine Z22 ?_|refine Z23 ?_|refine Z24 ?_|refine Z25 ?_
    |refine Z26 ?_|refine Z27 ?_|refine Z28 ?_|refine Z58 ?_|refine Z59 ?_|refine Z67 ?_)
  refine st_cond (by rfl) (fun h => ?_) (fun h => ?_)
  · repeat (first
      |refine Z01 ?_|refine Z02 ?_|refine Z03 ?_|refine Z04 ?_|refine Z05 ?_|refine Z06 ?_|refine Z07 ?_|refine Z08 ?_|refine Z09 ?_|refine Z10 ?_|refine Z11 ?_
      |refine Z12 ?_|refine Z13 ?_|refine Z14 ?_|refine Z17 ?_|refine Z18 ?_|refine Z20 ?_|refine Z21 ?_|refine Z22 ?_|refine Z23 ?_|refine Z24 ?_|refine Z25 ?_
      |refine Z26 ?_|refine Z27 ?_|refine Z28 ?_|refine Z58 ?_|refine Z59 ?_|refine Z67 ?_)
    refine Ze1 fun _ hw => post_of hw SubW.nil ⟨?_, rfl⟩
    rfl
  · repeat (first
      |refine Z01 ?_|refine Z02 ?_|refine Z03 ?_|refine Z04 ?_|refine Z05 ?_|refine Z06 ?_|refine Z07 ?_|refine Z08 ?_|refine Z09 ?_|refine Z10 ?_|refine Z11 ?_
      |refine Z12 ?_|refine Z13 ?_|refine Z14 ?_|refine Z17 ?_|refine Z18 ?_|refine Z20 ?_|refine Z21 ?_|refine Z22 ?_|refine Z23 ?_|refine Z24 ?_|refine Z25 ?_
      |refine Z26 ?_|refine Z27 ?_|refine Z28 ?_|refine Z58 ?_|refine Z59 ?_|refine Z67 ?_)
    refine Ze1 fun _ hw => post_of hw SubW.nil ⟨?_, rfl⟩
    rw [getD_out (by omega)]
end Go.Proofs.Ytbpmbdlgmmabcaa.L
namespace Go.Proofs.Ytbpmbdlgmmabcaa.L
open Go Go.Proofs
set_option maxRecDepth 100000
attribute [local irreducible] Code.wp wpList Af bodyPost L.Go
open Num
theorem len64_spec (x : Nat) (hx : x < 18446744073709551616) : Spec Try.prog 150 [N .u64 x] NoPre [] (IsV (N .i64 (bl x))) := by
  refine mk_spec Try.func150 rfl rfl rfl fun w _ => ?_
  repeat (first
    |refine Z01 ?_|refine Z02 ?_|refine Z03 ?_|refine Z04 ?_|refine Z05 ?_|refine Z06 ?_|refine Z07 ?_|refine Z08 ?_|refine Z09 ?_|refine Z10 ?_|refine Z11 ?_
    |refine Z12 ?_|refine Z13 ?_|refine Z14 ?_|refine Z15 ?_|refine Z17 ?_|refine Z18 ?_|refine Z42 ?_|refine Z44 ?_|refine Z45 ?_|refine Z57 ?_|refine Z70 ?_
    |refine Z74 ?_|refine Z80 ?_)
  refine st_cond (by rfl) (fun h32 => ?_) (fun h32 => ?_)
  · have e32 := bl_shift x 32 h32
    have l32 : x >>> 32 < 4294967296 := by rw [Nat.shiftRight_eq_div_pow]; omega
    repeat (first
      |refine Z01 ?_|refine Z02 ?_|refine Z03 ?_|refine Z04 ?_|refine Z05 ?_|refine Z06 ?_|refine Z07 ?_|refine Z08 ?_|refine Z09 ?_|refine Z10 ?_|refine Z11 ?_
      |refine Z12 ?_|refine Z13 ?_|refine Z14 ?_|refine Z15 ?_|refine Z17 ?_|refine Z18 ?_|refine Z42 ?_|refine Z44 ?_|refine Z45 ?_|refine Z57 ?_|refine Z70 ?_
      |refine Z74 ?_|refine Z80 ?_)
    refine st_cond (by rfl) (fun h16 => ?_) (fun h16 => ?_)
    · have e16 := bl_shift (x >>> 32) 16 h16
      have l16 : x >>> 32 >>> 16 < 65536 := by rw [Nat.shiftRight_eq_div_pow (x >>> 32)]; omega
      repeat (first
        |refine Z01 ?_|refine Z02 ?_|refine Z03 ?_|refine Z04 ?_|refine Z05 ?_|refine Z06 ?_|refine Z07 ?_|refine Z08 ?_|refine Z09 ?_|refine Z10 ?_|refine Z11 ?_
        |refine Z12 ?_|refine Z13 ?_|refine Z14 ?_|refine Z15 ?_|refine Z17 ?_|refine Z18 ?_|refine Z42 ?_|refine Z44 ?_|refine Z45 ?_|refine Z57 ?_|refine Z70 ?_
        |refine Z74 ?_|refine Z80 ?_)
      refine st_cond (by rfl) (fun h8 => ?_) (fun h8 => ?_)
      · have e8 := bl_shift (x >>> 32 >>> 16) 8 (by omega)
        have l8 : (x >>> 32 >>> 16) >>> 8 < 256 := by rw [Nat.shiftRight_eq_div_pow]; omega
        have hx8 : (x >>> 32 >>> 16) >>> 8 % 256 = (x >>> 32 >>> 16) >>> 8 := Nat.mod_eq_of_lt (by omega)
        have hbl := bl_le ((x >>> 32 >>> 16) >>> 8) 8 (by omega)
        repeat (first
          |(rw [hx8])|(refine st_index_tab bl (by rfl) (by rfl) (by rfl) (by omega) (by kernel_rfl) (by kernel_rfl) (by rfl) ?_)|refine Z01 ?_|refine Z02 ?_|refine Z03 ?_
          |refine Z04 ?_|refine Z05 ?_|refine Z06 ?_|refine Z07 ?_|refine Z08 ?_|refine Z09 ?_|refine Z10 ?_|refine Z11 ?_|refine Z12 ?_|refine Z13 ?_|refine Z14 ?_
          |refine Z15 ?_|refine Z17 ?_|refine Z18 ?_|refine Z42 ?_|refine Z44 ?_|refine Z45 ?_|refine Z57 ?_|refine Z70 ?_|refine Z74 ?_|refine Z80 ?_)
        refine Ze1 fun _ hw => post_of hw SubW.nil ⟨?_, rfl⟩
        exact congrArg (N .i64) (by omega)
      · have hx8 : x >>> 32 >>> 16 % 256 = x >>> 32 >>> 16 := Nat.mod_eq_of_lt (by omega)
        have hbl := bl_le (x >>> 32 >>> 16) 8 (by omega)
        repeat (first
          |(rw [hx8])|(refine st_index_tab bl (by rfl) (by rfl) (by rfl) (by omega) (by kernel_rfl) (by kernel_rfl) (by rfl) ?_)|refine Z01 ?_|refine Z02 ?_|refine Z03 ?_
          |refine Z04 ?_|refine Z05 ?_|refine Z06 ?_|refine Z07 ?_|refine Z08 ?_|refine Z09 ?_|refine Z10 ?_|refine Z11 ?_|refine Z12 ?_|refine Z13 ?_|refine Z14 ?_
          |refine Z15 ?_|refine Z17 ?_|refine Z18 ?_|refine Z42 ?_|refine Z44 ?_|refine Z45 ?_|refine Z57 ?_|refine Z70 ?_|refine Z74 ?_|refine Z80 ?_)
        refine Ze1 fun _ hw => post_of hw SubW.nil ⟨?_, rfl⟩
        exact congrArg (N .i64) (by omega)
    · repeat (first
        |refine Z01 ?_|refine Z02 ?_|refine Z03 ?_|refine Z04 ?_|refine Z05 ?_|refine Z06 ?_|refine Z07 ?_|refine Z08 ?_|refine Z09 ?_|refine Z10 ?_|refine Z11 ?_
        |refine Z12 ?_|refine Z13 ?_|refine Z14 ?_|refine Z15 ?_|refine Z17 ?_|refine Z18 ?_|refine Z42 ?_|refine Z44 ?_|refine Z45 ?_|refine Z57 ?_|refine Z70 ?_
        |refine Z74 ?_|refine Z80 ?_)
      refine st_cond (by rfl) (fun h8 => ?_) (fun h8 => ?_)
      · have e8 := bl_shift (x >>> 32) 8 (by omega)
        have l8 : (x >>> 32) >>> 8 < 256 := by rw [Nat.shiftRight_eq_div_pow]; omega
        have hx8 : (x >>> 32) >>> 8 % 256 = (x >>> 32) >>> 8 := Nat.mod_eq_of_lt (by omega)
        have hbl := bl_le ((x >>> 32) >>> 8) 8 (by omega)
        repeat (first
          |(rw [hx8])|(refine st_index_tab bl (by rfl) (by rfl) (by rfl) (by omega) (by kernel_rfl) (by kernel_rfl) (by rfl) ?_)|refine Z01 ?_|refine Z02 ?_|refine Z03 ?_
          |refine Z04 ?_|refine Z05 ?_|refine Z06 ?_|refine Z07 ?_|refine Z08 ?_|refine Z09 ?_|refine Z10 ?_|refine Z11 ?_|refine Z12 ?_|refine Z13 ?_|refine Z14 ?_
          |refine Z15 ?_|refine Z17 ?_|refine Z18 ?_|refine Z42 ?_|refine Z44 ?_|refine Z45 ?_|refine Z57 ?_|refine Z70 ?_|refine Z74 ?_|refine Z80 ?_)
        refine Ze1 fun _ hw => post_of hw SubW.nil ⟨?_, rfl⟩
        exact congrArg (N .i64) (by omega)
      · have hx8 : x >>> 32 % 256 = x >>> 32 := Nat.mod_eq_of_lt (by omega)
        have hbl := bl_le (x >>> 32) 8 (by omega)
        repeat (first
          |(rw [hx8])|(refine st_index_tab bl (by rfl) (by rfl) (by rfl) (by omega) (by kernel_rfl) (by kernel_rfl) (by rfl) ?_)|refine Z01 ?_|refine Z02 ?_|refine Z03 ?_
          |refine Z04 ?_|refine Z05 ?_|refine Z06 ?_|refine Z07 ?_|refine Z08 ?_|refine Z09 ?_|refine Z10 ?_|refine Z11 ?_|refine Z12 ?_|refine Z13 ?_|refine Z14 ?_
          |refine Z15 ?_|refine Z17 ?_|refine Z18 ?_|refine Z42 ?_|refine Z44 ?_|refine Z45 ?_|refine Z57 ?_|refine Z70 ?_|refine Z74 ?_|refine Z80 ?_)
        refine Ze1 fun _ hw => post_of hw SubW.nil ⟨?_, rfl⟩
        exact congrArg (N .i64) (by omega)
  · repeat (first
      |refine Z01 ?_|refine Z02 ?_|refine Z03 ?_|refine Z04 ?_|refine Z05 ?_|refine Z06 ?_|refine Z07 ?_|refine Z08 ?_|refine Z09 ?_|refine Z10 ?_|refine Z11 ?_
      |refine Z12 ?_|refine Z13 ?_|refine Z14 ?_|refine Z15 ?_|refine Z17 ?_|refine Z18 ?_|refine Z42 ?_|refine Z44 ?_|refine Z45 ?_|refine Z57 ?_|refine Z70 ?_
      |refine Z74 ?_|refine Z80 ?_)
    refine st_cond (by rfl) (fun h16 => ?_) (fun h16 => ?_)
    · have e16 := bl_shift x 16 h16
      have l16 : x >>> 16 < 65536 := by rw [Nat.shiftRight_eq_div_pow]; omega
      repeat (first
        |refine Z01 ?_|refine Z02 ?_|refine Z03 ?_|refine Z04 ?_|refine Z05 ?_|refine Z06 ?_|refine Z07 ?_|refine Z08 ?_|refine Z09 ?_|refine Z10 ?_|refine Z11 ?_
        |refine Z12 ?_|refine Z13 ?_|refine Z14 ?_|refine Z15 ?_|refine Z17 ?_|refine Z18 ?_|refine Z42 ?_|refine Z44 ?_|refine Z45 ?_|refine Z57 ?_|refine Z70 ?_
        |refine Z74 ?_|refine Z80 ?_)
      refine st_cond (by rfl) (fun h8 => ?_) (fun h8 => ?_)
      · have e8 := bl_shift (x >>> 16) 8 (by omega)
        have l8 : (x >>> 16) >>> 8 < 256 := by rw [Nat.shiftRight_eq_div_pow]; omega
        have hx8 : (x >>> 16) >>> 8 % 256 = (x >>> 16) >>> 8 := Nat.mod_eq_of_lt (by omega)
        have hbl := bl_le ((x >>> 16) >>> 8) 8 (by omega)
        repeat (first
          |(rw [hx8])|(refine st_index_tab bl (by rfl) (by rfl) (by rfl) (by omega) (by kernel_rfl) (by kernel_rfl) (by rfl) ?_)|refine Z01 ?_|refine Z02 ?_|refine Z03 ?_
          |refine Z04 ?_|refine Z05 ?_|refine Z06 ?_|refine Z07 ?_|refine Z08 ?_|refine Z09 ?_|refine Z10 ?_|refine Z11 ?_|refine Z12 ?_|refine Z13 ?_|refine Z14 ?_
          |refine Z15 ?_|refine Z17 ?_|refine Z18 ?_|refine Z42 ?_|refine Z44 ?_|refine Z45 ?_|refine Z57 ?_|refine Z70 ?_|refine Z74 ?_|refine Z80 ?_)
        refine Ze1 fun _ hw => post_of hw SubW.nil ⟨?_, rfl⟩
        exact congrArg (N .i64) (by omega)
      · have hx8 : x >>> 16 % 256 = x >>> 16 := Nat.mod_eq_of_lt (by omega)
        have hbl := bl_le (x >>> 16) 8 (by omega)
        repeat (first
          |(rw [hx8])|(refine st_index_tab bl (by rfl) (by rfl) (by rfl) (by omega) (by kernel_rfl) (by kernel_rfl) (by rfl) ?_)|refine Z01 ?_|refine Z02 ?_|refine Z03 ?_
          |refine Z04 ?_|refine Z05 ?_|refine Z06 ?_|refine Z07 ?_|refine Z08 ?_|refine Z09 ?_|refine Z10 ?_|refine Z11 ?_|refine Z12 ?_|refine Z13 ?_|refine Z14 ?_
          |refine Z15 ?_|refine Z17 ?_|refine Z18 ?_|refine Z42 ?_|refine Z44 ?_|refine Z45 ?_|refine Z57 ?_|refine Z70 ?_|refine Z74 ?_|refine Z80 ?_)
        refine Ze1 fun _ hw => post_of hw SubW.nil ⟨?_, rfl⟩
        exact congrArg (N .i64) (by omega)
    · repeat (first
        |refine Z01 ?_|refine Z02 ?_|refine Z03 ?_|refine Z04 ?_|refine Z05 ?_|refine Z06 ?_|refine Z07 ?_|refine Z08 ?_|refine Z09 ?_|refine Z10 ?_|refine Z11 ?_
        |refine Z12 ?_|refine Z13 ?_|refine Z14 ?_|refine Z15 ?_|refine Z17 ?_|refine Z18 ?_|refine Z42 ?_|refine Z44 ?_|refine Z45 ?_|refine Z57 ?_|refine Z70 ?_
        |refine Z74 ?_|refine Z80 ?_)
      refine st_cond (by rfl) (fun h8 => ?_) (fun h8 => ?_)
      · have e8 := bl_shift (x) 8 (by omega)
        have l8 : (x) >>> 8 < 256 := by rw [Nat.shiftRight_eq_div_pow]; omega
        have hx8 : (x) >>> 8 % 256 = (x) >>> 8 := Nat.mod_eq_of_lt (by omega)
        have hbl := bl_le ((x) >>> 8) 8 (by omega)
        repeat (first
          |(rw [hx8])|(refine st_index_tab bl (by rfl) (by rfl) (by rfl) (by omega) (by kernel_rfl) (by kernel_rfl) (by rfl) ?_)|refine Z01 ?_|refine Z02 ?_|refine Z03 ?_
          |refine Z04 ?_|refine Z05 ?_|refine Z06 ?_|refine Z07 ?_|refine Z08 ?_|refine Z09 ?_|refine Z10 ?_|refine Z11 ?_|refine Z12 ?_|refine Z13 ?_|refine Z14 ?_
          |refine Z15 ?_|refine Z17 ?_|refine Z18 ?_|refine Z42 ?_|refine Z44 ?_|refine Z45 ?_|refine Z57 ?_|refine Z70 ?_|refine Z74 ?_|refine Z80 ?_)
        refine Ze1 fun _ hw => post_of hw SubW.nil ⟨?_, rfl⟩
        exact congrArg (N .i64) (by omega)
      · have hx8 : x % 256 = x := Nat.mod_eq_of_lt (by omega)
        have hbl := bl_le (x) 8 (by omega)
        repeat (first
          |(rw [hx8])|(refine st_index_tab bl (by rfl) (by rfl) (by rfl) (by omega) (by kernel_rfl) (by kernel_rfl) (by rfl) ?_)|refine Z01 ?_|refine Z02 ?_|refine Z03 ?_
          |refine Z04 ?_|refine Z05 ?_|refine Z06 ?_|refine Z07 ?_|refine Z08 ?_|refine Z09 ?_|refine Z10 ?_|refine Z11 ?_|refine Z12 ?_|refine Z13 ?_|refine Z14 ?_
          |refine Z15 ?_|refine Z17 ?_|refine Z18 ?_|refine Z42 ?_|refine Z44 ?_|refine Z45 ?_|refine Z57 ?_|refine Z70 ?_|refine Z74 ?_|refine Z80 ?_)
        refine Ze1 fun _ hw => post_of hw SubW.nil ⟨?_, rfl⟩
        exact congrArg (N .i64) (by omega)
theorem lz64_spec (x : Nat) (hx : x < 18446744073709551616) : Spec Try.prog 146 [N .u64 x] NoPre [] (IsV (N .i64 (64 - bl x))) := by
  refine mk_spec Try.func146 rfl rfl rfl fun w _ => ?_
  have hb := bl_le x 64 hx
  repeat (first
    |(refine st_callV (by rfl) (by rfl) (by rfl) (len64_spec x hx) (fun _ _ => trivial) (by rfl) ?_)|refine Z01 ?_|refine Z02 ?_|refine Z03 ?_|refine Z04 ?_|refine Z05 ?_
    |refine Z06 ?_|refine Z07 ?_|refine Z08 ?_|refine Z09 ?_|refine Z10 ?_|refine Z11 ?_|refine Z12 ?_|refine Z13 ?_|refine Z14 ?_|refine Z16 ?_|refine Z71 ?_)
  refine Ze1 fun _ hw => post_of hw SubW.nil ⟨?_, rfl⟩
  rfl
end Go.Proofs.Ytbpmbdlgmmabcaa.L
namespace Go.Proofs.Ytbpmbdlgmmabcaa.L
open Go Go.Proofs
set_option maxRecDepth 100000
attribute [local irreducible] Code.wp wpList Af bodyPost L.Go
open Num
set_option maxHeartbeats 4000000 in
theorem div64_spec (hi lo y : Nat) (hy : hi < y) (hlo : lo < 18446744073709551616) (hyW : y < 18446744073709551616) :
    Spec Try.prog 140 [N .u64 hi, N .u64 lo, N .u64 y] NoPre [] (IsV (.tuple [N .u64 ((hi * 18446744073709551616 + lo) / y), N .u64 ((hi * 18446744073709551616 + lo) % y)].toArray)) := by
  refine mk_spec Try.func140 rfl rfl rfl fun w _ => ?_
  repeat (first
    |(refine st_cmp (r := false) (by rfl) (by rfl) (cmpN_f (by first | (simp only [cmpQ]; done) | (simp only [cmpQ]; omega))) (by rfl) ?_)|refine Z01 ?_|refine Z02 ?_
    |refine Z03 ?_|refine Z04 ?_|refine Z05 ?_|refine Z06 ?_|refine Z07 ?_|refine Z08 ?_|refine Z09 ?_|refine Z10 ?_|refine Z11 ?_|refine Z12 ?_|refine Z13 ?_
    |refine Z14 ?_|refine Z17 ?_|refine Z18 ?_|refine Z24 ?_|refine Z25 ?_|refine Z26 ?_|refine Z27 ?_|refine Z28 ?_|refine Z33 ?_|refine Z34 ?_|refine Z35 ?_
    |refine Z37 ?_|refine Z38 ?_|refine Z40 ?_|refine Z41 ?_|refine Z42 ?_|refine Z43 ?_|refine Z44 ?_|refine Z45 ?_|refine Z49 ?_|refine Z50 ?_|refine Z51 ?_
    |refine Z52 ?_|refine Z53 ?_|refine Z67 ?_|refine Z74 ?_|refine Z80 ?_)
  refine st_cond (by rfl) (fun h0 => ?_) (fun h0 => ?_)
  · subst h0
    repeat (first
      |refine Z01 ?_|refine Z02 ?_|refine Z03 ?_|refine Z04 ?_|refine Z05 ?_|refine Z06 ?_|refine Z07 ?_|refine Z08 ?_|refine Z09 ?_|refine Z10 ?_|refine Z11 ?_
      |refine Z12 ?_|refine Z13 ?_|refine Z14 ?_|refine Z17 ?_|refine Z18 ?_|refine Z24 ?_|refine Z25 ?_|refine Z26 ?_|refine Z27 ?_|refine Z28 ?_|refine Z33 ?_
      |refine Z34 ?_|refine Z35 ?_|refine Z37 ?_|refine Z38 ?_|refine Z40 ?_|refine Z41 ?_|refine Z42 ?_|refine Z43 ?_|refine Z44 ?_|refine Z45 ?_|refine Z49 ?_
      |refine Z50 ?_|refine Z51 ?_|refine Z52 ?_|refine Z53 ?_|refine Z67 ?_|refine Z74 ?_|refine Z80 ?_)
    refine st_draw1 (by rfl) ?_
    repeat (first
      |refine Zqf (by intro _ _ _;(first
        |(refine st_udiv (by rfl) (by rfl) (by rfl) (by omega) (by omega) (by rfl) ?_)|(refine st_umod (by rfl) (by rfl) (by omega) (by rfl) ?_)|refine Z01 ?_
        |refine Z02 ?_|refine Z17 ?_|refine Z18 ?_|refine Z33 ?_|refine Z34 ?_|refine Z35 ?_|refine Z37 ?_|refine Z38 ?_|refine Z40 ?_|refine Z41 ?_|refine Z42 ?_
        |refine Z43 ?_|refine Z44 ?_|refine Z45 ?_|refine Z49 ?_|refine Z50 ?_|refine Z74 ?_|refine Z80 ?_);exact Zq) ?_
      |refine Zqp (by intro _ _ _;(first
        |refine Z24 ?_|refine Z25 ?_|refine Z26 ?_|refine Z27 ?_|refine Z28 ?_|refine Z67 ?_);exact Zq) ?_
      |refine Zqn ?_)
    refine Zq0 ?_ (by kernel_rfl)
    repeat (first
      |refine Z01 ?_|refine Z02 ?_|refine Z03 ?_|refine Z04 ?_|refine Z05 ?_|refine Z06 ?_|refine Z07 ?_|refine Z08 ?_|refine Z09 ?_|refine Z10 ?_|refine Z11 ?_
      |refine Z12 ?_|refine Z13 ?_|refine Z14 ?_|refine Z17 ?_|refine Z18 ?_|refine Z24 ?_|refine Z25 ?_|refine Z26 ?_|refine Z27 ?_|refine Z28 ?_|refine Z33 ?_
      |refine Z34 ?_|refine Z35 ?_|refine Z37 ?_|refine Z38 ?_|refine Z40 ?_|refine Z41 ?_|refine Z42 ?_|refine Z43 ?_|refine Z44 ?_|refine Z45 ?_|refine Z49 ?_
      |refine Z50 ?_|refine Z51 ?_|refine Z52 ?_|refine Z53 ?_|refine Z67 ?_|refine Z74 ?_|refine Z80 ?_)
    refine Ze2 fun _ hw => post_of hw SubW.nil ⟨?_, rfl⟩
    rw [Nat.zero_mul, Nat.zero_add]
  obtain ⟨hb1, hb2, hb3⟩ := bl_spec y (by omega)
  have hb4 := bl_le y 64 hyW
  obtain ⟨s, hs⟩ : ∃ s, s = 64 - bl y := ⟨_, rfl⟩
  have hsl : s ≤ 63 := by omega
  obtain ⟨Y, hYs⟩ : ∃ Y, Y = y * 2 ^ s := ⟨_, rfl⟩
  have hYW : Y < 18446744073709551616 := by
    have := Nat.mul_lt_mul_of_pos_right hb1 (Nat.two_pow_pos s)
    rw [← Nat.pow_add, show bl y + s = 64 by omega] at this
    rw [hYs]; exact this
  have hYb : 9223372036854775808 ≤ Y := by
    have := Nat.mul_le_mul_right (2 ^ s) hb2
    rw [← Nat.pow_add, show bl y - 1 + s = 63 by omega] at this
    rw [hYs]; exact this
  have hYp : 0 < Y := by omega
  obtain ⟨v1, hv1⟩ : ∃ v1, v1 = Y / 4294967296 := ⟨_, rfl⟩
  obtain ⟨v0, hv0⟩ : ∃ v0, v0 = Y % 4294967296 := ⟨_, rfl⟩
  have hYv : Y = v1 * 4294967296 + v0 := by omega
  have hv1p : 0 < v1 := by omega
  have hv1l : v1 < 4294967296 := by omega
  have hv0l : v0 < 4294967296 := by omega
  obtain ⟨u, hu⟩ : ∃ u, u = hi * 2 ^ s + lo / 2 ^ (64 - s) := ⟨_, rfl⟩
  obtain ⟨u10, hu10'⟩ : ∃ u10, u10 = lo * 2 ^ s % 18446744073709551616 := ⟨_, rfl⟩
  obtain ⟨hN, huY⟩ := norm_div (s := s) hy hlo (by omega)
  rw [← hu, ← hu10'] at hN
  rw [← hu, ← hYs] at huY
  obtain ⟨u1, hu1'⟩ : ∃ u1, u1 = u10 / 4294967296 := ⟨_, rfl⟩
  obtain ⟨u0, hu0'⟩ : ∃ u0, u0 = u10 % 4294967296 := ⟨_, rfl⟩
  have hu10l : u10 < 18446744073709551616 := by rw [hu10']; exact Nat.mod_lt _ (by decide)
  have hu1 : u1 < 4294967296 := by omega
  have hu0 : u0 < 4294967296 := by omega
  have hu10 : u1 * 4294967296 + u0 = u10 := by rw [hu1', hu0', Nat.mul_comm]; exact Nat.div_add_mod _ _
  have e1 : (64 - bl y) % 18446744073709551616 = s := by omega
  have e2 : y <<< s % 18446744073709551616 = Y := by rw [Nat.shiftLeft_eq, ← hYs, Nat.mod_eq_of_lt hYW]
  have e3 : Y >>> 32 = v1 := by rw [shr32, hv1]
  have e4 : Y % 18446744073709551616 &&& 4294967295 % 18446744073709551616 = v0 := by rw [and32, hv0]
  have hlq : lo / 2 ^ (64 - s) < 2 ^ s := by
    rw [Nat.div_lt_iff_lt_mul (Nat.two_pow_pos _), ← Nat.pow_add, show s + (64 - s) = 64 by omega]; exact hlo
  have hhs : hi * 2 ^ s < 18446744073709551616 := Nat.lt_of_le_of_lt (by rw [hu]; exact Nat.le_add_right _ _) (Nat.lt_trans huY hYW)
  have e5 : (64 + (18446744073709551616 - s % 18446744073709551616)) % 18446744073709551616 = 64 - s := by omega
  have e6 : hi <<< s % 18446744073709551616 % 18446744073709551616 ||| lo >>> (64 - s) % 18446744073709551616 = u := by
    rw [Nat.shiftLeft_eq, Nat.shiftRight_eq_div_pow, Nat.mod_mod, Nat.mod_eq_of_lt hhs, Nat.mod_eq_of_lt (a := lo / 2 ^ (64 - s)) (Nat.lt_of_le_of_lt (Nat.div_le_self _ _) hlo), or_plus hlq, hu]
  have e7 : lo <<< s % 18446744073709551616 = u10 := by rw [Nat.shiftLeft_eq, hu10']
  have e8 : u10 >>> 32 = u1 := by rw [shr32, hu1']
  have e9 : u10 % 18446744073709551616 &&& 4294967295 % 18446744073709551616 = u0 := by rw [and32, hu0']
  have hwr := wrap_sub1 (a := u) (c := u / v1 * v1) (d := u % v1) (div_rem_eq _ _) (Nat.lt_trans (Nat.mod_lt _ hv1p) (by omega))
  obtain ⟨q1, hq1⟩ : ∃ q1, q1 = (u * 4294967296 + u1) / Y := ⟨_, rfl⟩
  repeat (first
    |(refine st_callV (by rfl) (by rfl) (by rfl) (lz64_spec y hyW) (fun _ _ => trivial) (by rfl) ?_)
    |(refine st_shr (by rfl) (by rfl) (show 64 - s ≤ 64 by omega) (by rfl) ?_)|(rw [e1])|(rw [e2])|(rw [e3])|(rw [e4])|(rw [e5])|(rw [e6])|(rw [e7])|(rw [e8])|(rw [e9])
    |(refine st_udiv (by rfl) (by rfl) (by rfl) hv1p (by omega) (by rfl) ?_)|(rw [hwr])
    |(refine st_block_join (ι := Unit) (fun _ => True) (fun _ => [(2, N .u64 Y), (8, N .u64 s), (9, N .u64 v1), (10, N .u64 v0), (11, N .u64 u), (13, N .u64 u1), (14, N .u64 u0), (15, N .u64 q1)]) (fun _ => []) ?_ ?_)
    |refine Z01 ?_|refine Z02 ?_|refine Z03 ?_|refine Z04 ?_|refine Z05 ?_|refine Z06 ?_|refine Z07 ?_|refine Z08 ?_|refine Z09 ?_|refine Z10 ?_|refine Z11 ?_
    |refine Z12 ?_|refine Z13 ?_|refine Z14 ?_|refine Z17 ?_|refine Z18 ?_|refine Z24 ?_|refine Z25 ?_|refine Z26 ?_|refine Z27 ?_|refine Z28 ?_|refine Z33 ?_
    |refine Z34 ?_|refine Z35 ?_|refine Z37 ?_|refine Z38 ?_|refine Z40 ?_|refine Z41 ?_|refine Z42 ?_|refine Z43 ?_|refine Z44 ?_|refine Z45 ?_|refine Z49 ?_
    |refine Z50 ?_|refine Z51 ?_|refine Z52 ?_|refine Z53 ?_|refine Z67 ?_|refine Z74 ?_|refine Z80 ?_)
  · clear e1 e2 e3 e4 e5 e6 e7 e8 e9 hwr hN hu10' hu1' hu0' hlq hhs hu hs hb1 hb2 hb3 hb4 hYs hu10 hu10l
    refine st_loop (ι := Nat × Nat) (fun p => p.1 * v1 + p.2 = u ∧ p.2 < 4294967296 ∧ (u * 4294967296 + u1) / Y ≤ p.1)
      (fun p => [(2, N .u64 Y), (8, N .u64 s), (9, N .u64 v1), (10, N .u64 v0), (11, N .u64 u), (13, N .u64 u1), (14, N .u64 u0), (15, N .u64 p.1), (16, N .u64 p.2)]) (fun p => []) (fun p => p.1) (u / v1, u % v1)
      ⟨(div_rem_eq _ _).symm, by simp only; have := Nat.mod_lt u hv1p; omega, by simp only; rw [hYv]; exact qhat_ge hv1p hu1⟩ (by repeat (first | apply subL.nil | refine subL.cons (by rfl) ?_)) (by repeat (first | apply SubW.nil | refine SubW.cons (by repeat (first | apply Find.here | apply Find.there)) ?_)) ?_
    rintro ⟨q, r⟩ ⟨hqr, hr, hqq⟩
    simp only at hqr hr hqq ⊢
    have hqle : q ≤ u := Nat.le_trans (Nat.le_mul_of_pos_right q hv1p) (by omega)
    by_cases hbig : 4294967296 ≤ q
    · have hlt := qhat_step (v0 := v0) (u1 := u1) (by rw [← hYv]; exact huY) hqr hu1 (.inl hbig)
      rw [← hYv] at hlt
      have hqpos : 0 < q := Nat.lt_of_le_of_lt (Nat.zero_le _) hlt
      have hdq := wrap_dec (q := q) hqpos (by omega)
      have hrr : (r + v1) % 18446744073709551616 = r + v1 := Nat.mod_eq_of_lt (by omega)
      have hqr' : (q - 1) * v1 + (r + v1) = u := by
        obtain ⟨k, rfl⟩ : ∃ k, q = k + 1 := ⟨q - 1, by omega⟩
        rw [Nat.add_mul, Nat.one_mul] at hqr
        simp only [Nat.add_sub_cancel]; omega
      repeat (first
        |(refine st_cmp (r := true) (by rfl) (by rfl) (cmpN_t (by first | (simp only [cmpP]; done) | (simp only [cmpP]; omega))) (by rfl) ?_)
        |(refine st_cmp (r := false) (by rfl) (by rfl) (cmpN_f (by first | (simp only [cmpQ]; done) | (simp only [cmpQ]; omega))) (by rfl) ?_)|(rw [hdq])|(rw [hrr])
        |(rw [hp2])|(rw [hp3])|refine Z01 ?_|refine Z02 ?_|refine Z03 ?_|refine Z04 ?_|refine Z05 ?_|refine Z06 ?_|refine Z07 ?_|refine Z08 ?_|refine Z09 ?_|refine Z10 ?_
        |refine Z11 ?_|refine Z12 ?_|refine Z13 ?_|refine Z14 ?_|refine Z17 ?_|refine Z18 ?_|refine Z24 ?_|refine Z25 ?_|refine Z26 ?_|refine Z27 ?_|refine Z28 ?_
        |refine Z33 ?_|refine Z34 ?_|refine Z35 ?_|refine Z37 ?_|refine Z38 ?_|refine Z40 ?_|refine Z41 ?_|refine Z42 ?_|refine Z43 ?_|refine Z44 ?_|refine Z45 ?_
        |refine Z49 ?_|refine Z50 ?_|refine Z51 ?_|refine Z52 ?_|refine Z53 ?_|refine Z67 ?_|refine Z74 ?_|refine Z80 ?_)
      refine st_cond (by rfl) (fun hbr => ?_) (fun hbr => ?_)
      · have hend : q - 1 = q1 := by rw [hq1, hYv]; rw [hYv] at hlt; exact qhat_stop (by omega) hqr' (qhat_break (by omega) (by rw [← hYv]; exact huY) hqr' hbr) (by omega)
        repeat (first
          |refine Z01 ?_|refine Z02 ?_|refine Z03 ?_|refine Z04 ?_|refine Z05 ?_|refine Z06 ?_|refine Z07 ?_|refine Z08 ?_|refine Z09 ?_|refine Z10 ?_|refine Z11 ?_
          |refine Z12 ?_|refine Z13 ?_|refine Z14 ?_|refine Z17 ?_|refine Z18 ?_|refine Z24 ?_|refine Z25 ?_|refine Z26 ?_|refine Z27 ?_|refine Z28 ?_|refine Z33 ?_
          |refine Z34 ?_|refine Z35 ?_|refine Z37 ?_|refine Z38 ?_|refine Z40 ?_|refine Z41 ?_|refine Z42 ?_|refine Z43 ?_|refine Z44 ?_|refine Z45 ?_|refine Z49 ?_
          |refine Z50 ?_|refine Z51 ?_|refine Z52 ?_|refine Z53 ?_|refine Z67 ?_|refine Z74 ?_|refine Z80 ?_)
        rw [hend]
        exact st_met () trivial (by repeat (first | apply subL.nil | refine subL.cons (by rfl) ?_)) (by repeat (first | apply SubW.nil | refine SubW.cons (by repeat (first | apply Find.here | apply Find.there)) ?_))
      · repeat (first
          |refine Z01 ?_|refine Z02 ?_|refine Z03 ?_|refine Z04 ?_|refine Z05 ?_|refine Z06 ?_|refine Z07 ?_|refine Z08 ?_|refine Z09 ?_|refine Z10 ?_|refine Z11 ?_
          |refine Z12 ?_|refine Z13 ?_|refine Z14 ?_|refine Z17 ?_|refine Z18 ?_|refine Z24 ?_|refine Z25 ?_|refine Z26 ?_|refine Z27 ?_|refine Z28 ?_|refine Z33 ?_
          |refine Z34 ?_|refine Z35 ?_|refine Z37 ?_|refine Z38 ?_|refine Z40 ?_|refine Z41 ?_|refine Z42 ?_|refine Z43 ?_|refine Z44 ?_|refine Z45 ?_|refine Z49 ?_
          |refine Z50 ?_|refine Z51 ?_|refine Z52 ?_|refine Z53 ?_|refine Z67 ?_|refine Z74 ?_|refine Z80 ?_)
        exact st_round (q - 1, r + v1) ⟨hqr', by simp only; omega, by simp only; omega⟩ (by simp only; omega) (by repeat (first | apply subL.nil | refine subL.cons (by rfl) ?_)) (by repeat (first | apply SubW.nil | refine SubW.cons (by repeat (first | apply Find.here | apply Find.there)) ?_))
    · have hp1 : q * v0 < 18446744073709551616 := Nat.lt_of_le_of_lt (Nat.mul_le_mul (show q ≤ 4294967295 by omega) (show v0 ≤ 4294967295 by omega)) (by decide)
      have hp2 : q * v0 % 18446744073709551616 = q * v0 := Nat.mod_eq_of_lt hp1
      have hp3 : (4294967296 * r % 18446744073709551616 + u1) % 18446744073709551616 = r * 4294967296 + u1 := by omega
      by_cases hc : r * 4294967296 + u1 < q * v0
      · have hlt := qhat_step (v0 := v0) (u1 := u1) (by rw [← hYv]; exact huY) hqr hu1 (.inr hc)
        rw [← hYv] at hlt
        have hqpos : 0 < q := Nat.lt_of_le_of_lt (Nat.zero_le _) hlt
        have hdq := wrap_dec (q := q) hqpos (by omega)
        have hrr : (r + v1) % 18446744073709551616 = r + v1 := Nat.mod_eq_of_lt (by omega)
        have hqr' : (q - 1) * v1 + (r + v1) = u := by
          obtain ⟨k, rfl⟩ : ∃ k, q = k + 1 := ⟨q - 1, by omega⟩
          rw [Nat.add_mul, Nat.one_mul] at hqr
          simp only [Nat.add_sub_cancel]; omega
        repeat (first
          |(refine st_cmp (r := true) (by rfl) (by rfl) (cmpN_t (by first | (simp only [cmpP]; done) | (simp only [cmpP]; omega))) (by rfl) ?_)
          |(refine st_cmp (r := false) (by rfl) (by rfl) (cmpN_f (by first | (simp only [cmpQ]; done) | (simp only [cmpQ]; omega))) (by rfl) ?_)|(rw [hdq])|(rw [hrr])
          |(rw [hp2])|(rw [hp3])|refine Z01 ?_|refine Z02 ?_|refine Z03 ?_|refine Z04 ?_|refine Z05 ?_|refine Z06 ?_|refine Z07 ?_|refine Z08 ?_|refine Z09 ?_
          |refine Z10 ?_|refine Z11 ?_|refine Z12 ?_|refine Z13 ?_|refine Z14 ?_|refine Z17 ?_|refine Z18 ?_|refine Z24 ?_|refine Z25 ?_|refine Z26 ?_|refine Z27 ?_
          |refine Z28 ?_|refine Z33 ?_|refine Z34 ?_|refine Z35 ?_|refine Z37 ?_|refine Z38 ?_|refine Z40 ?_|refine Z41 ?_|refine Z42 ?_|refine Z43 ?_|refine Z44 ?_
          |refine Z45 ?_|refine Z49 ?_|refine Z50 ?_|refine Z51 ?_|refine Z52 ?_|refine Z53 ?_|refine Z67 ?_|refine Z74 ?_|refine Z80 ?_)
        refine st_cond (by rfl) (fun hbr => ?_) (fun hbr => ?_)
        · have hend : q - 1 = q1 := by rw [hq1, hYv]; rw [hYv] at hlt; exact qhat_stop (by omega) hqr' (qhat_break (by omega) (by rw [← hYv]; exact huY) hqr' hbr) (by omega)
          repeat (first
            |refine Z01 ?_|refine Z02 ?_|refine Z03 ?_|refine Z04 ?_|refine Z05 ?_|refine Z06 ?_|refine Z07 ?_|refine Z08 ?_|refine Z09 ?_|refine Z10 ?_|refine Z11 ?_
            |refine Z12 ?_|refine Z13 ?_|refine Z14 ?_|refine Z17 ?_|refine Z18 ?_|refine Z24 ?_|refine Z25 ?_|refine Z26 ?_|refine Z27 ?_|refine Z28 ?_|refine Z33 ?_
            |refine Z34 ?_|refine Z35 ?_|refine Z37 ?_|refine Z38 ?_|refine Z40 ?_|refine Z41 ?_|refine Z42 ?_|refine Z43 ?_|refine Z44 ?_|refine Z45 ?_|refine Z49 ?_
            |refine Z50 ?_|refine Z51 ?_|refine Z52 ?_|refine Z53 ?_|refine Z67 ?_|refine Z74 ?_|refine Z80 ?_)
          rw [hend]
          exact st_met () trivial (by repeat (first | apply subL.nil | refine subL.cons (by rfl) ?_)) (by repeat (first | apply SubW.nil | refine SubW.cons (by repeat (first | apply Find.here | apply Find.there)) ?_))
        · repeat (first
            |refine Z01 ?_|refine Z02 ?_|refine Z03 ?_|refine Z04 ?_|refine Z05 ?_|refine Z06 ?_|refine Z07 ?_|refine Z08 ?_|refine Z09 ?_|refine Z10 ?_|refine Z11 ?_
            |refine Z12 ?_|refine Z13 ?_|refine Z14 ?_|refine Z17 ?_|refine Z18 ?_|refine Z24 ?_|refine Z25 ?_|refine Z26 ?_|refine Z27 ?_|refine Z28 ?_|refine Z33 ?_
            |refine Z34 ?_|refine Z35 ?_|refine Z37 ?_|refine Z38 ?_|refine Z40 ?_|refine Z41 ?_|refine Z42 ?_|refine Z43 ?_|refine Z44 ?_|refine Z45 ?_|refine Z49 ?_
            |refine Z50 ?_|refine Z51 ?_|refine Z52 ?_|refine Z53 ?_|refine Z67 ?_|refine Z74 ?_|refine Z80 ?_)
          exact st_round (q - 1, r + v1) ⟨hqr', by simp only; omega, by simp only; omega⟩ (by simp only; omega) (by repeat (first | apply subL.nil | refine subL.cons (by rfl) ?_)) (by repeat (first | apply SubW.nil | refine SubW.cons (by repeat (first | apply Find.here | apply Find.there)) ?_))
      · have hend : q = q1 := by rw [hq1, hYv]; rw [hYv] at hqq; exact qhat_stop (by omega) hqr (by omega) hqq
        repeat (first
          |(refine st_cmp (r := false) (by rfl) (by rfl) (cmpN_f (by first | (simp only [cmpQ]; done) | (simp only [cmpQ]; omega))) (by rfl) ?_)|(rw [hp2])|(rw [hp3])
          |refine Z01 ?_|refine Z02 ?_|refine Z03 ?_|refine Z04 ?_|refine Z05 ?_|refine Z06 ?_|refine Z07 ?_|refine Z08 ?_|refine Z09 ?_|refine Z10 ?_|refine Z11 ?_
          |refine Z12 ?_|refine Z13 ?_|refine Z14 ?_|refine Z17 ?_|refine Z18 ?_|refine Z24 ?_|refine Z25 ?_|refine Z26 ?_|refine Z27 ?_|refine Z28 ?_|refine Z33 ?_
          |refine Z34 ?_|refine Z35 ?_|refine Z37 ?_|refine Z38 ?_|refine Z40 ?_|refine Z41 ?_|refine Z42 ?_|refine Z43 ?_|refine Z44 ?_|refine Z45 ?_|refine Z49 ?_
          |refine Z50 ?_|refine Z51 ?_|refine Z52 ?_|refine Z53 ?_|refine Z67 ?_|refine Z74 ?_|refine Z80 ?_)
        rw [hend]
        exact st_met () trivial (by repeat (first | apply subL.nil | refine subL.cons (by rfl) ?_)) (by repeat (first | apply SubW.nil | refine SubW.cons (by repeat (first | apply Find.here | apply Find.there)) ?_))
  intro _ _
  clear e1 e2 e3 e4 e5 e6 e7 e8 e9 hwr
  have hq1l : q1 < 4294967296 := by rw [hq1]; exact qhat_lt huY hu1
  obtain ⟨un21, hun21⟩ : ∃ z, z = (u * 4294967296 + u1) % Y := ⟨_, rfl⟩
  have h21Y : un21 < Y := by rw [hun21]; exact Nat.mod_lt _ hYp
  have hw21 := wrap_sub (a := u * 4294967296) (b := u1) (c := q1 * Y) (d := un21) (by rw [hq1, hun21]; exact div_rem_eq _ _) (by omega)
  have hd1 : un21 / v1 < 18446744073709551616 := Nat.lt_of_le_of_lt (Nat.div_le_self _ _) (by omega)
  have hwr := wrap_sub1 (a := un21) (c := un21 / v1 * v1) (d := un21 % v1) (div_rem_eq _ _) (Nat.lt_trans (Nat.mod_lt _ hv1p) (by omega))
  obtain ⟨q0, hq0⟩ : ∃ q0, q0 = (un21 * 4294967296 + u0) / Y := ⟨_, rfl⟩
  repeat (first
    |(rw [hw21])|(refine st_udiv (by rfl) (by rfl) (by rfl) hv1p (by omega) (by rfl) ?_)|(rw [hwr])
    |(refine st_block_join (ι := Unit) (fun _ => True) (fun _ => [(2, N .u64 Y), (8, N .u64 s), (14, N .u64 u0), (15, N .u64 q1), (17, N .u64 un21), (18, N .u64 q0)]) (fun _ => []) ?_ ?_)
    |refine Z01 ?_|refine Z02 ?_|refine Z03 ?_|refine Z04 ?_|refine Z05 ?_|refine Z06 ?_|refine Z07 ?_|refine Z08 ?_|refine Z09 ?_|refine Z10 ?_|refine Z11 ?_
    |refine Z12 ?_|refine Z13 ?_|refine Z14 ?_|refine Z17 ?_|refine Z18 ?_|refine Z24 ?_|refine Z25 ?_|refine Z26 ?_|refine Z27 ?_|refine Z28 ?_|refine Z33 ?_
    |refine Z34 ?_|refine Z35 ?_|refine Z37 ?_|refine Z38 ?_|refine Z40 ?_|refine Z41 ?_|refine Z42 ?_|refine Z43 ?_|refine Z44 ?_|refine Z45 ?_|refine Z49 ?_
    |refine Z50 ?_|refine Z51 ?_|refine Z52 ?_|refine Z53 ?_|refine Z67 ?_|refine Z74 ?_|refine Z80 ?_)
  · clear hwr hN hu10' hu1' hu0' hlq hhs hu hs hb1 hb2 hb3 hb4 hYs hu10 hu10l hq1 hun21 hw21 huY
    refine st_loop (ι := Nat × Nat) (fun p => p.1 * v1 + p.2 = un21 ∧ p.2 < 4294967296 ∧ (un21 * 4294967296 + u0) / Y ≤ p.1)
      (fun p => [(2, N .u64 Y), (8, N .u64 s), (9, N .u64 v1), (10, N .u64 v0), (14, N .u64 u0), (15, N .u64 q1), (16, N .u64 p.2), (17, N .u64 un21), (18, N .u64 p.1)]) (fun p => []) (fun p => p.1) (un21 / v1, un21 % v1)
      ⟨(div_rem_eq _ _).symm, by simp only; have := Nat.mod_lt un21 hv1p; omega, by simp only; rw [hYv]; exact qhat_ge hv1p hu0⟩ (by repeat (first | apply subL.nil | refine subL.cons (by rfl) ?_)) (by repeat (first | apply SubW.nil | refine SubW.cons (by repeat (first | apply Find.here | apply Find.there)) ?_)) ?_
    rintro ⟨q, r⟩ ⟨hqr, hr, hqq⟩
    simp only at hqr hr hqq ⊢
    have hqle : q ≤ un21 := Nat.le_trans (Nat.le_mul_of_pos_right q hv1p) (by omega)
    by_cases hbig : 4294967296 ≤ q
    · have hlt := qhat_step (v0 := v0) (u1 := u0) (by rw [← hYv]; exact h21Y) hqr hu0 (.inl hbig)
      rw [← hYv] at hlt
      have hqpos : 0 < q := Nat.lt_of_le_of_lt (Nat.zero_le _) hlt
      have hdq := wrap_dec (q := q) hqpos (by omega)
      have hrr : (r + v1) % 18446744073709551616 = r + v1 := Nat.mod_eq_of_lt (by omega)
      have hqr' : (q - 1) * v1 + (r + v1) = un21 := by
        obtain ⟨k, rfl⟩ : ∃ k, q = k + 1 := ⟨q - 1, by omega⟩
        rw [Nat.add_mul, Nat.one_mul] at hqr
        simp only [Nat.add_sub_cancel]; omega
      repeat (first
        |(refine st_cmp (r := true) (by rfl) (by rfl) (cmpN_t (by first | (simp only [cmpP]; done) | (simp only [cmpP]; omega))) (by rfl) ?_)
        |(refine st_cmp (r := false) (by rfl) (by rfl) (cmpN_f (by first | (simp only [cmpQ]; done) | (simp only [cmpQ]; omega))) (by rfl) ?_)|(rw [hdq])|(rw [hrr])
        |(rw [hp2])|(rw [hp3])|refine Z01 ?_|refine Z02 ?_|refine Z03 ?_|refine Z04 ?_|refine Z05 ?_|refine Z06 ?_|refine Z07 ?_|refine Z08 ?_|refine Z09 ?_|refine Z10 ?_
        |refine Z11 ?_|refine Z12 ?_|refine Z13 ?_|refine Z14 ?_|refine Z17 ?_|refine Z18 ?_|refine Z24 ?_|refine Z25 ?_|refine Z26 ?_|refine Z27 ?_|refine Z28 ?_
        |refine Z33 ?_|refine Z34 ?_|refine Z35 ?_|refine Z37 ?_|refine Z38 ?_|refine Z40 ?_|refine Z41 ?_|refine Z42 ?_|refine Z43 ?_|refine Z44 ?_|refine Z45 ?_
        |refine Z49 ?_|refine Z50 ?_|refine Z51 ?_|refine Z52 ?_|refine Z53 ?_|refine Z67 ?_|refine Z74 ?_|refine Z80 ?_)
      refine st_cond (by rfl) (fun hbr => ?_) (fun hbr => ?_)
      · have hend : q - 1 = q0 := by rw [hq0, hYv]; rw [hYv] at hlt; exact qhat_stop (by omega) hqr' (qhat_break (by omega) (by rw [← hYv]; exact h21Y) hqr' hbr) (by omega)
        repeat (first
          |refine Z01 ?_|refine Z02 ?_|refine Z03 ?_|refine Z04 ?_|refine Z05 ?_|refine Z06 ?_|refine Z07 ?_|refine Z08 ?_|refine Z09 ?_|refine Z10 ?_|refine Z11 ?_
          |refine Z12 ?_|refine Z13 ?_|refine Z14 ?_|refine Z17 ?_|refine Z18 ?_|refine Z24 ?_|refine Z25 ?_|refine Z26 ?_|refine Z27 ?_|refine Z28 ?_|refine Z33 ?_
          |refine Z34 ?_|refine Z35 ?_|refine Z37 ?_|refine Z38 ?_|refine Z40 ?_|refine Z41 ?_|refine Z42 ?_|refine Z43 ?_|refine Z44 ?_|refine Z45 ?_|refine Z49 ?_
          |refine Z50 ?_|refine Z51 ?_|refine Z52 ?_|refine Z53 ?_|refine Z67 ?_|refine Z74 ?_|refine Z80 ?_)
        rw [hend]
        exact st_met () trivial (by repeat (first | apply subL.nil | refine subL.cons (by rfl) ?_)) (by repeat (first | apply SubW.nil | refine SubW.cons (by repeat (first | apply Find.here | apply Find.there)) ?_))
      · repeat (first
          |refine Z01 ?_|refine Z02 ?_|refine Z03 ?_|refine Z04 ?_|refine Z05 ?_|refine Z06 ?_|refine Z07 ?_|refine Z08 ?_|refine Z09 ?_|refine Z10 ?_|refine Z11 ?_
          |refine Z12 ?_|refine Z13 ?_|refine Z14 ?_|refine Z17 ?_|refine Z18 ?_|refine Z24 ?_|refine Z25 ?_|refine Z26 ?_|refine Z27 ?_|refine Z28 ?_|refine Z33 ?_
          |refine Z34 ?_|refine Z35 ?_|refine Z37 ?_|refine Z38 ?_|refine Z40 ?_|refine Z41 ?_|refine Z42 ?_|refine Z43 ?_|refine Z44 ?_|refine Z45 ?_|refine Z49 ?_
          |refine Z50 ?_|refine Z51 ?_|refine Z52 ?_|refine Z53 ?_|refine Z67 ?_|refine Z74 ?_|refine Z80 ?_)
        exact st_round (q - 1, r + v1) ⟨hqr', by simp only; omega, by simp only; omega⟩ (by simp only; omega) (by repeat (first | apply subL.nil | refine subL.cons (by rfl) ?_)) (by repeat (first | apply SubW.nil | refine SubW.cons (by repeat (first | apply Find.here | apply Find.there)) ?_))
    · have hp1 : q * v0 < 18446744073709551616 := Nat.lt_of_le_of_lt (Nat.mul_le_mul (show q ≤ 4294967295 by omega) (show v0 ≤ 4294967295 by omega)) (by decide)
      have hp2 : q * v0 % 18446744073709551616 = q * v0 := Nat.mod_eq_of_lt hp1
      have hp3 : (4294967296 * r % 18446744073709551616 + u0) % 18446744073709551616 = r * 4294967296 + u0 := by omega
      by_cases hc : r * 4294967296 + u0 < q * v0
      · have hlt := qhat_step (v0 := v0) (u1 := u0) (by rw [← hYv]; exact h21Y) hqr hu0 (.inr hc)
        rw [← hYv] at hlt
        have hqpos : 0 < q := Nat.lt_of_le_of_lt (Nat.zero_le _) hlt
        have hdq := wrap_dec (q := q) hqpos (by omega)
        have hrr : (r + v1) % 18446744073709551616 = r + v1 := Nat.mod_eq_of_lt (by omega)
        have hqr' : (q - 1) * v1 + (r + v1) = un21 := by
          obtain ⟨k, rfl⟩ : ∃ k, q = k + 1 := ⟨q - 1, by omega⟩
          rw [Nat.add_mul, Nat.one_mul] at hqr
          simp only [Nat.add_sub_cancel]; omega
        repeat (first
          |(refine st_cmp (r := true) (by rfl) (by rfl) (cmpN_t (by first | (simp only [cmpP]; done) | (simp only [cmpP]; omega))) (by rfl) ?_)
          |(refine st_cmp (r := false) (by rfl) (by rfl) (cmpN_f (by first | (simp only [cmpQ]; done) | (simp only [cmpQ]; omega))) (by rfl) ?_)|(rw [hdq])|(rw [hrr])
          |(rw [hp2])|(rw [hp3])|refine Z01 ?_|refine Z02 ?_|refine Z03 ?_|refine Z04 ?_|refine Z05 ?_|refine Z06 ?_|refine Z07 ?_|refine Z08 ?_|refine Z09 ?_
          |refine Z10 ?_|refine Z11 ?_|refine Z12 ?_|refine Z13 ?_|refine Z14 ?_|refine Z17 ?_|refine Z18 ?_|refine Z24 ?_|refine Z25 ?_|refine Z26 ?_|refine Z27 ?_
          |refine Z28 ?_|refine Z33 ?_|refine Z34 ?_|refine Z35 ?_|refine Z37 ?_|refine Z38 ?_|refine Z40 ?_|refine Z41 ?_|refine Z42 ?_|refine Z43 ?_|refine Z44 ?_
          |refine Z45 ?_|refine Z49 ?_|refine Z50 ?_|refine Z51 ?_|refine Z52 ?_|refine Z53 ?_|refine Z67 ?_|refine Z74 ?_|refine Z80 ?_)
        refine st_cond (by rfl) (fun hbr => ?_) (fun hbr => ?_)
        · have hend : q - 1 = q0 := by rw [hq0, hYv]; rw [hYv] at hlt; exact qhat_stop (by omega) hqr' (qhat_break (by omega) (by rw [← hYv]; exact h21Y) hqr' hbr) (by omega)
          repeat (first
            |refine Z01 ?_|refine Z02 ?_|refine Z03 ?_|refine Z04 ?_|refine Z05 ?_|refine Z06 ?_|refine Z07 ?_|refine Z08 ?_|refine Z09 ?_|refine Z10 ?_|refine Z11 ?_
            |refine Z12 ?_|refine Z13 ?_|refine Z14 ?_|refine Z17 ?_|refine Z18 ?_|refine Z24 ?_|refine Z25 ?_|refine Z26 ?_|refine Z27 ?_|refine Z28 ?_|refine Z33 ?_
            |refine Z34 ?_|refine Z35 ?_|refine Z37 ?_|refine Z38 ?_|refine Z40 ?_|refine Z41 ?_|refine Z42 ?_|refine Z43 ?_|refine Z44 ?_|refine Z45 ?_|refine Z49 ?_
            |refine Z50 ?_|refine Z51 ?_|refine Z52 ?_|refine Z53 ?_|refine Z67 ?_|refine Z74 ?_|refine Z80 ?_)
          rw [hend]
          exact st_met () trivial (by repeat (first | apply subL.nil | refine subL.cons (by rfl) ?_)) (by repeat (first | apply SubW.nil | refine SubW.cons (by repeat (first | apply Find.here | apply Find.there)) ?_))
        · repeat (first
            |refine Z01 ?_|refine Z02 ?_|refine Z03 ?_|refine Z04 ?_|refine Z05 ?_|refine Z06 ?_|refine Z07 ?_|refine Z08 ?_|refine Z09 ?_|refine Z10 ?_|refine Z11 ?_
            |refine Z12 ?_|refine Z13 ?_|refine Z14 ?_|refine Z17 ?_|refine Z18 ?_|refine Z24 ?_|refine Z25 ?_|refine Z26 ?_|refine Z27 ?_|refine Z28 ?_|refine Z33 ?_
            |refine Z34 ?_|refine Z35 ?_|refine Z37 ?_|refine Z38 ?_|refine Z40 ?_|refine Z41 ?_|refine Z42 ?_|refine Z43 ?_|refine Z44 ?_|refine Z45 ?_|refine Z49 ?_
            |refine Z50 ?_|refine Z51 ?_|refine Z52 ?_|refine Z53 ?_|refine Z67 ?_|refine Z74 ?_|refine Z80 ?_)
          exact st_round (q - 1, r + v1) ⟨hqr', by simp only; omega, by simp only; omega⟩ (by simp only; omega) (by repeat (first | apply subL.nil | refine subL.cons (by rfl) ?_)) (by repeat (first | apply SubW.nil | refine SubW.cons (by repeat (first | apply Find.here | apply Find.there)) ?_))
      · have hend : q = q0 := by rw [hq0, hYv]; rw [hYv] at hqq; exact qhat_stop (by omega) hqr (by omega) hqq
        repeat (first
          |(refine st_cmp (r := false) (by rfl) (by rfl) (cmpN_f (by first | (simp only [cmpQ]; done) | (simp only [cmpQ]; omega))) (by rfl) ?_)|(rw [hp2])|(rw [hp3])
          |refine Z01 ?_|refine Z02 ?_|refine Z03 ?_|refine Z04 ?_|refine Z05 ?_|refine Z06 ?_|refine Z07 ?_|refine Z08 ?_|refine Z09 ?_|refine Z10 ?_|refine Z11 ?_
          |refine Z12 ?_|refine Z13 ?_|refine Z14 ?_|refine Z17 ?_|refine Z18 ?_|refine Z24 ?_|refine Z25 ?_|refine Z26 ?_|refine Z27 ?_|refine Z28 ?_|refine Z33 ?_
          |refine Z34 ?_|refine Z35 ?_|refine Z37 ?_|refine Z38 ?_|refine Z40 ?_|refine Z41 ?_|refine Z42 ?_|refine Z43 ?_|refine Z44 ?_|refine Z45 ?_|refine Z49 ?_
          |refine Z50 ?_|refine Z51 ?_|refine Z52 ?_|refine Z53 ?_|refine Z67 ?_|refine Z74 ?_|refine Z80 ?_)
        rw [hend]
        exact st_met () trivial (by repeat (first | apply subL.nil | refine subL.cons (by rfl) ?_)) (by repeat (first | apply SubW.nil | refine SubW.cons (by repeat (first | apply Find.here | apply Find.there)) ?_))
  intro _ _
  have hr2 := wrap_sub (a := un21 * 4294967296) (b := u0) (c := q0 * Y) (d := (un21 * 4294967296 + u0) % Y) (by rw [hq0]; exact div_rem_eq _ _) (Nat.lt_trans (Nat.mod_lt _ hYp) hYW)
  have hQ0 : q0 < 4294967296 := by rw [hq0]; exact qhat_lt h21Y hu0
  have hqq : q1 * 4294967296 % 18446744073709551616 = q1 * 4294967296 := Nat.mod_eq_of_lt (by omega)
  have hqs : (q1 * 4294967296 + q0) % 18446744073709551616 = q1 * 4294967296 + q0 := Nat.mod_eq_of_lt (by omega)
  repeat (first
    |(rw [hr2])|(rw [hqq])|(rw [hqs])|(refine st_shr (by rfl) (by rfl) (show s ≤ 64 by omega) (by rfl) ?_)|refine Z01 ?_|refine Z02 ?_|refine Z03 ?_|refine Z04 ?_
    |refine Z05 ?_|refine Z06 ?_|refine Z07 ?_|refine Z08 ?_|refine Z09 ?_|refine Z10 ?_|refine Z11 ?_|refine Z12 ?_|refine Z13 ?_|refine Z14 ?_|refine Z17 ?_
    |refine Z18 ?_|refine Z24 ?_|refine Z25 ?_|refine Z26 ?_|refine Z27 ?_|refine Z28 ?_|refine Z33 ?_|refine Z34 ?_|refine Z35 ?_|refine Z37 ?_|refine Z38 ?_
    |refine Z40 ?_|refine Z41 ?_|refine Z42 ?_|refine Z43 ?_|refine Z44 ?_|refine Z45 ?_|refine Z49 ?_|refine Z50 ?_|refine Z51 ?_|refine Z52 ?_|refine Z53 ?_
    |refine Z67 ?_|refine Z74 ?_|refine Z80 ?_)
  refine Ze2 fun _ hw => post_of hw SubW.nil ⟨?_, rfl⟩
  obtain ⟨g1, g2⟩ := div_two (u := u) (u1 := u1) (u0 := u0) hYp
  rw [← hq1, ← hun21] at g1
  rw [← hun21] at g2
  rw [← hq0] at g1
  rw [hu10, hN, hYs, Nat.mul_div_mul_right _ _ (Nat.two_pow_pos s)] at g1
  rw [hu10, hN, hYs, Nat.mul_mod_mul_right] at g2
  rw [g1, hYs, g2, Nat.shiftRight_eq_div_pow, Nat.mul_div_cancel _ (Nat.two_pow_pos s)]
end Go.Proofs.Ytbpmbdlgmmabcaa.L
namespace Go.Proofs.Ytbpmbdlgmmabcaa.Num
theorem mod_pq {a b p q : Nat} (h : a < p) : (a + p * b) % (p * q) = a + p * (b % q) := by
  rw [Nat.mod_mul, Nat.add_mul_mod_self_left, Nat.mod_eq_of_lt h, Nat.add_mul_div_left _ _ (Nat.lt_of_le_of_lt (Nat.zero_le _) h), Nat.div_eq_of_lt h, Nat.zero_add]
theorem shift_word {w : Nat} (hw : w ≤ 63) (X i : Nat) :
    ((X / W ^ i % W) >>> w + (X / W ^ (i + 1) % W) <<< (64 - w) % 18446744073709551616) % 18446744073709551616 = X / 2 ^ w / W ^ i % W := by
  have e1 : X / 2 ^ w / W ^ i = X / W ^ i / 2 ^ w := by rw [Nat.div_div_eq_div_mul, Nat.mul_comm, ← Nat.div_div_eq_div_mul]
  have e2 : X / W ^ (i + 1) = X / W ^ i / W := by rw [Nat.pow_succ, Nat.div_div_eq_div_mul]
  rw [e1, e2, Nat.shiftRight_eq_div_pow, Nat.shiftLeft_eq]
  generalize X / W ^ i = Y
  have hW : W = 2 ^ w * 2 ^ (64 - w) := by rw [← Nat.pow_add, W_2, show w + (64 - w) = 64 by omega]
  have hW' : (18446744073709551616 : Nat) = 2 ^ (64 - w) * 2 ^ w := by rw [← Nat.pow_add, show 64 - w + w = 64 by omega]
  have hY := Nat.mod_add_div Y W
  have ha := Nat.two_pow_pos w
  have hb := Nat.two_pow_pos (64 - w)
  have h3 : Y / W % W * 2 ^ (64 - w) % 18446744073709551616 = 2 ^ (64 - w) * (Y / W % 2 ^ w) := by
    rw [hW', Nat.mul_comm (Y / W % W), Nat.mul_mod_mul_left, hW, Nat.mod_mul_right_mod]
  have h4 : Y / 2 ^ w = Y % W / 2 ^ w + 2 ^ (64 - w) * (Y / W) := by
    conv => lhs; rw [← hY]
    rw [hW, Nat.mul_assoc, Nat.add_mul_div_left _ _ ha, ← hW]
  have h5 : Y % W / 2 ^ w < 2 ^ (64 - w) := by
    refine Nat.div_lt_of_lt_mul ?_
    rw [← hW]; exact Nat.mod_lt _ W_pos
  have h6 : Y / 2 ^ w % W = Y % W / 2 ^ w + 2 ^ (64 - w) * (Y / W % 2 ^ w) := by
    rw [h4]
    have := mod_pq (b := Y / W) (q := 2 ^ w) h5
    rwa [Nat.mul_comm (2 ^ (64 - w)) (2 ^ w), ← hW] at this
  rw [h3, h6]
  refine Nat.mod_eq_of_lt ?_
  have h7 : Y / W % 2 ^ w < 2 ^ w := Nat.mod_lt _ ha
  have h8 := Nat.mul_le_mul_left (2 ^ (64 - w)) (show Y / W % 2 ^ w + 1 ≤ 2 ^ w from h7)
  rw [← hW', Nat.mul_add] at h8
  omega
end Go.Proofs.Ytbpmbdlgmmabcaa.Num
namespace Go.Proofs.Ytbpmbdlgmmabcaa.L.R
open Go Go.Proofs.Ytbpmbdlgmmabcaa.L
inductive Kd where
  | free
  | pin
  | eff
  | alc
def Kd.isEff : Kd → Bool
  | .eff => true
  | .alc => true
  | _ => false
def memClash : Kd → Kd → Bool
  | .eff, .pin => true
  | .pin, .eff => true
  | _, _ => false
def pinW (kd : Kd) (W : List Res) : List Res := match kd with
  | .free => []
  | _ => W
theorem drop_all {c : Cx} {W : List Res} {w : World} : ∀ {A : List Res}, SatW c (A ++ W) w → SatW c W w
  | [], h => h
  | r :: A, h => drop_all (A := A) (SatW.drop (r := r) h)
theorem frame_all {c : Cx} {A W W' : List Res} {w w' : World} (h : SatW c (A ++ W) w) (h1 : SatW ⟨w, fps W⟩ W' w') : SatW c (A ++ W') w' := by
  have hnd0 := h.nd
  have hown := h.own
  simp only [fps, List.flatMap_append] at hnd0
  obtain ⟨n1, n2, n3⟩ := List.nodup_append.1 hnd0
  simp only [fps, List.flatMap_append, List.mem_append] at hown
  have hlt := h.lt
  simp only [fps, List.flatMap_append, List.mem_append] at hlt
  refine ⟨h.ext.trans h1.ext (fun x hx => hown x (.inr hx)), ?_, ?_, ?_⟩
  · intro r hr
    rcases List.mem_append.1 hr with hr | hr
    · refine Res.holds_congr (h.holds r (List.mem_append.2 (.inl hr))) fun b hb => ?_
      refine h1.ext.block b (Res.fp_lt (h.holds r (List.mem_append.2 (.inl hr))) b hb) fun hin => ?_
      exact n3 b (List.mem_flatMap.2 ⟨r, hr, hb⟩) b hin rfl
    · exact h1.holds r hr
  · intro b hb
    simp only [fps, List.flatMap_append, List.mem_append] at hb
    rcases hb with hb | hb
    · exact hown b (.inl hb)
    · rcases h1.own b hb with h2 | h2
      · exact .inl (Nat.le_trans h.ext.size h2)
      · exact hown b (.inr h2)
  · simp only [fps, List.flatMap_append]
    refine List.nodup_append.2 ⟨n1, h1.nd, fun x hx y hy hxy => ?_⟩
    subst hxy
    rcases h1.own x hy with h2 | h2
    · have := hlt x (.inl hx); simp only at h2; omega
    · exact n3 x hx x h2 rfl
abbrev En := List (Nat × Kd)
def bitA (anc : List Nat) (j i : Nat) : Bool := Nat.testBit (anc.getD j 0) i
def ordOK (os : List Oper) (anc : List Nat) (x y : Nat × Kd) : Bool :=
  (match os[x.1]?, os[y.1]? with
   | some o, some p => !clash os.toArray o p || bitA anc y.1 x.1
   | _, _ => false) && (!memClash x.2 y.2 || bitA anc y.1 x.1) && !Nat.beq x.1 y.1
def allPairs {α : Type} (R : α → α → Bool) : List α → Bool
  | [] => true
  | x :: r => r.all (R x) && allPairs R r
theorem allPairs_spec {α : Type} {R : α → α → Bool} : ∀ {l : List α}, allPairs R l = true → ∀ {i j : Nat} {x y : α}, i < j → l[i]? = some x → l[j]? = some y → R x y = true
  | [], _, i, j, x, y, _, hx, _ => by simp at hx
  | z :: r, h, i, j, x, y, hij, hx, hy => by
    simp only [allPairs, Bool.and_eq_true] at h
    cases j with
    | zero => omega
    | succ j =>
      have hy' : r[j]? = some y := by simpa using hy
      cases i with
      | zero =>
        simp at hx; subst hx
        exact List.all_eq_true.1 h.1 y (List.mem_of_getElem? hy')
      | succ i => exact allPairs_spec h.2 (i := i) (j := j) (by omega) (by simpa using hx) hy'
def chkP (os : List Oper) (E : En) : Bool := ancOK os 0 (mkAnc os []) && allPairs (ordOK os (mkAnc os [])) E
def descP (os : List Oper) (is rest : List Nat) (E : En) : Bool :=
  rest.all (fun j => is.any (fun i => bitA (mkAnc os []) j i)) && (List.range os.length).all (fun j => is.any (Nat.beq j) || rest.any (Nat.beq j) || E.any (fun e => Nat.beq e.1 j))
def fullP (os : List Oper) (E : En) : Bool := (List.range os.length).all (fun j => E.any (fun e => Nat.beq e.1 j))
def newP (i : Nat) (E : En) : Bool := !E.any (fun e => Nat.beq e.1 i)
section
variable (P : Program) (c : Cx) (n : Nat)
def OpN (W : List Res) (Φ : Option (Nat × Value) → List Res → Prop) (lr : Sl) (o : Oper) : Prop :=
  ∀ w0 m, SatW c W w0 → Go ⟨w0, fps W⟩ n (lr ++ m) W (wpList P #[] (fun e a w => e = .normal ∧ ∃ u W', Φ u W' ∧ SatA n (u.toList ++ (lr ++ m)) a ∧ SatW ⟨w0, fps W⟩ W' w) [o])
end
inductive QF (P : Program) (c : Cx) (n : Nat) (os : List Oper) (K : Act → World → Prop) : En → List Res → Sl → List Nat → Prop
  | fin {E : En} {W : List Res} {l : Sl} (hc : chkP os E = true) (hf : fullP os E = true) (hk : Go c n l W K) : QF P c n os K E W l []
  | val {E : En} {W : List Res} {l : Sl} {i d : Nat} {o : Oper} {v : Value} {rest : List Nat} (kd : Kd) (hk : kd.isEff = false) (hi : newP i E = true) (ho : os[i]? = some o) (hd : o.dst = some d) (hn : Nat.blt d n = true)
      (hg : gSays os.toArray l o = some true) (h : OpV P c n (pinW kd W) (pinW kd W) (restr os.toArray o l) (noG o) (some (d, v)))
      (hr : QF P c n os K (E ++ [(i, kd)]) W ((d, v) :: l) rest) : QF P c n os K E W l (i :: rest)
  | no {E : En} {W : List Res} {l : Sl} {i d : Nat} {o : Oper} {rest : List Nat} (hi : newP i E = true) (ho : os[i]? = some o) (hd : o.dst = some d) (hn : Nat.blt d n = true)
      (hg : gSays os.toArray l o = some false) (hr : QF P c n os K (E ++ [(i, .free)]) W ((d, undef) :: l) rest) : QF P c n os K E W l (i :: rest)
  | nd {E : En} {W : List Res} {l : Sl} {is rest : List Nat} {o : Nat → Oper} {Φ : Nat → Option (Nat × Value) → List Res → Prop} {kd : Nat → Kd} {nx : Nat → List Nat} (hne : is ≠ []) (hi : ∀ i ∈ is, newP i E = true) (ho : ∀ i ∈ is, os[i]? = some (o i))
      (hc : ∀ i ∈ is, chkP os (E ++ [(i, kd i)]) = true) (hdesc : descP os is rest E = true) (hΦ : ∀ i ∈ is, ∀ u W', Φ i u W' → (o i).dst = u.map (·.1) ∧ (∀ d, (o i).dst = some d → Nat.blt d n = true) ∧ (kd i = .eff ∨ (kd i = .alc ∧ ∃ B, W' = B ++ W)))
      (hg : ∀ i ∈ is, gSays os.toArray l (o i) = some true) (h : ∀ i ∈ is, OpN P c n W (Φ i) (restr os.toArray (o i) l) (noG (o i)))
      (hr : ∀ i ∈ is, ∀ u W', Φ i u W' → QF P c n os K (E ++ [(i, kd i)]) W' (u.toList ++ l) (nx i)) : QF P c n os K E W l (is ++ rest)
theorem cur_append : ∀ (us vs : Pu) (D : Nat → Bool) (i : Nat) (l : Sl), cur (us ++ vs) D i l = cur vs D (i + us.length) (cur us D i l)
  | [], vs, D, i, l => by simp [cur]
  | u :: r, vs, D, i, l => by
    simp only [List.cons_append, cur, List.length_cons]
    rw [cur_append r vs D (i + 1)]
    congr 1; omega
theorem cur_congr : ∀ (us : Pu) (D D' : Nat → Bool) (i : Nat) (l : Sl), (∀ j, j < us.length → D (i + j) = D' (i + j)) → cur us D i l = cur us D' i l
  | [], D, D', i, l, _ => rfl
  | u :: r, D, D', i, l, h => by
    simp only [cur]
    have h0 := h 0 (by simp)
    simp only [Nat.add_zero] at h0
    rw [h0, cur_congr r D D' (i + 1) _ (fun j hj => by have := h (j + 1) (by simpa using hj); rw [show i + 1 + j = i + (j + 1) by omega]; exact this)]
def dn (L : Array Bool) (E : En) (k : Nat) : Bool := match E[k]? with
  | some e => L.getD e.1 false
  | none => false
section
variable {P : Program} {c : Cx} {n : Nat} {os : List Oper} {Q : Exit → Act → World → Prop}
structure InvP (P : Program) (c : Cx) (n : Nat) (os : List Oper) (l0 : Sl) (E : En) (us : Pu) (W : List Res) (l : Sl) (L : Array Bool) (a : Act) (w : World) : Prop where
  size : L.size = os.length
  clo : ∀ i j, L.getD i false = true → Nat.testBit ((mkAnc os []).getD i 0) j = true → L.getD j false = true
  sub : ∀ i, L.getD i false = true → ∃ (k : Nat) (e : Nat × Kd), E[k]? = some e ∧ e.1 = i
  len : us.length = E.length
  fr : SatA n (cur us (dn L E) 0 l0) a
  wd : SatW c W w
  txt : l = cur us (fun _ => true) 0 l0
  ents : ∀ (k : Nat) (e : Nat × Kd) (u : Option (Nat × Value)), E[k]? = some e → us[k]? = some u → ∃ o, os[e.1]? = some o ∧ o.dst = u.map (·.1) ∧ (∀ d, o.dst = some d → Nat.blt d n = true) ∧
    (L.getD e.1 false = true ∨ (gSays os.toArray (cur (us.take k) (fun _ => true) 0 l0) o = some true ∧ e.2.isEff = false ∧ ∃ A Wk, W = A ++ Wk ∧ (e.2 = .free → Wk = []) ∧ OpV P c n Wk Wk (restr os.toArray o (cur (us.take k) (fun _ => true) 0 l0)) (noG o) u) ∨
      (gSays os.toArray (cur (us.take k) (fun _ => true) 0 l0) o = some false ∧ ∃ d, u = some (d, undef)))
theorem ready_spec {L : Array Bool} {i : Nat} (hL : L.size = os.length) (hi : i ∈ Region.ready .any os.toArray L) : ∃ o, os[i]? = some o ∧ L.getD i false = false ∧ i < os.length ∧ ∀ d ∈ depsOf o, L.getD d false = true := by
  simp only [Region.ready, List.size_toArray, List.mem_filter, List.mem_range, Bool.and_eq_true, Bool.not_eq_true'] at hi
  obtain ⟨hlt, hnl, hdeps⟩ := hi
  obtain ⟨o, ho⟩ : ∃ o, os[i]? = some o := ⟨os[i], by simp [hlt]⟩
  refine ⟨o, ho, ?_, hlt, fun d hd => ?_⟩
  · rw [Array.getD_eq_getD_getElem?] at hnl ⊢
    rw [Array.getElem?_eq_getElem (by omega)] at hnl ⊢
    simpa using hnl
  · have ho' : os.toArray[i]? = some o := by simpa using ho
    rw [ho'] at hdeps
    simp only [Option.map_some, Option.getD_some] at hdeps
    obtain ⟨e, he, rfl⟩ := List.mem_map.1 hd
    rw [List.mem_filter] at he
    have hx := Array.all_eq_true'.1 hdeps e (by simpa using he.1)
    simpa [he.2] using hx
theorem ready_nil {L : Array Bool} (hanc : ancOK os 0 (mkAnc os []) = true) (hL : L.size = os.length) (hr : Region.ready .any os.toArray L = []) : ∀ i, i < os.length → L.getD i false = true := by
  intro i
  induction i using Nat.strongRecOn with
  | _ i ih =>
    intro hi
    by_cases hd : L.getD i false = true
    · exact hd
    · exfalso
      have hd' : L.getD i true = false := by
        rw [Array.getD_eq_getD_getElem?, Array.getElem?_eq_getElem (by omega)] at hd ⊢
        simpa using hd
      have hm : i ∈ Region.ready .any os.toArray L := by
        simp only [Region.ready, List.size_toArray, List.mem_filter, List.mem_range, Bool.and_eq_true, Bool.not_eq_true']
        refine ⟨hi, hd', ?_⟩
        have ho : os[i]? = some os[i] := by simp [hi]
        have ho' : os.toArray[i]? = some os[i] := by simp [hi]
        rw [ho']
        simp only [Option.map_some, Option.getD_some]
        rw [Array.all_eq_true']
        intro e he
        by_cases hb : Region.binds .any e = true
        · have hdep : e.on ∈ depsOf os[i] := List.mem_map.2 ⟨e, List.mem_filter.2 ⟨by simpa using he, hb⟩, rfl⟩
          have hlt := (ancOK_spec hanc ho).1 _ hdep
          simp only [Nat.zero_add] at hlt
          simp [ih e.on hlt (by omega)]
        · simp [hb]
      rw [hr] at hm; cases hm
theorem ready_full {L : Array Bool} (hL : L.size = os.length) (hf : os.length - (L.toList.filter id).length = 0) : Region.ready .any os.toArray L = [] := by
  have hcount : (L.toList.filter id).length = L.toList.length := by
    have := List.length_filter_le id L.toList
    simp only [Array.length_toList] at this ⊢
    omega
  rw [List.eq_nil_iff_forall_not_mem]
  intro i hi
  obtain ⟨o, ho, hnl, hlt, _⟩ := ready_spec hL hi
  have hallt := List.length_filter_eq_length_iff.1 hcount
  have : L[i]'(by omega) = true := by
    have := hallt (L[i]'(by omega)) (by simp)
    simpa using this
  rw [Array.getD_eq_getD_getElem?, Array.getElem?_eq_getElem (by omega)] at hnl
  simp [this] at hnl
theorem set_get {L : Array Bool} {i : Nat} (hL : L.size = os.length) (hlt : i < os.length) (j : Nat) : (L.setIfInBounds i true).getD j false = if j = i then true else L.getD j false := by
  simp only [Array.getD_eq_getD_getElem?]
  by_cases hj : j = i
  · subst hj; simp [hL, hlt]
  · rw [Array.getElem?_setIfInBounds_ne (fun e => hj e.symm), if_neg hj]
theorem set_count {L : Array Bool} {i fuel : Nat} (hL : L.size = os.length) (hlt : i < os.length) (hnl : L.getD i false = false) (hf : os.length - (L.toList.filter id).length = fuel + 1) :
    os.length - ((L.setIfInBounds i true).toList.filter id).length = fuel := by
  have e : ((L.setIfInBounds i true).toList.filter id).length = (L.toList.filter id).length + 1 := by
    rw [Array.toList_setIfInBounds]
    have hli : i < L.toList.length := by simpa [hL] using hlt
    have hv : L.toList[i] = false := by
      rw [Array.getD_eq_getD_getElem?, Array.getElem?_eq_getElem (by omega)] at hnl
      simpa using hnl
    rw [List.set_eq_take_append_cons_drop, if_pos hli]
    conv => rhs; rw [← List.take_append_drop i L.toList, List.drop_eq_getElem_cons hli, hv]
    simp only [List.filter_append, List.length_append, List.filter_cons, id, if_true, List.length_cons]
    simp
    omega
  rw [e]; omega
/-- What a done set says of one that is ready: it reads what the order of one's own says. -/
theorem look_at {l0 : Sl} {E : En} {us : Pu} {W : List Res} {l : Sl} {L : Array Bool} {a : Act} {w : World} (hI : InvP P c n os l0 E us W l L a w) {i k : Nat} {o : Oper} (_ : os[i]? = some o) (hnl : L.getD i false = false)
    (hanci : ∀ j, Nat.testBit ((mkAnc os []).getD i 0) j = true → L.getD j false = true) (_ : k ≤ E.length)
    (hbef : ∀ (j : Nat) (e : Nat × Kd), E[j]? = some e → j < k → ∀ y : Oper, os[e.1]? = some y → clash os.toArray y o = true → Nat.testBit ((mkAnc os []).getD i 0) e.1 = true)
    (hbeh : ∀ (j : Nat) (e : Nat × Kd), E[j]? = some e → k ≤ j → ∀ y : Oper, os[e.1]? = some y → clash os.toArray o y = true → e.1 = i ∨ Nat.testBit ((mkAnc os []).getD e.1 0) i = true) :
    (∀ t ∈ namesOf os.toArray o, lk (cur us (dn L E) 0 l0) t = lk (cur (us.take k) (fun _ => true) 0 l0) t) ∧
    (∀ t, o.dst = some t → ∀ (j : Nat) (x : Option (Nat × Value)), us[j]? = some x → writes x t → k ≤ j → dn L E j = false) := by
  have hwr : ∀ (j : Nat) (x : Option (Nat × Value)) (t : Nat), us[j]? = some x → writes x t → ∃ (e : Nat × Kd) (y : Oper), E[j]? = some e ∧ os[e.1]? = some y ∧ y.dst = some t := by
    intro j x t hx ⟨v, hv⟩
    have hjl : j < E.length := by
      rcases Nat.lt_or_ge j us.length with h | h
      · have := hI.len; omega
      · rw [List.getElem?_eq_none h] at hx; cases hx
    obtain ⟨o', ho', hd', _⟩ := hI.ents j E[j] x (by simp [hjl]) hx
    exact ⟨E[j], o', by simp [hjl], ho', by rw [hd', hv]; rfl⟩
  have hback : ∀ j e y, E[j]? = some e → k ≤ j → os[e.1]? = some y → clash os.toArray o y = true → dn L E j = false := by
    intro j e y he hkj hy hc
    simp only [dn, he]
    rcases hbeh j e he hkj y hy hc with h | h
    · rw [h]; exact hnl
    · cases hj : L.getD e.1 false
      · rfl
      · have := hI.clo e.1 i hj h; rw [hnl] at this; cases this
  refine ⟨fun t ht => ?_, fun t hdt j x hx hw hkj => ?_⟩
  · refine lk_cur_text us _ 0 l0 t k (fun j x hx hw hji => ?_) (fun j x hx hw hij => ?_)
    · obtain ⟨e, y, he, hy, hyd⟩ := hwr j x t hx hw
      simp only [Nat.zero_add, dn, he]
      refine hanci _ (hbef j e he hji y hy ?_)
      simp only [clash, hyd, Bool.or_eq_true]
      exact .inl (.inr (List.any_eq_true.2 ⟨t, ht, Nat.beq_refl t⟩))
    · obtain ⟨e, y, he, hy, hyd⟩ := hwr j x t hx hw
      simp only [Nat.zero_add]
      refine hback j e y he hij hy ?_
      simp only [clash, hyd, Bool.or_eq_true]
      exact .inr (List.any_eq_true.2 ⟨t, ht, Nat.beq_refl t⟩)
  · obtain ⟨e, y, he, hy, hyd⟩ := hwr j x t hx hw
    refine hback j e y he hkj hy ?_
    simp only [clash, hdt, Bool.or_eq_true]
    refine .inl (.inl ?_)
    simp [inDst, hyd, Nat.beq_refl]
theorem wanted_of {ops : Array Oper} {ltxt : Sl} {a : Act} {o : Oper} {b : Bool} (hg : gSays ops ltxt o = some b)
    (hyield : ∀ j want, o.guard = some (j, want) → ∀ t, (ops[j]?).bind (·.dst) = some t → ∀ v, lk ltxt t = some v → a.tmps[t]? = some v) : Region.wanted o (yielded ops a.tmps) = b := by
  unfold gSays at hg
  unfold Region.wanted
  cases hgd : o.guard with
  | none => simp [hgd] at hg; rw [hg]
  | some jw =>
    obtain ⟨j, want⟩ := jw
    simp only [hgd] at hg ⊢
    cases hj : (ops[j]?).bind (·.dst) with
    | none => rw [hj] at hg; cases hg
    | some t =>
      simp only [hj] at hg
      cases hv : lk ltxt t with
      | none => rw [hv] at hg; cases hg
      | some v =>
        have hav := hyield j want hgd t hj v hv
        rw [hv] at hg
        unfold yielded
        rw [hj]
        cases v <;> simp at hg
        · simp [hav, hg]
        · subst hg; simp [hav]
theorem ord_clash {anc : List Nat} {x y : Nat × Kd} (h : ordOK os anc x y = true) {o p : Oper} (ho : os[x.1]? = some o) (hp : os[y.1]? = some p) (hc : clash os.toArray o p = true) : Nat.testBit (anc.getD y.1 0) x.1 = true := by
  simp only [ordOK, ho, hp, hc, Bool.not_true, Bool.false_or, Bool.and_eq_true] at h
  exact h.1.1
theorem ord_mem {anc : List Nat} {x y : Nat × Kd} (h : ordOK os anc x y = true) (hm : memClash x.2 y.2 = true) : Nat.testBit (anc.getD y.1 0) x.1 = true := by
  simp only [ordOK, hm, Bool.not_true, Bool.false_or, Bool.and_eq_true] at h
  exact h.1.2
theorem ord_ne {anc : List Nat} {x y : Nat × Kd} (h : ordOK os anc x y = true) : x.1 ≠ y.1 := by
  simp only [ordOK, Bool.and_eq_true, Bool.not_eq_true'] at h
  exact ne_beq h.2
theorem noG_wp {o : Oper} {a : Act} {w : World} {K : Act → World → Prop} {Q : Exit → Act → World → Prop} (h : (noG o).wp P a w K Q) : o.wp P a w K Q := h
theorem single_mono {ops : Array Oper} {Q Q' : Exit → Act → World → Prop} {o : Oper} {a : Act} {w : World} (h : wpList P ops Q [o] a w) (hg : o.guard = none) (hQ : ∀ e a w, Q e a w → e = .normal)
    (hm : ∀ a w, Q .normal a w → Q' .normal a w) : wpList P ops Q' [o] a w := by
  rcases wpList_single h hg with h1 | ⟨_, a0, w0, hq⟩
  · simp only [wpList]
    rw [if_pos (by simp [Region.wanted, hg])]
    left
    exact oper_wp_change h1 hm hQ
  · exact absurd (hQ _ _ _ hq) (by simp)
/-- The frame behind one operation more. -/
theorem after_op {lr : Sl} {u : Option (Nat × Value)} {base : Sl} {a a' : Act} (hA : SatA n base a) (hlr : ∀ t v, lk lr t = some v → a.tmps[t]? = some v) (hsa : SatA n (u.toList ++ (lr ++ allSl a n)) a') :
    ∀ t v, lk (u.toList ++ base) t = some v → a'.tmps[t]? = some v := by
  intro t v ht
  refine hsa.at_ t v ?_
  rw [lk_append] at ht ⊢
  cases hut : lk u.toList t with
  | some v' => rw [hut] at ht; exact ht
  | none =>
    rw [hut] at ht
    simp only at ht ⊢
    have hat' := hA.at_ t v ht
    rw [lk_append]
    cases hr : lk lr t with
    | some v' =>
      have := hlr t v' hr
      rw [this] at hat'; exact hat'
    | none =>
      have htn : t < n := by
        rcases Nat.lt_or_ge t n with h | h
        · exact h
        · rw [Array.getElem?_eq_none (by rw [hA.sz]; exact h)] at hat'; cases hat'
      exact allSl_get a n t v htn hat'
theorem clo_set {L : Array Bool} {i : Nat} (hL : L.size = os.length) (hlt : i < os.length) (hclo : ∀ i j, L.getD i false = true → Nat.testBit ((mkAnc os []).getD i 0) j = true → L.getD j false = true)
    (hanci : ∀ j, Nat.testBit ((mkAnc os []).getD i 0) j = true → L.getD j false = true) :
    ∀ p q, (L.setIfInBounds i true).getD p false = true → Nat.testBit ((mkAnc os []).getD p 0) q = true → (L.setIfInBounds i true).getD q false = true := by
  intro p q hp hq
  rw [set_get hL hlt] at hp ⊢
  by_cases hqi : q = i
  · simp [hqi]
  · rw [if_neg hqi]
    by_cases hpi : p = i
    · subst hpi; exact hanci q hq
    · rw [if_neg hpi] at hp; exact hclo p q hp hq
theorem anc_done {L : Array Bool} {i : Nat} {o : Oper} (hanc : ancOK os 0 (mkAnc os []) = true) (ho : os[i]? = some o) (hclo : ∀ i j, L.getD i false = true → Nat.testBit ((mkAnc os []).getD i 0) j = true → L.getD j false = true)
    (hdeps : ∀ d ∈ depsOf o, L.getD d false = true) : ∀ j, Nat.testBit ((mkAnc os []).getD i 0) j = true → L.getD j false = true := by
  intro j hj
  have hspec := ancOK_spec hanc ho
  simp only [Nat.zero_add] at hspec
  obtain ⟨d, hd, he⟩ := hspec.2 j hj
  rcases he with rfl | he
  · exact hdeps d hd
  · exact hclo d j (hdeps d hd) he
theorem perform {l0 : Sl} {E : En} {us : Pu} {W : List Res} {l : Sl} {L : Array Bool} {a : Act} {w : World} (hI : InvP P c n os l0 E us W l L a w) (hanc : ancOK os 0 (mkAnc os []) = true) (hpairs : allPairs (ordOK os (mkAnc os [])) E = true)
    {k : Nat} {e : Nat × Kd} (he : E[k]? = some e) {o : Oper} (ho : os[e.1]? = some o) (hnl : L.getD e.1 false = false) (hdeps : ∀ d ∈ depsOf o, L.getD d false = true) {K' : Act → World → Prop}
    (hcont : ∀ a' w', InvP P c n os l0 E us W l (L.setIfInBounds e.1 true) a' w' → K' a' w') : wpOp P os.toArray Q e.1 K' a w := by
  have hlt : e.1 < os.length := by
    rcases Nat.lt_or_ge e.1 os.length with h | h
    · exact h
    · rw [List.getElem?_eq_none h] at ho; cases ho
  have hkl : k < E.length := by
    rcases Nat.lt_or_ge k E.length with h | h
    · exact h
    · rw [List.getElem?_eq_none h] at he; cases he
  have hanci := anc_done hanc ho hI.clo hdeps
  obtain ⟨u, hu⟩ : ∃ u, us[k]? = some u := ⟨us[k]'(by have := hI.len; omega), by have := hI.len; simp [show k < us.length by omega]⟩
  obtain ⟨o', ho', hdst, hinn, hsay⟩ := hI.ents k e u he hu
  rw [ho] at ho'; cases ho'
  have hlook := look_at hI ho hnl hanci (Nat.le_of_lt hkl)
    (fun j e' he' hjk y hy hc => ord_clash (allPairs_spec hpairs hjk he' he) hy ho hc)
    (fun j e' he' hkj y hy hc => by
      rcases Nat.eq_or_lt_of_le hkj with rfl | hlt'
      · rw [he] at he'; cases he'; exact .inl rfl
      · exact .inr (ord_clash (allPairs_spec hpairs hlt' he he') ho hy hc))
  have hfr : ∀ a', (∀ t v, lk (u.toList ++ cur us (dn L E) 0 l0) t = some v → a'.tmps[t]? = some v) → a'.defers = [] → a'.tmps.size = n → SatA n (cur us (dn (L.setIfInBounds e.1 true) E) 0 l0) a' := by
    intro a' h1 h2 h3
    refine ⟨h2, h3, fun t v ht => h1 t v ?_⟩
    have hs := lk_cur_set us (dn L E) (dn (L.setIfInBounds e.1 true) E) 0 l0 t k u hu (by simp [dn, he, set_get hI.size hlt]) (by simp [dn, he, hnl])
      (fun j hj => by
        simp only [Nat.zero_add, dn]
        cases hj' : E[j]? with
        | none => rfl
        | some e' =>
          have hne : e'.1 ≠ e.1 := by
            rcases Nat.lt_or_gt_of_ne hj with h | h
            · exact ord_ne (allPairs_spec hpairs h hj' he)
            · exact fun q => ord_ne (allPairs_spec hpairs h he hj') q.symm
          simp only [set_get hI.size hlt, if_neg hne])
    by_cases hw : writes u t
    · obtain ⟨v', hv'⟩ := hw
      have hod : o.dst = some t := by rw [hdst, hv']; rfl
      have := hs.2 v' hv' (fun j x hx hw hij => by
        simp only [Nat.zero_add]
        exact hlook.2 t hod j x hx hw (Nat.le_of_lt hij))
      rw [this] at ht; cases ht
      rw [hv']; simp [lk]
    · rw [hs.1 hw] at ht
      rw [lk_put hw]; exact ht
  have hinv : ∀ a' w', SatA n (cur us (dn (L.setIfInBounds e.1 true) E) 0 l0) a' → SatW c W w' → InvP P c n os l0 E us W l (L.setIfInBounds e.1 true) a' w' := by
    intro a' w' h1 h2
    refine ⟨by simp [hI.size], clo_set hI.size hlt hI.clo hanci, fun j hj => ?_, hI.len, h1, h2, hI.txt, fun k' e' u' he' hu' => ?_⟩
    · rw [set_get hI.size hlt] at hj
      by_cases hji : j = e.1
      · exact ⟨k, e, he, hji.symm⟩
      · rw [if_neg hji] at hj; exact hI.sub j hj
    · obtain ⟨o2, h1, h2, h3, h4⟩ := hI.ents k' e' u' he' hu'
      refine ⟨o2, h1, h2, h3, ?_⟩
      rcases h4 with h4 | h4 | h4
      · left; rw [set_get hI.size hlt]; split
        · rfl
        · exact h4
      · exact .inr (.inl h4)
      · exact .inr (.inr h4)
  have hyield : ∀ j want, o.guard = some (j, want) → ∀ t, (os.toArray[j]?).bind (·.dst) = some t → ∀ v, lk (cur (us.take k) (fun _ => true) 0 l0) t = some v → a.tmps[t]? = some v := by
    intro j want hg t ht v hv
    have htn : t ∈ namesOf os.toArray o := by
      simp only [namesOf, List.mem_append, guTmp, hg]
      left; rw [ht]; simp
    exact hI.fr.at_ t v (by rw [hlook.1 t htn]; exact hv)
  unfold wpOp
  rw [show os.toArray[e.1]? = some o by simpa using ho]
  rcases hsay with hd | ⟨hg, hne, A, Wk, hWA, _, hV⟩ | ⟨hg, d, hud⟩
  · rw [hnl] at hd; cases hd
  · have hwant := wanted_of hg hyield
    simp only [hwant, if_true]
    left
    have hpinW : SatW c Wk w := drop_all (A := A) (hWA ▸ hI.wd)
    have hlr : ∀ t v, lk (restr os.toArray o (cur (us.take k) (fun _ => true) 0 l0)) t = some v → a.tmps[t]? = some v := fun t v ht => by
      obtain ⟨h1, h2⟩ := lk_restrL ht
      exact hI.fr.at_ t v (by rw [hlook.1 t h2]; exact h1)
    have hstep := hV w (allSl a n) hpinW a w ⟨hI.fr.dfr, hI.fr.sz, fun t v ht => by
      rw [lk_append] at ht
      cases hr : lk (restr os.toArray o (cur (us.take k) (fun _ => true) 0 l0)) t with
      | some v' => rw [hr] at ht; cases ht; exact hlr t v hr
      | none => rw [hr] at ht; exact allSl_lk a n t v ht⟩ ⟨Ext.refl _ _, hpinW.holds, fun b hb => .inr hb, hpinW.nd⟩
    rcases wpList_single hstep rfl with hstep | ⟨_, a0, w0, hq, _⟩
    case inr => cases hq
    refine oper_wp_change (noG_wp hstep) (fun a' w' hp => hcont a' w' (hinv a' w' ?_ ?_)) (fun e _ _ hp => hp.1)
    · obtain ⟨_, hsa, _⟩ := hp
      exact hfr a' (after_op hI.fr hlr hsa) hsa.dfr hsa.sz
    · obtain ⟨_, _, hsw⟩ := hp
      rw [hWA]
      exact frame_all (hWA ▸ hI.wd) hsw
  · have hnw := wanted_of hg hyield
    simp only [hnw, Bool.false_eq_true, if_false]
    have hod : o.dst = some d := by rw [hdst, hud]; rfl
    have hput := hI.fr.put (v := undef) (hinn d hod)
    rw [hod]
    exact hcont _ _ (hinv _ _ (hfr _ (fun t v ht => hput.at_ t v (by rw [hud] at ht; exact ht)) hput.dfr hput.sz) hI.wd)
theorem get_snoc {α : Type} {E : List α} {x e : α} {k : Nat} (h : (E ++ [x])[k]? = some e) : (k < E.length ∧ E[k]? = some e) ∨ (k = E.length ∧ e = x) := by
  rcases Nat.lt_or_ge k E.length with hk | hk
  · rw [List.getElem?_append_left hk] at h; exact .inl ⟨hk, h⟩
  · rw [List.getElem?_append_right hk] at h
    have : k - E.length = 0 := by
      rcases Nat.eq_zero_or_pos (k - E.length) with h0 | h0
      · exact h0
      · rw [List.getElem?_eq_none (by simp; omega)] at h; cases h
    rw [this] at h; simp at h
    exact .inr ⟨by omega, h.symm⟩
theorem new_not {E : En} {i : Nat} (h : newP i E = true) : ∀ (k : Nat) (e : Nat × Kd), E[k]? = some e → e.1 ≠ i := by
  intro k e he hei
  simp only [newP, Bool.not_eq_true', List.any_eq_false] at h
  exact h e (List.mem_of_getElem? he) (by rw [hei]; exact Nat.beq_refl i)
theorem any_order {l0 : Sl} {E : En} {W : List Res} {l : Sl} {rest : List Nat} (h : QF P c n os (Q .normal) E W l rest) : ∀ (fuel : Nat) (us : Pu) (L : Array Bool) (a : Act) (w : World),
    (os.length - (L.toList.filter id).length = fuel) → InvP P c n os l0 E us W l L a w → wpAny P .any os.toArray Q fuel L a w := by
  induction h with
  | fin hc hf hk =>
    rename_i E W l
    simp only [chkP, Bool.and_eq_true] at hc
    obtain ⟨hanc, hpairs⟩ := hc
    have hfin : ∀ (us : Pu) (L : Array Bool) (a : Act) (w : World), InvP P c n os l0 E us W l L a w → Region.ready .any os.toArray L = [] → Q .normal a w := by
      intro us L a w hI hr
      have hd := ready_nil hanc hI.size hr
      refine hk a w ?_ hI.wd
      have e := cur_congr us (dn L E) (fun _ => true) 0 l0 (fun j hj => by
        have hjl : j < E.length := by have := hI.len; omega
        obtain ⟨o, ho, _⟩ := hI.ents j E[j] (us[j]) (by simp [hjl]) (by simp [hj])
        have hlt : (E[j]).1 < os.length := by
          rcases Nat.lt_or_ge (E[j]).1 os.length with h | h
          · exact h
          · rw [List.getElem?_eq_none h] at ho; cases ho
        simp only [Nat.zero_add, dn, List.getElem?_eq_getElem hjl]
        exact hd _ hlt)
      have hA := hI.fr
      rw [e, ← hI.txt] at hA
      exact hA
    intro fuel
    induction fuel with
    | zero => intro us L a w hf hI; exact ⟨ready_full hI.size hf, hfin us L a w hI (ready_full hI.size hf)⟩
    | succ fuel ih =>
      intro us L a w hfu hI
      refine ⟨hfin us L a w hI, fun i hi => ?_⟩
      obtain ⟨o, ho, hnl, hlt, hdeps⟩ := ready_spec hI.size hi
      simp only [fullP, List.all_eq_true, List.mem_range] at hf
      obtain ⟨e, hem, hei⟩ := List.any_eq_true.1 (hf i hlt)
      obtain ⟨k, hk'⟩ := List.getElem?_of_mem hem
      have hei := Nat.eq_of_beq_eq_true hei
      subst hei
      exact perform hI hanc hpairs hk' ho hnl hdeps (fun a' w' hI' => ih us _ a' w' (set_count hI.size hlt hnl hfu) hI')
  | val kd hk hi ho hd hn hg h hr ih =>
    rename_i E W l i d o v rest
    intro fuel us L a w hfu hI
    have hnew := new_not hi
    have hnd : L.getD i false = false := by
      cases hx : L.getD i false
      · rfl
      · obtain ⟨k, e, he, hei⟩ := hI.sub i hx; exact absurd hei (hnew k e he)
    refine ih fuel (us ++ [some (d, v)]) L a w hfu ⟨hI.size, hI.clo, fun j hj => ?_, by simp [hI.len], ?_, hI.wd, ?_, fun k e u he hu => ?_⟩
    · obtain ⟨k, e, he, hej⟩ := hI.sub j hj
      exact ⟨k, e, by rw [List.getElem?_append_left]; exact he; exact (List.getElem?_eq_some_iff.1 he).1, hej⟩
    · rw [cur_append]
      have e1 : cur us (dn L (E ++ [(i, kd)])) 0 l0 = cur us (dn L E) 0 l0 := cur_congr _ _ _ _ _ (fun j hj => by
        simp only [Nat.zero_add, dn]; rw [List.getElem?_append_left (by have := hI.len; omega)])
      have e2 : dn L (E ++ [(i, kd)]) (0 + us.length) = false := by
        simp only [Nat.zero_add, dn, hI.len, List.getElem?_concat_length]; exact hnd
      simp only [cur, e2, Bool.false_eq_true, if_false, e1]; exact hI.fr
    · rw [cur_append, ← hI.txt]; simp [cur]
    · rcases get_snoc he with ⟨hkl, he'⟩ | ⟨rfl, rfl⟩
      · have hu' : us[k]? = some u := by rwa [List.getElem?_append_left (by have := hI.len; omega)] at hu
        have := hI.ents k e u he' hu'
        rw [List.take_append_of_le_length (by have := hI.len; omega)]
        exact this
      · have hu' : u = some (d, v) := by rw [← hI.len, List.getElem?_concat_length] at hu; exact (Option.some.inj hu).symm
        subst hu'
        refine ⟨o, ho, by simpa using hd, fun d' hd' => by rw [hd] at hd'; cases hd'; exact hn, .inr (.inl ?_)⟩
        rw [List.take_append_of_le_length (by have := hI.len; omega), ← hI.len, List.take_length, ← hI.txt]
        refine ⟨hg, hk, ?_⟩
        cases kd with
        | free => exact ⟨W, [], by simp, fun _ => rfl, h⟩
        | pin => exact ⟨[], W, rfl, fun hx => (by cases hx), h⟩
        | eff => simp [Kd.isEff] at hk
        | alc => simp [Kd.isEff] at hk
  | no hi ho hd hn hg hr ih =>
    rename_i E W l i d o rest
    intro fuel us L a w hfu hI
    have hnew := new_not hi
    have hnd : L.getD i false = false := by
      cases hx : L.getD i false
      · rfl
      · obtain ⟨k, e, he, hei⟩ := hI.sub i hx; exact absurd hei (hnew k e he)
    refine ih fuel (us ++ [some (d, undef)]) L a w hfu ⟨hI.size, hI.clo, fun j hj => ?_, by simp [hI.len], ?_, hI.wd, ?_, fun k e u he hu => ?_⟩
    · obtain ⟨k, e, he, hej⟩ := hI.sub j hj
      exact ⟨k, e, by rw [List.getElem?_append_left]; exact he; exact (List.getElem?_eq_some_iff.1 he).1, hej⟩
    · rw [cur_append]
      have e1 : cur us (dn L (E ++ [(i, .free)])) 0 l0 = cur us (dn L E) 0 l0 := cur_congr _ _ _ _ _ (fun j hj => by
        simp only [Nat.zero_add, dn]; rw [List.getElem?_append_left (by have := hI.len; omega)])
      have e2 : dn L (E ++ [(i, .free)]) (0 + us.length) = false := by
        simp only [Nat.zero_add, dn, hI.len, List.getElem?_concat_length]; exact hnd
      simp only [cur, e2, Bool.false_eq_true, if_false, e1]; exact hI.fr
    · rw [cur_append, ← hI.txt]; simp [cur]
    · rcases get_snoc he with ⟨hkl, he'⟩ | ⟨rfl, rfl⟩
      · have hu' : us[k]? = some u := by rwa [List.getElem?_append_left (by have := hI.len; omega)] at hu
        have := hI.ents k e u he' hu'
        rw [List.take_append_of_le_length (by have := hI.len; omega)]
        exact this
      · have hu' : u = some (d, undef) := by rw [← hI.len, List.getElem?_concat_length] at hu; exact (Option.some.inj hu).symm
        subst hu'
        refine ⟨o, ho, by simpa using hd, fun d' hd' => by rw [hd] at hd'; cases hd'; exact hn, .inr (.inr ?_)⟩
        rw [List.take_append_of_le_length (by have := hI.len; omega), ← hI.len, List.take_length, ← hI.txt]
        exact ⟨hg, d, rfl⟩
  | nd hne hi ho hc hdesc hΦ hg h hr ih =>
    rename_i E W l is rest of Φf kf nx
    obtain ⟨i0, hi0⟩ : ∃ i, i ∈ is := List.exists_mem_of_ne_nil _ hne
    have hanc : ancOK os 0 (mkAnc os []) = true := by
      have := hc i0 hi0
      simp only [chkP, Bool.and_eq_true] at this
      exact this.1
    have hpairs : allPairs (ordOK os (mkAnc os [])) E = true := by
      have h0 := hc i0 hi0
      simp only [chkP, Bool.and_eq_true] at h0
      have : ∀ {X Y : En}, allPairs (ordOK os (mkAnc os [])) (X ++ Y) = true → allPairs (ordOK os (mkAnc os [])) X = true := by
        intro X
        induction X with
        | nil => intro Y _; rfl
        | cons x r ihx =>
          intro Y hxy
          simp only [List.cons_append, allPairs, Bool.and_eq_true, List.all_append] at hxy ⊢
          exact ⟨hxy.1.1, ihx hxy.2⟩
      exact this h0.2
    have hnew := fun i hi' => new_not (hi i hi')
    intro fuel
    induction fuel with
    | zero =>
      intro us L a w hfu hI
      have hr0 := ready_full hI.size hfu
      have hd := ready_nil hanc hI.size hr0
      have hlt : i0 < os.length := (List.getElem?_eq_some_iff.1 (ho i0 hi0)).1
      obtain ⟨k, e, he, hei⟩ := hI.sub i0 (hd i0 hlt)
      exact absurd hei (hnew i0 hi0 k e he)
    | succ fuel ihf =>
      intro us L a w hfu hI
      have hnds : ∀ i ∈ is, L.getD i false = false := by
        intro i hi'
        cases hx : L.getD i false
        · rfl
        · obtain ⟨k, e, he, hei⟩ := hI.sub i hx; exact absurd hei (hnew i hi' k e he)
      refine ⟨fun hr0 => ?_, fun j hj => ?_⟩
      · have hd := ready_nil hanc hI.size hr0
        have h1 := hnds i0 hi0
        rw [hd i0 (List.getElem?_eq_some_iff.1 (ho i0 hi0)).1] at h1; cases h1
      obtain ⟨p, hp, hnl, hlt, hdeps⟩ := ready_spec hI.size hj
      have hanci := anc_done hanc hp hI.clo hdeps
      simp only [descP, Bool.and_eq_true, List.all_eq_true, List.mem_range, Bool.or_eq_true] at hdesc
      have hcase : j ∈ is ∨ ∃ (k : Nat) (e : Nat × Kd), E[k]? = some e ∧ e.1 = j := by
        rcases hdesc.2 j hlt with (h1 | h1) | h1
        · obtain ⟨x, hx, hxj⟩ := List.any_eq_true.1 h1
          have hxj := Nat.eq_of_beq_eq_true hxj
          subst hxj
          exact .inl hx
        · obtain ⟨x, hx, hxj⟩ := List.any_eq_true.1 h1
          have hxj := Nat.eq_of_beq_eq_true hxj
          subst hxj
          obtain ⟨i, hi', hb⟩ := List.any_eq_true.1 (hdesc.1 j hx)
          have hb := hanci i hb
          rw [hnds i hi'] at hb; cases hb
        · obtain ⟨e, hem, hej⟩ := List.any_eq_true.1 h1
          obtain ⟨k, hk'⟩ := List.getElem?_of_mem hem
          exact .inr ⟨k, e, hk', Nat.eq_of_beq_eq_true hej⟩
      rcases hcase with hji | ⟨k, e, hk', rfl⟩
      case inr => exact perform hI hanc hpairs hk' hp hnl hdeps (fun a' w' hI' => ihf us _ a' w' (set_count hI.size hlt hnl hfu) hI')
      -- the one that makes something new
      have hpairsX := hc j hji
      simp only [chkP, Bool.and_eq_true] at hpairsX
      have hpairsX := hpairsX.2
      have hnew := hnew j hji
      have ho := ho j hji
      have hΦ := hΦ j hji
      have hg := hg j hji
      have h := h j hji
      have ih := ih j hji
      rw [ho] at hp; cases hp
      generalize kf j = κ at *
      generalize Φf j = Φj at *
      generalize of j = o at *
      have hget : ∀ {k e}, E[k]? = some e → (E ++ [(j, κ)])[k]? = some e := fun {k e} he => by
        rw [List.getElem?_append_left]; exact he; exact (List.getElem?_eq_some_iff.1 he).1
      have hlast : (E ++ [(j, κ)])[E.length]? = some (j, κ) := by simp
      have hlook := look_at hI ho hnl hanci (Nat.le_refl _)
        (fun j' e' he' hjk y hy hc => ord_clash (allPairs_spec hpairsX hjk (hget he') hlast) hy ho hc)
        (fun j' e' he' hkj => by rw [List.getElem?_eq_none hkj] at he'; cases he')
      have htk : us.take E.length = us := by rw [← hI.len, List.take_length]
      rw [htk, ← hI.txt] at hlook
      have hyield : ∀ j' want, o.guard = some (j', want) → ∀ t, (os.toArray[j']?).bind (·.dst) = some t → ∀ v, lk l t = some v → a.tmps[t]? = some v := by
        intro j' want hg t ht v hv
        have htn : t ∈ namesOf os.toArray o := by
          simp only [namesOf, List.mem_append, guTmp, hg]
          left; rw [ht]; simp
        exact hI.fr.at_ t v (by rw [hlook.1 t htn]; exact hv)
      have hlr : ∀ t v, lk (restr os.toArray o l) t = some v → a.tmps[t]? = some v := fun t v ht => by
        obtain ⟨h1, h2⟩ := lk_restrL ht
        exact hI.fr.at_ t v (by rw [hlook.1 t h2]; exact h1)
      unfold wpOp
      rw [show os.toArray[j]? = some o by simpa using ho]
      have hwant := wanted_of hg hyield
      simp only [hwant, if_true]
      left
      have hstep := h w (allSl a n) hI.wd a w ⟨hI.fr.dfr, hI.fr.sz, fun t v ht => by
        rw [lk_append] at ht
        cases hr' : lk (restr os.toArray o l) t with
        | some v' => rw [hr'] at ht; cases ht; exact hlr t v hr'
        | none => rw [hr'] at ht; exact allSl_lk a n t v ht⟩ ⟨Ext.refl _ _, hI.wd.holds, fun b hb => .inr hb, hI.wd.nd⟩
      rcases wpList_single hstep rfl with hstep | ⟨_, a0, w0, hq, _⟩
      case inr => cases hq
      refine oper_wp_change (noG_wp hstep) (fun a' w' hp => ?_) (fun e _ _ hp => hp.1)
      obtain ⟨_, u, W', hu, hsa, hsw⟩ := hp
      have hL' := set_get hI.size hlt
      obtain ⟨hdst, hinn, hkind⟩ := hΦ u W' hu
      refine ih u W' hu fuel (us ++ [u]) _ a' w' (set_count hI.size hlt hnl hfu) ⟨by simp [hI.size], clo_set hI.size hlt hI.clo hanci, fun q hq => ?_, by simp [hI.len], ?_, satW_shift hI.wd hsw, ?_, fun k e u' he hu' => ?_⟩
      · rw [hL'] at hq
        by_cases hqj : q = j
        · exact ⟨E.length, (j, κ), hlast, hqj.symm⟩
        · rw [if_neg hqj] at hq
          obtain ⟨k, e, he, hej⟩ := hI.sub q hq
          exact ⟨k, e, hget he, hej⟩
      · rw [cur_append]
        have e1 : cur us (dn (L.setIfInBounds j true) (E ++ [(j, κ)])) 0 l0 = cur us (dn L E) 0 l0 := cur_congr _ _ _ _ _ (fun q hq => by
          have hql : q < E.length := by have := hI.len; omega
          simp only [Nat.zero_add, dn]; rw [List.getElem?_append_left hql, List.getElem?_eq_getElem hql]
          simp only [hL', if_neg (hnew q E[q] (by simp [hql]))])
        have e2 : dn (L.setIfInBounds j true) (E ++ [(j, κ)]) (0 + us.length) = true := by
          simp only [Nat.zero_add, dn, hI.len, List.getElem?_concat_length, hL', if_true]
        simp only [cur, e2, if_true, e1]
        exact ⟨hsa.dfr, hsa.sz, after_op hI.fr hlr hsa⟩
      · rw [cur_append, ← hI.txt]; simp [cur]
      · rcases get_snoc he with ⟨hkl, he'⟩ | ⟨rfl, rfl⟩
        · have hu2 : us[k]? = some u' := by rwa [List.getElem?_append_left (by have := hI.len; omega)] at hu'
          obtain ⟨o2, h1, h2, h3, h4⟩ := hI.ents k e u' he' hu2
          rw [List.take_append_of_le_length (by have := hI.len; omega)]
          refine ⟨o2, h1, h2, h3, ?_⟩
          have hdone : L.getD e.1 false = true → (L.setIfInBounds j true).getD e.1 false = true := fun hx => by rw [hL']; split; rfl; exact hx
          rcases h4 with h4 | ⟨g1, g2, A, Wk, g3, g4, g5⟩ | h4
          · exact .inl (hdone h4)
          · rcases hkind with rfl | ⟨rfl, B, hB⟩
            · cases hkd : e.2 with
              | free =>
                have := g4 hkd
                subst this
                exact .inr (.inl ⟨g1, rfl, W', [], by simp, fun _ => rfl, g5⟩)
              | pin =>
                refine .inl (hdone (hanci _ ?_))
                exact ord_mem (allPairs_spec hpairsX hkl (hget he') hlast) (by rw [hkd]; rfl)
              | eff => rw [hkd] at g2; simp [Kd.isEff] at g2
              | alc => rw [hkd] at g2; simp [Kd.isEff] at g2
            · exact .inr (.inl ⟨g1, g2, B ++ A, Wk, by rw [hB, g3, List.append_assoc], g4, g5⟩)
          · exact .inr (.inr h4)
        · have hu2 : u' = u := by rw [← hI.len, List.getElem?_concat_length] at hu'; exact (Option.some.inj hu').symm
          subst hu2
          refine ⟨o, ho, hdst, hinn, .inl ?_⟩
          rw [hL', if_pos rfl]
theorem st_perm {rid : Nat} {W : List Res} {l : Sl} (π : List Nat) (hm : P.follows .mixedOrders = true) (h : QF P c n os (Q .normal) [] W l π) : Go c n l W ((Code.region rid os.toArray true).wp P Q) := by
  refine st_anyB hm fun a w ha hw => any_order (l0 := l) h _ [] _ a w ?_ ⟨by simp, ?_, ?_, rfl, ha, hw, rfl, ?_⟩
  · simp
  · intro i j hi; simp [Array.getD_eq_getD_getElem?, Array.getElem?_replicate] at hi; split at hi <;> simp at hi
  · intro i hi; simp [Array.getD_eq_getD_getElem?, Array.getElem?_replicate] at hi; split at hi <;> simp at hi
  · intro k e u he; simp at he
variable {K : Act → World → Prop} {E : En} {W : List Res} {l : Sl} {i d : Nat} {o : Oper} {rest : List Nat}
theorem Zpf {v : Value} (ho : os[i]? = some o) (h : OpV P c n [] [] (restr os.toArray o l) (noG o) (some (d, v))) (hr : QF P c n os K (E ++ [(i, .free)]) W ((d, v) :: l) rest)
    (hi : newP i E = true := by rfl) (hd : o.dst = some d := by rfl) (hn : Nat.blt d n = true := by rfl) (hg : gSays os.toArray l o = some true := by rfl) : QF P c n os K E W l (i :: rest) :=
  QF.val .free rfl hi ho hd hn hg h hr
theorem Zpp {v : Value} (ho : os[i]? = some o) (h : OpV P c n W W (restr os.toArray o l) (noG o) (some (d, v))) (hr : QF P c n os K (E ++ [(i, .pin)]) W ((d, v) :: l) rest)
    (hi : newP i E = true := by rfl) (hd : o.dst = some d := by rfl) (hn : Nat.blt d n = true := by rfl) (hg : gSays os.toArray l o = some true := by rfl) : QF P c n os K E W l (i :: rest) :=
  QF.val .pin rfl hi ho hd hn hg h hr
theorem Zpo (ho : os[i]? = some o) (hr : QF P c n os K (E ++ [(i, .free)]) W ((d, undef) :: l) rest)
    (hi : newP i E = true := by rfl) (hd : o.dst = some d := by rfl) (hn : Nat.blt d n = true := by rfl) (hg : gSays os.toArray l o = some false := by rfl) : QF P c n os K E W l (i :: rest) :=
  QF.no hi ho hd hn hg hr
theorem nd1 {Φ : Option (Nat × Value) → List Res → Prop} (kd : Kd) (ho : os[i]? = some o) (hi : newP i E = true) (hc : chkP os (E ++ [(i, kd)]) = true) (hdesc : descP os [i] rest E = true)
    (hΦ : ∀ u W', Φ u W' → o.dst = u.map (·.1) ∧ (∀ d, o.dst = some d → Nat.blt d n = true) ∧ (kd = .eff ∨ (kd = .alc ∧ ∃ B, W' = B ++ W)))
    (hg : gSays os.toArray l o = some true) (h : OpN P c n W Φ (restr os.toArray o l) (noG o))
    (hr : ∀ u W', Φ u W' → QF P c n os K (E ++ [(i, kd)]) W' (u.toList ++ l) rest) : QF P c n os K E W l (i :: rest) := by
  refine QF.nd (is := [i]) (nx := fun _ => rest) (o := fun _ => o) (Φ := fun _ => Φ) (kd := fun _ => kd) (by simp) ?_ ?_ ?_ hdesc ?_ ?_ ?_ ?_ <;> intro j hj <;> (have hj := List.mem_singleton.1 hj; subst hj)
  · exact hi
  · exact ho
  · exact hc
  · exact hΦ
  · exact hg
  · exact h
  · exact hr
/-- New memory, whose place is open. -/
def OpF (P : Program) (c : Cx) (n : Nat) (W : List Res) (F : Value → List Res) (d : Nat) (lr : Sl) (o : Oper) : Prop :=
  ∀ w0 m, SatW c W w0 → Go ⟨w0, fps W⟩ n (lr ++ m) W (wpList P #[] (fun e a w => e = .normal ∧ ∃ v, SatA n ((d, v) :: (lr ++ m)) a ∧ SatW ⟨w0, fps W⟩ (F v) w) [o])
theorem Zpn {F : Value → List Res} (ho : os[i]? = some o) (h : OpF P c n W F d (restr os.toArray o l) (noG o)) (hr : ∀ v, QF P c n os K (E ++ [(i, .eff)]) (F v) ((d, v) :: l) rest)
    (hi : newP i E = true := by rfl) (hd : o.dst = some d := by rfl) (hn : Nat.blt d n = true := by rfl) (hg : gSays os.toArray l o = some true := by rfl)
    (hc : chkP os (E ++ [(i, .eff)]) = true := by rfl) (hdesc : descP os [i] rest E = true := by rfl) : QF P c n os K E W l (i :: rest) :=
  nd1 .eff (Φ := fun u W' => ∃ v, u = some (d, v) ∧ W' = F v) ho hi hc hdesc (fun u W' ⟨v, hu, _⟩ => by subst hu; exact ⟨hd, fun d' hd' => by rw [hd] at hd'; cases hd'; exact hn, .inl rfl⟩) hg
    (fun w0 m hw a w ha hw' => single_mono (h w0 m hw a w ha hw') rfl (fun _ _ _ h => h.1) fun a w ⟨h1, v, h2, h3⟩ => ⟨h1, some (d, v), F v, ⟨v, rfl, rfl⟩, h2, h3⟩)
    (fun u W' ⟨v, hu, hW⟩ => by subst hu; subst hW; exact hr v)
theorem Zpx {F : Value → List Res} {L : Sl} {v : Value} {W' : List Res} (hF : F v = W' := by rfl) :
    Go c n ((d, v) :: L) W' (wpList P #[] (fun e a w => e = .normal ∧ ∃ v, SatA n ((d, v) :: L) a ∧ SatW c (F v) w) []) :=
  fun _ _ ha hw => wpList_nil ⟨rfl, v, ha, by rw [hF]; exact hw⟩
/-- A variable is made. -/
def OpB (P : Program) (c : Cx) (n : Nat) (W : List Res) (F : Nat → List Res) (d : Nat) (lr : Sl) (o : Oper) : Prop :=
  ∀ w0 m, SatW c W w0 → Go ⟨w0, fps W⟩ n (lr ++ m) W (wpList P #[] (fun e a w => e = .normal ∧ ∃ b, SatA n ((d, pt b 0) :: (lr ++ m)) a ∧ SatW ⟨w0, fps W⟩ (F b ++ W) w) [o])
theorem Zpb {F : Nat → List Res} (ho : os[i]? = some o) (h : OpB P c n W F d (restr os.toArray o l) (noG o)) (hr : ∀ b, QF P c n os K (E ++ [(i, .alc)]) (F b ++ W) ((d, pt b 0) :: l) rest)
    (hi : newP i E = true := by rfl) (hd : o.dst = some d := by rfl) (hn : Nat.blt d n = true := by rfl) (hg : gSays os.toArray l o = some true := by rfl)
    (hc : chkP os (E ++ [(i, .alc)]) = true := by rfl) (hdesc : descP os [i] rest E = true := by rfl) : QF P c n os K E W l (i :: rest) :=
  nd1 .alc (Φ := fun u W' => ∃ b, u = some (d, pt b 0) ∧ W' = F b ++ W) ho hi hc hdesc (fun u W' ⟨v, hu, hW⟩ => by subst hu; exact ⟨hd, fun d' hd' => by rw [hd] at hd'; cases hd'; exact hn, .inr ⟨rfl, F v, hW⟩⟩) hg
    (fun w0 m hw a w ha hw' => single_mono (h w0 m hw a w ha hw') rfl (fun _ _ _ h => h.1) fun a w ⟨h1, b, h2, h3⟩ => ⟨h1, some (d, pt b 0), F b ++ W, ⟨b, rfl, rfl⟩, h2, h3⟩)
    (fun u W' ⟨v, hu, hW⟩ => by subst hu; subst hW; exact hr v)
theorem Zpbx {b : Nat} {v : Value} {T : TypeId} {L : Sl} :
    Go c n ((d, pt b 0) :: L) (.blk b v T :: W) (wpList P #[] (fun e a w => e = .normal ∧ ∃ b, SatA n ((d, pt b 0) :: L) a ∧ SatW c ((fun b => [.blk b v T]) b ++ W) w) []) :=
  fun _ _ ha hw => wpList_nil ⟨rfl, b, ha, hw⟩
theorem two {p : Nat → Prop} {i j : Nat} (h1 : p i) (h2 : p j) : ∀ k ∈ [i, j], p k := by
  intro k hk
  rcases List.mem_cons.1 hk with rfl | hk
  · exact h1
  · have := List.mem_singleton.1 hk
    subst this; exact h2
/-- Two variables are made, in either order. -/
theorem Zpbb {v v' : Value} {T T' : TypeId} {j d' : Nat} {o' : Oper} (ho : os[i]? = some o) (ho' : os[j]? = some o') (h : OpB P c n W (fun b => [.blk b v T]) d (restr os.toArray o l) (noG o)) (h' : OpB P c n W (fun b => [.blk b v' T']) d' (restr os.toArray o' l) (noG o'))
    (hr : ∀ b, QF P c n os K (E ++ [(i, .alc)]) (.blk b v T :: W) ((d, pt b 0) :: l) (j :: rest)) (hr' : ∀ b, QF P c n os K (E ++ [(j, .alc)]) (.blk b v' T' :: W) ((d', pt b 0) :: l) (i :: rest))
    (hij : Nat.beq i j = false := by rfl) (hi : newP i E = true := by rfl) (hi' : newP j E = true := by rfl) (hd : o.dst = some d := by rfl) (hd' : o'.dst = some d' := by rfl) (hn : Nat.blt d n = true := by rfl) (hn' : Nat.blt d' n = true := by rfl)
    (hg : gSays os.toArray l o = some true := by rfl) (hg' : gSays os.toArray l o' = some true := by rfl)
    (hc : chkP os (E ++ [(i, .alc)]) = true := by rfl) (hc' : chkP os (E ++ [(j, .alc)]) = true := by rfl) (hdesc : descP os [i, j] rest E = true := by rfl) : QF P c n os K E W l (i :: j :: rest) := by
  have hne : ¬ j = i := fun h => by subst h; rw [Nat.beq_refl] at hij; cases hij
  refine QF.nd (is := [i, j]) (nx := fun k => [i, j].erase k ++ rest) (o := fun k => if k = i then o else o') (Φ := fun k u W' => if k = i then ∃ b, u = some (d, pt b 0) ∧ W' = .blk b v T :: W else ∃ b, u = some (d', pt b 0) ∧ W' = .blk b v' T' :: W)
    (kd := fun _ => .alc) (by simp) (two hi hi') (two ?_ ?_) (two hc hc') hdesc (two ?_ ?_) (two ?_ ?_) (two ?_ ?_) (two ?_ ?_)
  · simp only [if_true]; exact ho
  · simp only [if_neg hne]; exact ho'
  · simp only [if_true]
    intro u W' ⟨b, hu, hW⟩; subst hu; exact ⟨hd, fun q hq => by rw [hd] at hq; cases hq; exact hn, .inr ⟨by trivial, [_], hW⟩⟩
  · simp only [if_neg hne]
    intro u W' ⟨b, hu, hW⟩; subst hu; exact ⟨hd', fun q hq => by rw [hd'] at hq; cases hq; exact hn', .inr ⟨by trivial, [_], hW⟩⟩
  · simp only [if_true]; exact hg
  · simp only [if_neg hne]; exact hg'
  · simp only [if_true]
    exact fun w0 m hw a w ha hw' => single_mono (h w0 m hw a w ha hw') rfl (fun _ _ _ h => h.1) fun a w ⟨h1, b, h2, h3⟩ => ⟨h1, some (d, pt b 0), _, ⟨b, rfl, rfl⟩, h2, h3⟩
  · simp only [if_neg hne]
    exact fun w0 m hw a w ha hw' => single_mono (h' w0 m hw a w ha hw') rfl (fun _ _ _ h => h.1) fun a w ⟨h1, b, h2, h3⟩ => ⟨h1, some (d', pt b 0), _, ⟨b, rfl, rfl⟩, h2, h3⟩
  · simp only [if_true]
    intro u W' ⟨b, hu, hW⟩; subst hu; subst hW
    have := hr b
    rwa [List.erase_cons_head]
  · simp only [if_neg hne]
    intro u W' ⟨b, hu, hW⟩; subst hu; subst hW
    have := hr' b
    rw [List.erase_cons_tail (by simpa using fun h => hne h.symm), List.erase_cons_head]
    exact this
/-- A write. -/
theorem Zps {W' : List Res} (ho : os[i]? = some o) (h : OpV P c n W W' (restr os.toArray o l) (noG o) none) (hr : QF P c n os K (E ++ [(i, .eff)]) W' l rest)
    (hi : newP i E = true := by rfl) (hd : o.dst = none := by rfl) (hg : gSays os.toArray l o = some true := by rfl)
    (hc : chkP os (E ++ [(i, .eff)]) = true := by rfl) (hdesc : descP os [i] rest E = true := by rfl) : QF P c n os K E W l (i :: rest) :=
  nd1 .eff (Φ := fun u V => u = none ∧ V = W') ho hi hc hdesc (fun u V ⟨hu, _⟩ => by subst hu; exact ⟨hd, (fun d' hd' => by rw [hd] at hd'; cases hd'), .inl rfl⟩) hg
    (fun w0 m hw a w ha hw' => single_mono (h w0 m hw a w ha hw') rfl (fun _ _ _ h => h.1) fun a w ⟨h1, h2, h3⟩ => ⟨h1, none, W', ⟨rfl, rfl⟩, h2, h3⟩)
    (fun u V ⟨hu, hV⟩ => by subst hu; subst hV; exact hr)
/-- A read that is made where it stands. -/
theorem Zple {v : Value} (ho : os[i]? = some o) (h : OpV P c n W W (restr os.toArray o l) (noG o) (some (d, v))) (hr : QF P c n os K (E ++ [(i, .alc)]) W ((d, v) :: l) rest)
    (hi : newP i E = true := by rfl) (hd : o.dst = some d := by rfl) (hn : Nat.blt d n = true := by rfl) (hg : gSays os.toArray l o = some true := by rfl)
    (hc : chkP os (E ++ [(i, .alc)]) = true := by rfl) (hdesc : descP os [i] rest E = true := by rfl) : QF P c n os K E W l (i :: rest) :=
  nd1 .alc (Φ := fun u V => u = some (d, v) ∧ V = W) ho hi hc hdesc (fun u V ⟨hu, hV⟩ => by subst hu; exact ⟨hd, (fun d' hd' => by rw [hd] at hd'; cases hd'; exact hn), .inr ⟨rfl, [], hV⟩⟩) hg
    (fun w0 m hw a w ha hw' => single_mono (h w0 m hw a w ha hw') rfl (fun _ _ _ h => h.1) fun a w ⟨h1, h2, h3⟩ => ⟨h1, some (d, v), W, ⟨rfl, rfl⟩, h2, h3⟩)
    (fun u V ⟨hu, hV⟩ => by subst hu; subst hV; exact hr)
/-- A read and a write elsewhere, in either order. -/
theorem Zpls {v : Value} {W2 : List Res} (n1 n2 : List Nat) {j : Nat} {o' : Oper} (ho : os[i]? = some o) (ho' : os[j]? = some o') (h : OpV P c n W W (restr os.toArray o l) (noG o) (some (d, v))) (h' : OpV P c n W W2 (restr os.toArray o' l) (noG o') none)
    (hr : QF P c n os K (E ++ [(i, .alc)]) W ((d, v) :: l) n1) (hr' : QF P c n os K (E ++ [(j, .eff)]) W2 l n2)
    (hij : Nat.beq i j = false := by rfl) (hi : newP i E = true := by rfl) (hi' : newP j E = true := by rfl) (hd : o.dst = some d := by rfl) (hn : Nat.blt d n = true := by rfl) (hd' : o'.dst = none := by rfl)
    (hg : gSays os.toArray l o = some true := by rfl) (hg' : gSays os.toArray l o' = some true := by rfl)
    (hc : chkP os (E ++ [(i, .alc)]) = true := by rfl) (hc' : chkP os (E ++ [(j, .eff)]) = true := by rfl) (hdesc : descP os [i, j] rest E = true := by rfl) : QF P c n os K E W l (i :: j :: rest) := by
  have hne : ¬ j = i := fun h => by subst h; rw [Nat.beq_refl] at hij; cases hij
  refine QF.nd (is := [i, j]) (nx := fun k => if k = i then n1 else n2) (o := fun k => if k = i then o else o') (Φ := fun k u V => if k = i then u = some (d, v) ∧ V = W else u = none ∧ V = W2)
    (kd := fun k => if k = i then .alc else .eff) (by simp) (two hi hi') (two ?_ ?_) (two ?_ ?_) hdesc (two ?_ ?_) (two ?_ ?_) (two ?_ ?_) (two ?_ ?_)
  · simp only [if_true]; exact ho
  · simp only [if_neg hne]; exact ho'
  · simp only [if_true]; exact hc
  · simp only [if_neg hne]; exact hc'
  · simp only [if_true]
    intro u V ⟨hu, hV⟩; subst hu; exact ⟨hd, (fun q hq => by rw [hd] at hq; cases hq; exact hn), .inr ⟨trivial, [], hV⟩⟩
  · simp only [if_neg hne]
    intro u V ⟨hu, _⟩; subst hu; exact ⟨hd', (fun q hq => by rw [hd'] at hq; cases hq), .inl trivial⟩
  · simp only [if_true]; exact hg
  · simp only [if_neg hne]; exact hg'
  · simp only [if_true]
    exact fun w0 m hw a w ha hw' => single_mono (h w0 m hw a w ha hw') rfl (fun _ _ _ h => h.1) fun a w ⟨h1, h2, h3⟩ => ⟨h1, some (d, v), W, ⟨rfl, rfl⟩, h2, h3⟩
  · simp only [if_neg hne]
    exact fun w0 m hw a w ha hw' => single_mono (h' w0 m hw a w ha hw') rfl (fun _ _ _ h => h.1) fun a w ⟨h1, h2, h3⟩ => ⟨h1, none, W2, ⟨rfl, rfl⟩, h2, h3⟩
  · simp only [if_true]
    intro u V ⟨hu, hV⟩; subst hu; subst hV
    exact hr
  · simp only [if_neg hne]
    intro u V ⟨hu, hV⟩; subst hu; subst hV
    exact hr'
theorem Zp0 (hk : Go c n l W K) (hc : chkP os E = true := by rfl) (hf : fullP os E = true := by rfl) : QF P c n os K E W l [] := QF.fin hc hf hk
end
end Go.Proofs.Ytbpmbdlgmmabcaa.L.R
namespace Go.Proofs.Ytbpmbdlgmmabcaa.L
open Go
theorem fill_seqP : ∀ (parts : List (Nat × Value)) (i : Nat) (done z : List Value), (∀ j p, parts[j]? = some p → p.1 = i + j ∧ p.2.oneCell' = true) → done.length = i → parts.length ≤ z.length →
    Instr.fill (fun i => some (i * 1, 1)) (done ++ z).toArray parts = some (done ++ parts.map (·.2) ++ z.drop parts.length).toArray
  | [], i, done, z, _, _, _ => by simp [Instr.fill]
  | (q, v) :: r, i, done, z, hp, hd, hl => by
    obtain ⟨h1, h2⟩ := hp 0 (q, v) rfl
    simp only [Nat.add_zero] at h1 h2
    subst h1
    cases z with
    | nil => simp at hl
    | cons z0 zr =>
      have hc := cells1 h2
      have ih := fill_seqP r (q + 1) (done ++ [v]) zr (fun j p hj => by
        have := hp (j + 1) p (by simpa using hj)
        exact ⟨by omega, this.2⟩) (by simp [hd]) (by simpa using hl)
      have hset : (done ++ z0 :: zr).set q v = done ++ [v] ++ zr := by
        subst hd
        rw [List.set_append_right _ _ (by omega)]; simp
      simp only [Instr.fill, Nat.mul_one, hc]
      rw [if_neg (by simp; omega)]
      have hzi : (#[v].zipIdx) = #[(v, 0)] := by simp
      simp only [hzi]
      simp only [List.size_toArray, List.length_cons, List.length_nil, List.foldl_toArray', List.foldl_cons, List.foldl_nil, Nat.add_zero, List.setIfInBounds_toArray, hset]
      simp only [Nat.mul_one] at ih
      simpa using ih
section
variable {P : Program} {c : Cx} {n : Nat} {l : Sl} {W : List Res} {ops : Array Oper} {Q : Exit → Act → World → Prop} {rest : List Oper}
variable {d : Nat} {T : TypeId} {pos : String} {after : Array Edge}
/-- An array of numbers whose last ones are not given: they are 0. -/
theorem st_buildP {t E : TypeId} {m : Nat} {ps : List (Nat × Operand)} {kk : IntKind} {vs : List Nat} (ht : P.underlying t = some (.array m E)) (hz : zrOf P t = some (LV kk (List.replicate m 0))) (hs : szOf P E = some 1)
    (hq : Seq 0 ps = true) (hl : ps.length = vs.length) (hm : Nat.ble vs.length m = true) (hv : evs l (ps.map (·.2)) = some (vs.map (N kk))) (hn : Nat.blt d n = true)
    (hk : Go c n ((d, LV kk (vs ++ List.replicate (m - vs.length) 0)) :: l) W (wpList P ops Q rest)) :
    Go c n l W (wpList P ops Q (⟨some d, .build t ps.toArray, T, pos, after, none⟩ :: rest)) :=
  st_val rfl rfl hn (fun a w ha hw => by
      have hm' := Nat.le_of_ble_eq_true hm
      obtain ⟨g1, g2⟩ := parts_ok ha hq hv (by simp [Value.oneCell'])
      have hfill := fill_seqP (ps.map fun (i, x) => (i, a.eval x)) 0 [] ((List.replicate m 0).map (N kk)) (fun j p hj => by have := g2 j p hj; exact ⟨by omega, this.2⟩) rfl (by simp; omega)
      rw [g1] at hfill
      simp only [List.nil_append, Nat.mul_one, List.length_map, hl] at hfill
      have e : (vs.map (N kk) ++ List.drop vs.length ((List.replicate m 0).map (N kk))).toArray = ((vs ++ List.replicate (m - vs.length) 0).map (N kk)).toArray := by
        rw [← List.map_drop, List.drop_replicate, List.map_append]
      rw [e] at hfill
      simp only [execOp, Instr.build, Sem.run_bind, run_underlying ht, run_zero hz, run_sizeOf hs, Result.andThen_ok, List.map_toArray, Value.cells, LV, Nat.mul_one, hfill]
      rfl) hk
theorem st_endc2_LV {fn : Func} {R : Ending → World → Prop} {t u : Tmp} {b m : Nat} {T U : TypeId} {k : IntKind} {ys : List Nat} {v : Value} {R0 : List Res}
    (hres : fn.results = #[.cell t T, .tmp u]) (hv : lk l t = some (pt b 0)) (hu : lk l u = some v) (hf : Find W (.blk b (LV k ys) U) R0) (hs : aggT P T = true) (hz : szOf P T = some m) (hl : ys.length = m)
    (hR : ∀ w, SatW c W w → R (.returned (.tuple #[LV k ys, v])) w) : Go c n l W (bodyPost P fn R .ret) :=
  st_endc2 hres hv hu hf hs (by subst hl; simpa using hz) hR
end
end Go.Proofs.Ytbpmbdlgmmabcaa.L
namespace Go.Proofs.Ytbpmbdlgmmabcaa.L
open Go Go.Proofs
/-- A part of a list. -/
def PartAt {α : Type} (ys : List α) (off m : Nat) (zs : List α) : Prop := ∃ pre post, ys = pre ++ zs ++ post ∧ pre.length = off ∧ zs.length = m
theorem PartAt.l {α : Type} {xs ys : List α} {m : Nat} (h : xs.length = m) : PartAt (xs ++ ys) 0 m xs := ⟨[], ys, rfl, rfl, h⟩
theorem PartAt.r {α : Type} {xs ys : List α} {off m : Nat} (h : xs.length = off) (h2 : ys.length = m) : PartAt (xs ++ ys) off m ys := ⟨xs, [], by simp, h, h2⟩
theorem PartAt.all {α : Type} {xs : List α} {m : Nat} (h : xs.length = m) : PartAt xs 0 m xs := ⟨[], [], by simp, rfl, h⟩
theorem PartAt.inl {α : Type} {xs ys zs : List α} {off m : Nat} (h : PartAt xs off m zs) : PartAt (xs ++ ys) off m zs := by
  obtain ⟨p, q, rfl, h1, h2⟩ := h
  exact ⟨p, q ++ ys, by simp, h1, h2⟩
theorem PartAt.inr {α : Type} {xs ys zs : List α} {off m : Nat} (h : PartAt ys off m zs) : PartAt (xs ++ ys) (xs.length + off) m zs := by
  obtain ⟨p, q, rfl, h1, h2⟩ := h
  exact ⟨xs ++ p, q, by simp, by simp [h1], h2⟩
theorem PartAt.map {α β : Type} {ys zs : List α} {off m : Nat} (f : α → β) (h : PartAt ys off m zs) : PartAt (ys.map f) off m (zs.map f) := by
  obtain ⟨p, q, rfl, h1, h2⟩ := h
  exact ⟨p.map f, q.map f, by simp, by simp [h1], by simp [h2]⟩
theorem PartAt.get {α : Type} {ys zs : List α} {off m : Nat} (h : PartAt ys off m zs) : ∀ j v, zs[j]? = some v → ys[off + j]? = some v := by
  obtain ⟨p, q, rfl, rfl, rfl⟩ := h
  intro j v hj
  rw [List.append_assoc, List.getElem?_append_right (by omega), Nat.add_sub_cancel_left]
  have hl : j < zs.length := (List.getElem?_eq_some_iff.1 hj).1
  rw [List.getElem?_append_left hl]; exact hj
theorem PartAt.ext {α : Type} {ys zs : List α} {off m : Nat} (h : PartAt ys off m zs) : (ys.toArray.extract off (off + m)) = zs.toArray := by
  obtain ⟨p, q, rfl, rfl, rfl⟩ := h
  simp
def fldOf (P : Program) (T : TypeId) (i : Nat) : Option (Nat × Nat) := match P.underlying T with
  | some (.struct fs) => match fs[i]? with
    | some f => match szOf P f.type with
      | some s => some (f.offset, s)
      | none => none
    | none => none
  | _ => none
theorem fldOf_spec {P : Program} {T : TypeId} {i o s : Nat} (h : fldOf P T i = some (o, s)) : ∃ fs f, P.underlying T = some (.struct fs) ∧ fs[i]? = some f ∧ f.offset = o ∧ szOf P f.type = some s := by
  unfold fldOf at h
  split at h
  · rename_i fs h1
    split at h
    · rename_i f h2
      split at h
      · rename_i s' h3
        simp at h
        exact ⟨fs, f, h1, h2, h.1, by rw [h3, h.2]⟩
      · cases h
    · cases h
  · cases h
theorem fold_seg (off : Nat) : ∀ (vs old : List Value) (s : Nat) (pre post : List Value), old.length = vs.length → pre.length = off + s →
    (vs.zipIdx s).foldl (fun (cs : Array Value) (x : Value × Nat) => cs.setIfInBounds (off + x.2) x.1) (pre ++ old ++ post).toArray = (pre ++ vs ++ post).toArray
  | [], [], s, pre, post, _, _ => by simp
  | v :: vs, o :: old, s, pre, post, hl, hp => by
    simp only [List.zipIdx_cons, List.foldl_cons]
    have e : ((pre ++ o :: old ++ post).toArray.setIfInBounds (off + s) v) = ((pre ++ [v]) ++ old ++ post).toArray := by
      rw [← hp]
      simp [List.setIfInBounds_toArray]
    rw [e, fold_seg off vs old (s + 1) (pre ++ [v]) post (by simpa using hl) (by simp; omega)]
    simp
  | [], _ :: _, _, _, _, hl, _ => by simp at hl
  | _ :: _, [], _, _, _, hl, _ => by simp at hl
theorem fill_cons {place : Nat → Option (Nat × Nat)} {i : Nat} {v : Value} {rest : List (Nat × Value)} {pre old post : List Value} (hp : place i = some (pre.length, old.length)) (hv : v.cells.size = old.length) :
    Instr.fill place (pre ++ old ++ post).toArray ((i, v) :: rest) = Instr.fill place (pre ++ v.cells.toList ++ post).toArray rest := by
  simp only [Instr.fill, hp]
  rw [if_neg (by simp [hv])]
  congr 1
  have := fold_seg pre.length v.cells.toList old 0 pre post (by simp [hv]) rfl
  rw [← this, ← Array.foldl_toList, Array.toList_zipIdx]
section
variable {P : Program} {c : Cx} {n : Nat} {l : Sl} {W : List Res} {ops : Array Oper} {Q : Exit → Act → World → Prop} {rest : List Oper}
variable {d : Nat} {T : TypeId} {pos : String} {after : Array Edge}
theorem st_fld {x : Operand} {b off o s i : Nat} {t : TypeId} (hx : ev l x = some (pt b off)) (hf : fldOf P t i = some (o, s)) (hs : Nat.blt 0 s = true) (hn : Nat.blt d n = true)
    (hk : Go c n ((d, pt b (off + o)) :: l) W (wpList P ops Q rest)) : Go c n l W (wpList P ops Q (⟨some d, .fieldAddr t x i, T, pos, after, none⟩ :: rest)) :=
  st_val rfl rfl hn (fun a w ha hw => by
    obtain ⟨fs, f, h1, h2, rfl, h4⟩ := fldOf_spec hf
    have hs0 : ¬ s = 0 := by have := Nat.le_of_ble_eq_true hs; omega
    simp [execOp, ha.ev hx, Instr.fieldAt, Instr.sureAddr, run_underlying h1, h2, fieldPlace, run_sizeOf h4, hs0, pt, Addr.add]) hk
theorem st_ldp {x : Operand} {b off m : Nat} {k : IntKind} {ys zs : List Nat} {E U : TypeId} {R : List Res} (hx : ev l x = some (pt b off)) (hf : Find W (.blk b (LV k ys) U) R) (hs : aggT P E = true) (hz : szOf P E = some m)
    (hp : PartAt ys off m zs) (hn : Nat.blt d n = true)
    (hk : Go c n ((d, LV k zs) :: l) W (wpList P ops Q rest)) : Go c n l W (wpList P ops Q (⟨some d, .load E x, T, pos, after, none⟩ :: rest)) :=
  st_val rfl rfl hn (fun a w ha hw => by
    have hh : w.heap[b]? = some (.cells (ys.map (N k)).toArray U (0, 0)) := hw.holds _ hf.mem
    have hl : zs.length = m := by obtain ⟨_, _, _, _, h⟩ := hp; exact h
    have := run_loadVar_a (P := P) (w := w) (b := b) (off := off) (cs := zs.map (N k)) hs (by simpa [hl] using hz) hh (fun j v hv => by
      have := (hp.map (N k)).get j v hv
      simpa using this)
    simp [execOp, ha.ev hx, Instr.loadAt, Instr.sureAddr, this, LV]) hk
/-- A part of a record that is a value. -/
theorem st_fieldLV {x : Operand} {o s i : Nat} {k : IntKind} {ys zs : List Nat} {t : TypeId} (hx : ev l x = some (LV k ys)) (hf : fldOf P t i = some (o, s)) (hp : PartAt ys o s zs)
    (ha : (match P.underlying t with | some (.struct fs) => (match fs[i]? with | some f => aggT P f.type | none => false) | _ => false) = true) (hn : Nat.blt d n = true)
    (hk : Go c n ((d, LV k zs) :: l) W (wpList P ops Q rest)) : Go c n l W (wpList P ops Q (⟨some d, .field t x i, T, pos, after, none⟩ :: rest)) :=
  st_val rfl rfl hn (fun a w hA hw => by
    obtain ⟨fs, f, h1, h2, rfl, h4⟩ := fldOf_spec hf
    simp only [h1, h2] at ha
    have he := congrArg Array.toList (hp.map (N k)).ext
    simp at he
    simp [execOp, hA.ev hx, Instr.field, run_underlying h1, h2, part, run_isAgg_t ha, run_sizeOf h4, LV, asAgg, he]) hk
def plOf (P : Program) : List Field → Option (List (Nat × Nat))
  | [] => some []
  | f :: fs => match szOf P f.type, plOf P fs with
    | some s, some r => some ((f.offset, s) :: r)
    | _, _ => none
def plF (f : Field) : Sem (Nat × Nat) := do pure (f.offset, ← sizeOf f.type)
theorem run_pl {w : World} : ∀ {fs : List Field} {pl : List (Nat × Nat)}, plOf P fs = some pl → (fs.mapM plF).run P w = .ok pl w
  | [], pl, h => by simp [plOf] at h; subst h; simp
  | f :: fs, pl, h => by
    simp only [plOf] at h
    split at h
    · rename_i s r h1 h2
      simp at h; subst h
      simp [List.mapM_cons, plF, run_sizeOf h1, run_pl h2]
    · cases h
theorem run_plA {w : World} {fs : Array Field} {pl : List (Nat × Nat)} (h : plOf P fs.toList = some pl) : (fs.mapM plF).run P w = .ok pl.toArray w := by
  rw [Array.mapM_eq_mapM_toList]
  simp [run_pl h]
inductive FillsN (pl : List (Nat × Nat)) : List Nat → List (Nat × List Nat) → List Nat → Prop
  | nil {ys : List Nat} : FillsN pl ys [] ys
  | cons {pre old post zs out : List Nat} {i : Nat} {rest : List (Nat × List Nat)} (hp : pl[i]? = some (pre.length, old.length)) (hz : zs.length = old.length) (h : FillsN pl (pre ++ zs ++ post) rest out) :
      FillsN pl (pre ++ old ++ post) ((i, zs) :: rest) out
theorem fillsN {pl : List (Nat × Nat)} {k : IntKind} {ys out : List Nat} {ps : List (Nat × List Nat)} (h : FillsN pl ys ps out) :
    Instr.fill (pl.toArray[·]?) (ys.map (N k)).toArray (ps.map fun p => (p.1, LV k p.2)) = some (out.map (N k)).toArray := by
  induction h with
  | nil => rfl
  | cons hp hz h ih =>
    rename_i pre old post zs out i rest
    have e := fill_cons (place := (pl.toArray[·]?)) (i := i) (v := LV k zs) (rest := rest.map fun p => (p.1, LV k p.2)) (pre := pre.map (N k)) (old := old.map (N k)) (post := post.map (N k)) (by simpa using hp) (by simpa [LV, Value.cells] using hz)
    simp only [List.map_append, List.map_cons] at ih ⊢
    rw [e]
    simpa [LV, Value.cells] using ih
theorem st_buildS {t : TypeId} {fs : Array Field} {pl : List (Nat × Nat)} {k : IntKind} {z out : List Nat} {is : List Nat} {xs : List Operand} {vs : List (List Nat)} (ht : P.underlying t = some (.struct fs)) (hpl : plOf P fs.toList = some pl) (hz : zrOf P t = some (LV k z))
    (hv : evs l xs = some (vs.map (LV k))) (hf : FillsN pl z (is.zip vs) out) (hn : Nat.blt d n = true)
    (hk : Go c n ((d, LV k out) :: l) W (wpList P ops Q rest)) : Go c n l W (wpList P ops Q (⟨some d, .build t (is.zip xs).toArray, T, pos, after, none⟩ :: rest)) :=
  st_val rfl rfl hn (fun a w ha hw => by
    have he : ((is.zip xs).map fun (p : Nat × Operand) => (p.1, a.eval p.2)) = (is.zip vs).map fun p => (p.1, LV k p.2) := by
      have h1 : xs.map a.eval = vs.map (LV k) := ha.evs hv
      have h2 : (is.zip xs).map (fun (p : Nat × Operand) => (p.1, a.eval p.2)) = is.zip (xs.map a.eval) := by rw [List.zip_map_right]; rfl
      have h3 : (is.zip vs).map (fun (p : Nat × List Nat) => (p.1, LV k p.2)) = is.zip (vs.map (LV k)) := by rw [List.zip_map_right]; rfl
      rw [h2, h1, h3]
    have hpp : (fs.mapM fun (f : Field) => (do let s ← sizeOf f.type; pure (f.offset, s) : Sem (Nat × Nat))).run P w = .ok pl.toArray w := run_plA hpl
    have hff := fillsN (k := k) hf
    rw [← he] at hff
    simp only [execOp, Instr.build, Sem.run_bind, run_underlying ht, run_zero hz, hpp, Result.andThen_ok, List.map_toArray, Value.cells, LV]
    rw [hff]
    rfl) hk
/-- Records of two parts of equal size. -/
theorem st_build2 {t : TypeId} {fs : Array Field} {m : Nat} {k : IntKind} {xs ys : List Nat} {x y : Operand} (ht : P.underlying t = some (.struct fs)) (hpl : plOf P fs.toList = some [(0, m), (m, m)]) (hz : zrOf P t = some (LV k (List.replicate (m + m) 0)))
    (hv : evs l [x, y] = some [LV k xs, LV k ys]) (h1 : xs.length = m) (h2 : ys.length = m) (hn : Nat.blt d n = true)
    (hk : Go c n ((d, LV k (xs ++ ys)) :: l) W (wpList P ops Q rest)) : Go c n l W (wpList P ops Q (⟨some d, .build t #[(0, x), (1, y)], T, pos, after, none⟩ :: rest)) :=
  st_buildS (is := [0, 1]) (xs := [x, y]) (vs := [xs, ys]) ht hpl hz hv (by
    have e : List.replicate (m + m) 0 = [] ++ List.replicate m 0 ++ List.replicate m 0 := by rw [List.nil_append, List.replicate_append_replicate]
    rw [e]
    refine .cons (by simp) (by simpa using h1) ?_
    rw [List.nil_append, ← List.append_nil (xs ++ List.replicate m 0)]
    refine .cons (by simp [h1]) (by simpa using h2) ?_
    rw [List.append_nil]; exact .nil) hn hk
theorem st_build2a {t : TypeId} {fs : Array Field} {m : Nat} {k : IntKind} {xs : List Nat} {x : Operand} (ht : P.underlying t = some (.struct fs)) (hpl : plOf P fs.toList = some [(0, m), (m, m)]) (hz : zrOf P t = some (LV k (List.replicate (m + m) 0)))
    (hv : evs l [x] = some [LV k xs]) (h1 : xs.length = m) (hn : Nat.blt d n = true)
    (hk : Go c n ((d, LV k (xs ++ List.replicate m 0)) :: l) W (wpList P ops Q rest)) : Go c n l W (wpList P ops Q (⟨some d, .build t #[(0, x)], T, pos, after, none⟩ :: rest)) :=
  st_buildS (is := [0]) (xs := [x]) (vs := [xs]) ht hpl hz hv (by
    have e : List.replicate (m + m) 0 = [] ++ List.replicate m 0 ++ List.replicate m 0 := by rw [List.nil_append, List.replicate_append_replicate]
    rw [e]
    refine .cons (by simp) (by simpa using h1) ?_
    exact .nil) hn hk
theorem st_build2b {t : TypeId} {fs : Array Field} {m : Nat} {k : IntKind} {ys : List Nat} {y : Operand} (ht : P.underlying t = some (.struct fs)) (hpl : plOf P fs.toList = some [(0, m), (m, m)]) (hz : zrOf P t = some (LV k (List.replicate (m + m) 0)))
    (hv : evs l [y] = some [LV k ys]) (h1 : ys.length = m) (hn : Nat.blt d n = true)
    (hk : Go c n ((d, LV k (List.replicate m 0 ++ ys)) :: l) W (wpList P ops Q rest)) : Go c n l W (wpList P ops Q (⟨some d, .build t #[(1, y)], T, pos, after, none⟩ :: rest)) :=
  st_buildS (is := [1]) (xs := [y]) (vs := [ys]) ht hpl hz hv (by
    have e : List.replicate (m + m) 0 = List.replicate m 0 ++ List.replicate m 0 ++ [] := by rw [List.append_nil, List.replicate_append_replicate]
    rw [e]
    refine .cons (by simp) (by simpa using h1) ?_
    rw [List.append_nil]; exact .nil) hn hk
theorem st_build20 {t : TypeId} {fs : Array Field} {pl : List (Nat × Nat)} {k : IntKind} {z : List Nat} (ht : P.underlying t = some (.struct fs)) (hpl : plOf P fs.toList = some pl) (hz : zrOf P t = some (LV k z)) (hn : Nat.blt d n = true)
    (hk : Go c n ((d, LV k z) :: l) W (wpList P ops Q rest)) : Go c n l W (wpList P ops Q (⟨some d, .build t #[], T, pos, after, none⟩ :: rest)) :=
  st_buildS (is := []) (xs := []) (vs := []) ht hpl hz rfl .nil hn hk
/-- Two such records compared. -/
theorem run_rec2D (D : Nat) {w : World} {t : TypeId} {f0 f1 : Field} {k : IntKind} {m : Nat} {E : TypeId} (ht : P.underlying t = some (.struct #[f0, f1])) (hst : P.stoodInHeld t = false) (hn0 : (f0.name != "_") = true) (hn1 : (f1.name != "_") = true)
    (h0 : P.underlying f0.type = some (.array m E)) (h1 : P.underlying f1.type = some (.array m E)) (hs0 : szOf P f0.type = some m) (hs1 : szOf P f1.type = some m) (ho0 : f0.offset = 0) (ho1 : f1.offset = m)
    (hE : P.underlying E = some (.int k)) (hz : szOf P E = some 1) {xs ys us vs : List Nat} (hx : xs.length = m) (hy : ys.length = m) (hu : us.length = m) (hv : vs.length = m) :
    (Op.equalIn (D + 3) t (LV k (xs ++ ys)) (LV k (us ++ vs))).run P w = .ok (decide (xs = us) && decide (ys = vs)) w := by
  have hf : P.fieldsOf t = #[f0, f1] := by unfold Program.fieldsOf; rw [ht]
  have e := run_equalIn_struct (P := P) w (D + 2) t ((xs ++ ys).map (N k)).toArray ((us ++ vs).map (N k)).toArray (by rw [hf]; exact ht) hst
  rw [hf] at e
  simp only [LV]
  rw [e]
  have a0 : aggT P f0.type = true := by unfold aggT; rw [h0]
  have a1 : aggT P f1.type = true := by unfold aggT; rw [h1]
  have p0 : ∀ (zs ts : List Nat), zs.length = m → (part f0.type ((zs ++ ts).map (N k)).toArray f0.offset).run P w = .ok (LV k zs) w := fun zs ts hz => by
    have he := ((PartAt.l (ys := ts) hz).map (N k)).ext
    rw [Nat.zero_add] at he
    simp only [part, Sem.run_bind, run_isAgg_t a0, Result.andThen_ok, if_true, run_sizeOf hs0, ho0, Nat.zero_add, he, Sem.run_pure, LV]
  have p1 : ∀ (zs ts : List Nat), zs.length = m → ts.length = m → (part f1.type ((zs ++ ts).map (N k)).toArray f1.offset).run P w = .ok (LV k ts) w := fun zs ts hz ht => by
    have he := ((PartAt.r (xs := zs) hz ht).map (N k)).ext
    simp only [part, Sem.run_bind, run_isAgg_t a1, Result.andThen_ok, if_true, run_sizeOf hs1, ho1, he, Sem.run_pure, LV]
  have q0 := run_arrEq (w := w) D h0 hE hz xs us hx hu
  have q1 := run_arrEq (w := w) D h1 hE hz ys vs hy hv
  have n0 : f0.name ≠ "_" := by simpa using hn0
  have n1 : f1.name ≠ "_" := by simpa using hn1
  simp only [Op.eqFields, if_pos n0, if_pos n1, Sem.run_bind, p0 xs ys hx, p0 us vs hu, p1 xs ys hx hy, p1 us vs hu hv, Result.andThen_ok, q0, q1, Sem.run_ite, Sem.run_pure]
  cases decide (xs = us) <;> cases decide (ys = vs) <;> rfl
theorem st_eq2 {t : TypeId} {f0 f1 : Field} {k : IntKind} {m : Nat} {E yt : TypeId} {x y : Operand} {xs ys us vs : List Nat} (hx : ev l x = some (LV k (xs ++ ys))) (hy : ev l y = some (LV k (us ++ vs))) (ht : P.underlying t = some (.struct #[f0, f1])) (hst : P.stoodInHeld t = false) (hn0 : (f0.name != "_") = true) (hn1 : (f1.name != "_") = true)
    (h0 : P.underlying f0.type = some (.array m E)) (h1 : P.underlying f1.type = some (.array m E)) (hs0 : szOf P f0.type = some m) (hs1 : szOf P f1.type = some m) (ho0 : f0.offset = 0) (ho1 : f1.offset = m)
    (hE : P.underlying E = some (.int k)) (hz : szOf P E = some 1) (hg : P.eqGuardType P.depth t = false) (l1 : xs.length = m) (l2 : ys.length = m) (l3 : us.length = m) (l4 : vs.length = m) (hn : Nat.blt d n = true)
    (hk : Go c n ((d, .bool (decide (xs = us) && decide (ys = vs))) :: l) W (wpList P ops Q rest)) : Go c n l W (wpList P ops Q (⟨some d, .binOp .eql t x y yt, T, pos, after, none⟩ :: rest)) :=
  st_val rfl rfl hn (fun a w ha _ => by
    have q1 := run_rec2D 9997 (w := w) ht hst hn0 hn1 h0 h1 hs0 hs1 ho0 ho1 hE hz l1 l2 l3 l4
    have q2 := run_eqGuard_agg (P := P) w .eql t x y ((xs ++ ys).map (N k)).toArray ((us ++ vs).map (N k)).toArray hg
    have q3 := run_eql_struct (P := P) w t ((xs ++ ys).map (N k)).toArray ((us ++ vs).map (N k)).toArray
    simp only [LV] at q1 hx hy
    rw [q1] at q3
    simp only [execOp, ha.ev hx, ha.ev hy, Sem.run_bind, q2, Result.andThen_ok, q3, Sem.run_pure]) hk
theorem st_ne2 {t : TypeId} {f0 f1 : Field} {k : IntKind} {m : Nat} {E yt : TypeId} {x y : Operand} {xs ys us vs : List Nat} (hx : ev l x = some (LV k (xs ++ ys))) (hy : ev l y = some (LV k (us ++ vs))) (ht : P.underlying t = some (.struct #[f0, f1])) (hst : P.stoodInHeld t = false) (hn0 : (f0.name != "_") = true) (hn1 : (f1.name != "_") = true)
    (h0 : P.underlying f0.type = some (.array m E)) (h1 : P.underlying f1.type = some (.array m E)) (hs0 : szOf P f0.type = some m) (hs1 : szOf P f1.type = some m) (ho0 : f0.offset = 0) (ho1 : f1.offset = m)
    (hE : P.underlying E = some (.int k)) (hz : szOf P E = some 1) (hg : P.eqGuardType P.depth t = false) (l1 : xs.length = m) (l2 : ys.length = m) (l3 : us.length = m) (l4 : vs.length = m) (hn : Nat.blt d n = true)
    (hk : Go c n ((d, .bool (!(decide (xs = us) && decide (ys = vs)))) :: l) W (wpList P ops Q rest)) : Go c n l W (wpList P ops Q (⟨some d, .binOp .neq t x y yt, T, pos, after, none⟩ :: rest)) :=
  st_val rfl rfl hn (fun a w ha _ => by
    have q1 := run_rec2D 9997 (w := w) ht hst hn0 hn1 h0 h1 hs0 hs1 ho0 ho1 hE hz l1 l2 l3 l4
    have q2 := run_eqGuard_agg (P := P) w .neq t x y ((xs ++ ys).map (N k)).toArray ((us ++ vs).map (N k)).toArray hg
    have q3 := run_neq_struct (P := P) w t ((xs ++ ys).map (N k)).toArray ((us ++ vs).map (N k)).toArray
    simp only [LV] at q1 hx hy
    rw [q1] at q3
    simp only [execOp, ha.ev hx, ha.ev hy, Sem.run_bind, q2, Result.andThen_ok, q3, Sem.run_pure]) hk
theorem st_eq2v {r : Bool} {t : TypeId} {f0 f1 : Field} {k : IntKind} {m : Nat} {E yt : TypeId} {x y : Operand} {xs ys us vs : List Nat} (hx : ev l x = some (LV k (xs ++ ys))) (hy : ev l y = some (LV k (us ++ vs))) (ht : P.underlying t = some (.struct #[f0, f1])) (hst : P.stoodInHeld t = false) (hn0 : (f0.name != "_") = true) (hn1 : (f1.name != "_") = true)
    (h0 : P.underlying f0.type = some (.array m E)) (h1 : P.underlying f1.type = some (.array m E)) (hs0 : szOf P f0.type = some m) (hs1 : szOf P f1.type = some m) (ho0 : f0.offset = 0) (ho1 : f1.offset = m)
    (hE : P.underlying E = some (.int k)) (hz : szOf P E = some 1) (hg : P.eqGuardType P.depth t = false) (hr : (decide (xs = us) && decide (ys = vs)) = r) (l1 : xs.length = m) (l2 : ys.length = m) (l3 : us.length = m) (l4 : vs.length = m) (hn : Nat.blt d n = true)
    (hk : Go c n ((d, .bool r) :: l) W (wpList P ops Q rest)) : Go c n l W (wpList P ops Q (⟨some d, .binOp .eql t x y yt, T, pos, after, none⟩ :: rest)) :=
  st_eq2 hx hy ht hst hn0 hn1 h0 h1 hs0 hs1 ho0 ho1 hE hz hg l1 l2 l3 l4 hn (by rw [hr]; exact hk)
end
end Go.Proofs.Ytbpmbdlgmmabcaa.L
namespace Go.Proofs.Ytbpmbdlgmmabcaa.L
open Go Go.Proofs
/-- What a world's block holds. -/
def HasB (w : World) (b : Nat) (v : Value) (U : TypeId) : Prop := w.heap[b]? = some (.cells v.cells U (0, 0))
structure OldB (c : Cx) (b : Nat) (v : Value) (U : TypeId) : Prop where
  has : HasB c.w0 b v U
  out : b ∉ c.S
theorem HasB.lt {w : World} {b : Nat} {v : Value} {U : TypeId} (h : HasB w b v U) : b < w.heap.size := by
  rcases Nat.lt_or_ge b w.heap.size with h1 | h1
  · exact h1
  · unfold HasB at h; rw [Array.getElem?_eq_none h1] at h; cases h
theorem OldB.mk0 {w : World} {b : Nat} {v : Value} {U : TypeId} (h : HasB w b v U) : OldB ⟨w, fps []⟩ b v U := ⟨h, by simp [fps]⟩
theorem OldB.now {c : Cx} {b : Nat} {v : Value} {U : TypeId} {W : List Res} (h : OldB c b v U) : ∀ w, SatW c W w → HasB w b v U := fun w hw => by
  have := hw.ext.block b h.has.lt h.out
  unfold HasB
  rw [this]; exact h.has
theorem OldB.shift {c : Cx} {b : Nat} {v : Value} {U : TypeId} {W : List Res} {w0 : World} (h : OldB c b v U) (h0 : SatW c W w0) : OldB ⟨w0, fps W⟩ b v U :=
  ⟨h.now w0 h0, fun hm => by
    rcases h0.own b hm with h1 | h1
    · have := h.has.lt; omega
    · exact h.out h1⟩
theorem HasB.own {c : Cx} {b : Nat} {v : Value} {U : TypeId} {W R : List Res} (h : Find W (.blk b v U) R) : ∀ w, SatW c W w → HasB w b v U := fun _ hw => hw.holds _ h.mem
section
variable {P : Program} {c : Cx} {n : Nat} {l : Sl} {W : List Res} {ops : Array Oper} {Q : Exit → Act → World → Prop} {rest : List Oper}
variable {d : Nat} {T : TypeId} {pos : String} {after : Array Edge}
theorem st_ldo {x : Operand} {b off m : Nat} {k : IntKind} {ys zs : List Nat} {E U : TypeId} (hx : ev l x = some (pt b off)) (ho : OldB c b (LV k ys) U) (hs : aggT P E = true) (hz : szOf P E = some m)
    (hp : PartAt ys off m zs) (hn : Nat.blt d n = true)
    (hk : Go c n ((d, LV k zs) :: l) W (wpList P ops Q rest)) : Go c n l W (wpList P ops Q (⟨some d, .load E x, T, pos, after, none⟩ :: rest)) :=
  st_val rfl rfl hn (fun a w ha hw => by
    have hh : w.heap[b]? = some (.cells (ys.map (N k)).toArray U (0, 0)) := ho.now w hw
    have hl : zs.length = m := by obtain ⟨_, _, _, _, h⟩ := hp; exact h
    have := run_loadVar_a (P := P) (w := w) (b := b) (off := off) (cs := zs.map (N k)) hs (by simpa [hl] using hz) hh (fun j v hv => by
      have := (hp.map (N k)).get j v hv
      simpa using this)
    simp [execOp, ha.ev hx, Instr.loadAt, Instr.sureAddr, this, LV]) hk
end
end Go.Proofs.Ytbpmbdlgmmabcaa.L
namespace Go.Proofs.Ytbpmbdlgmmabcaa.L
open Go Go.Proofs
/-- A slice over a whole block. -/
abbrev slv (b k : Nat) : Value := .slice (some ⟨b, 0, none⟩) k k
theorem fill_many {kk : IntKind} {m : Nat} : ∀ (vss : List (List Nat)) (i : Nat) (done : List Value), (∀ v ∈ vss, v.length = m) → done.length = i * m →
    Instr.fill (fun i => some (i * m, m)) (done ++ List.replicate (vss.length * m) (N kk 0)).toArray ((vss.zipIdx i).map fun p => (p.2, LV kk p.1)) = some (done ++ vss.flatten.map (N kk)).toArray
  | [], i, done, _, _ => by simp [Instr.fill]
  | v :: r, i, done, hv, hd => by
    have h1 := hv v (List.mem_cons_self ..)
    have ih := fill_many (kk := kk) (m := m) r (i + 1) (done ++ v.map (N kk)) (fun u hu => hv u (List.mem_cons_of_mem _ hu)) (by simp [hd, h1, Nat.add_mul])
    have e := fill_cons (place := fun i => some (i * m, m)) (i := i) (v := LV kk v) (rest := (r.zipIdx (i + 1)).map fun p => (p.2, LV kk p.1)) (pre := done) (old := List.replicate m (N kk 0)) (post := List.replicate (r.length * m) (N kk 0))
      (by simp [hd]) (by simp [LV, Value.cells, h1])
    have hrep : done ++ List.replicate ((v :: r).length * m) (N kk 0) = done ++ List.replicate m (N kk 0) ++ List.replicate (r.length * m) (N kk 0) := by
      rw [List.append_assoc, List.replicate_append_replicate]
      congr 2
      rw [List.length_cons, Nat.add_mul, Nat.one_mul, Nat.add_comm]
    rw [hrep, List.zipIdx_cons, List.map_cons, e]
    have hc : (LV kk v).cells.toList = v.map (N kk) := by simp [LV, Value.cells]
    rw [hc, ih]
    simp
section
variable {P : Program} {c : Cx} {n : Nat} {l : Sl} {W : List Res} {ops : Array Oper} {Q : Exit → Act → World → Prop} {rest : List Oper}
variable {d : Nat} {T : TypeId} {pos : String} {after : Array Edge}
theorem parts_many {a : Act} {kk : IntKind} : ∀ {ps : List (Nat × Operand)} {i : Nat} {vss : List (List Nat)} (_ : SatA n l a) (_ : Seq i ps = true) (_ : evs l (ps.map (·.2)) = some (vss.map (LV kk))),
    (ps.map fun (i, x) => (i, a.eval x)) = (vss.zipIdx i).map fun p => (p.2, LV kk p.1)
  | [], i, vss, _, _, he => by
    have : vss = [] := by
      cases vss with
      | nil => rfl
      | cons v r => simp [evs] at he
    subst this; rfl
  | (q, x) :: r, i, vss, ha, hs, he => by
    simp only [Seq, Bool.and_eq_true] at hs
    have hq := Nat.eq_of_beq_eq_true hs.1
    subst hq
    simp only [List.map_cons, evs] at he
    split at he
    · rename_i v us hx hr
      cases vss with
      | nil => simp at he
      | cons v0 vr =>
        simp at he
        obtain ⟨h1, h2⟩ := he
        subst h1
        subst h2
        have ih := parts_many (ps := r) (i := q + 1) (vss := vr) ha hs.2 hr
        simp only [List.map_cons, List.zipIdx_cons, ih, ha.ev hx]
    · simp at he
theorem zeros_many {kk : IntKind} {m k : Nat} (hm : 0 < m) : (Array.range (k * m)).map (fun j => (List.replicate m (N kk 0)).toArray[j % (List.replicate m (N kk 0)).toArray.size]!) = (List.replicate (k * m) (N kk 0)).toArray := by
  apply Array.ext
  · simp
  · intro j h1 h2
    have hj : j % m < m := Nat.mod_lt _ hm
    simp [hj]
theorem st_buildSliceM {t E : TypeId} {k m : Nat} {ps : List (Nat × Operand)} {kk : IntKind} {vss : List (List Nat)} (ht : P.underlying t = some (.slice E)) (hz : zrOf P E = some (LV kk (List.replicate m 0))) (hs : szOf P E = some m)
    (hm : Nat.blt 0 (k * m) = true) (hq : Seq 0 ps = true) (hl : vss.length = k) (hv : evs l (ps.map (·.2)) = some (vss.map (LV kk))) (hlen : ∀ v ∈ vss, v.length = m) (hk24 : Nat.ble (k * m) 16777216 = true) (hn : Nat.blt d n = true)
    (hk : ∀ b, Go c n ((d, slv b k) :: l) (.blk b (LV kk vss.flatten) E :: W) (wpList P ops Q rest)) :
    Go c n l W (wpList P ops Q (⟨some d, .buildSlice t k ps.toArray, T, pos, after, none⟩ :: rest)) :=
  st_op rfl rfl hn (Φ := fun u V => ∃ b, u = slv b k ∧ V = .blk b (LV kk vss.flatten) E :: W)
    (fun a w ha hw => by
      have hp := parts_many ha hq hv
      have hm0 : 0 < k * m := by simpa [Nat.blt_eq] using hm
      have hmm : 0 < m := Nat.pos_of_mul_pos_left hm0
      have hle : ¬ (16777216 < k * m) := by have := Nat.le_of_ble_eq_true hk24; omega
      have hne : ¬ (k * m = 0) := by omega
      have hfill := fill_many (kk := kk) (m := m) vss 0 [] hlen (by simp)
      simp only [List.nil_append] at hfill
      rw [hl] at hfill
      have h0 := zeros_many (kk := kk) (m := m) (k := k) hmm
      refine ⟨_, _, _, ?_, hw.alloc (o := .cells (vss.flatten.map (N kk)).toArray E) (r := .blk w.heap.size (LV kk vss.flatten) E) rfl ?_, _, rfl, rfl⟩
      · have hz2 : (LV kk (List.replicate m 0)).cells = (List.replicate m (N kk 0)).toArray := by simp [LV, Value.cells]
        simp only [execOp, Instr.buildSlice, Sem.run_bind, run_underlying ht, run_sizeOf hs, Result.andThen_ok, List.map_toArray, hp]
        simp only [show (2 : Nat) ^ 24 = 16777216 from rfl, gt_iff_lt, if_neg hle, if_neg hne, Sem.run_bind, run_zero hz, Result.andThen_ok, Sem.run_pure, hz2, h0, hfill]
        simp [newRow, slv]
      · simp [Res.holds, LV, Value.cells])
    (fun u V ⟨b, hu, hV⟩ => by subst hu; subst hV; exact hk b)
theorem st_buildM {t E : TypeId} {k m : Nat} {ps : List (Nat × Operand)} {kk : IntKind} {vss : List (List Nat)} (ht : P.underlying t = some (.array k E)) (hz : zrOf P t = some (LV kk (List.replicate (k * m) 0))) (hs : szOf P E = some m)
    (hq : Seq 0 ps = true) (hl : vss.length = k) (hv : evs l (ps.map (·.2)) = some (vss.map (LV kk))) (hlen : ∀ v ∈ vss, v.length = m) (hn : Nat.blt d n = true)
    (hk : Go c n ((d, LV kk vss.flatten) :: l) W (wpList P ops Q rest)) :
    Go c n l W (wpList P ops Q (⟨some d, .build t ps.toArray, T, pos, after, none⟩ :: rest)) :=
  st_val rfl rfl hn (fun a w ha hw => by
    have hp := parts_many ha hq hv
    have hfill := fill_many (kk := kk) (m := m) vss 0 [] hlen (by simp)
    simp only [List.nil_append, hl] at hfill
    have hz2 : (LV kk (List.replicate (k * m) 0)).cells = (List.replicate (k * m) (N kk 0)).toArray := by simp [LV, Value.cells]
    simp only [execOp, Instr.build, Sem.run_bind, run_underlying ht, run_zero hz, run_sizeOf hs, Result.andThen_ok, List.map_toArray, hp, hz2, hfill]
    rfl) hk
theorem st_ia_slv {x y : Operand} {b off len cap i m : Nat} {k : IntKind} {t E : TypeId} (hx : ev l x = some (.slice (some ⟨b, off, none⟩) len cap)) (hy : ev l y = some (N k i)) (ht : P.underlying t = some (.slice E)) (hz : szOf P E = some m) (hi : i < len)
    (hn : Nat.blt d n = true) (hk : Go c n ((d, pt b (off + i * m)) :: l) W (wpList P ops Q rest)) : Go c n l W (wpList P ops Q (⟨some d, .indexAddr t x y, T, pos, after, none⟩ :: rest)) :=
  st_val rfl rfl hn (fun a w ha hw => by
    simp [execOp, ha.ev hx, ha.ev hy, Instr.indexAt, asIntOf, run_underlying ht, hi, run_sizeOf hz, Addr.add]) hk
theorem st_len_slv {x : Operand} {a0 : Option Addr} {len cap : Nat} {t E : TypeId} {ts : List TypeId} (hx : ev l x = some (.slice a0 len cap)) (ht : P.underlying t = some (.slice E))
    (hn : Nat.blt d n = true) (hk : Go c n ((d, N .i64 len) :: l) W (wpList P ops Q rest)) :
    Go c n l W (wpList P ops Q (⟨some d, .call { callee := .builtin .len, args := #[x], argTypes := (t :: ts).toArray }, T, pos, after, none⟩ :: rest)) :=
  st_val rfl rfl hn (fun a w ha hw => by
    simp [execOp, ha.ev hx, resolve, invoke, builtin, Builtin.len_, run_underlying ht, goInt]) hk
theorem st_endc2c_LV {fn : Func} {R : Ending → World → Prop} {t u : Tmp} {b b' m m' : Nat} {T T' U U' : TypeId} {k k' : IntKind} {ys ys' : List Nat} {R0 R1 : List Res}
    (hres : fn.results = #[.cell t T, .cell u T']) (hv : lk l t = some (pt b 0)) (hu : lk l u = some (pt b' 0)) (hf : Find W (.blk b (LV k ys) U) R0) (hf' : Find W (.blk b' (LV k' ys') U') R1) (hs : aggT P T = true) (hz : szOf P T = some m) (hl : ys.length = m)
    (hs' : aggT P T' = true) (hz' : szOf P T' = some m') (hl' : ys'.length = m')
    (hR : ∀ w, SatW c W w → R (.returned (.tuple #[LV k ys, LV k' ys'])) w) : Go c n l W (bodyPost P fn R .ret) :=
  st_endc2c hres hv hu hf hf' hs (by subst hl; simpa using hz) hs' (by subst hl'; simpa using hz') hR
end
theorem PartAt.nth {α : Type} {m : Nat} : ∀ {vss : List (List α)} {i : Nat} {zs : List α}, (∀ v ∈ vss, v.length = m) → vss[i]? = some zs → PartAt vss.flatten (i * m) m zs
  | [], i, zs, _, h => by simp at h
  | v :: r, 0, zs, hv, h => by
    simp at h
    subst h
    rw [Nat.zero_mul, List.flatten_cons]
    exact PartAt.l (hv v (List.mem_cons_self ..))
  | v :: r, i + 1, zs, hv, h => by
    have h1 := hv v (List.mem_cons_self ..)
    have ih := PartAt.nth (m := m) (vss := r) (i := i) (zs := zs) (fun u hu => hv u (List.mem_cons_of_mem _ hu)) (by simpa using h)
    have := PartAt.inr (xs := v) ih
    rw [h1, Nat.add_comm] at this
    rw [List.flatten_cons, Nat.add_mul, Nat.one_mul]
    exact this
end Go.Proofs.Ytbpmbdlgmmabcaa.L
namespace Go.Proofs.Ytbpmbdlgmmabcaa.L.R
open Go Go.Proofs.Ytbpmbdlgmmabcaa.L
section
variable {P : Program} {c : Cx} {n : Nat} {os : List Oper} {K : Act → World → Prop} {E : En} {W : List Res} {l : Sl} {i d : Nat} {o : Oper} {rest : List Nat}
/-- New memory whose value tells its place. -/
def OpD (P : Program) (c : Cx) (n : Nat) (W : List Res) (G : Nat → Value) (F : Nat → List Res) (d : Nat) (lr : Sl) (o : Oper) : Prop :=
  ∀ w0 m, SatW c W w0 → Go ⟨w0, fps W⟩ n (lr ++ m) W (wpList P #[] (fun e a w => e = .normal ∧ ∃ b, SatA n ((d, G b) :: (lr ++ m)) a ∧ SatW ⟨w0, fps W⟩ (F b ++ W) w) [o])
theorem Zpd {G : Nat → Value} {F : Nat → List Res} (ho : os[i]? = some o) (h : OpD P c n W G F d (restr os.toArray o l) (noG o)) (hr : ∀ b, QF P c n os K (E ++ [(i, .alc)]) (F b ++ W) ((d, G b) :: l) rest)
    (hi : newP i E = true := by rfl) (hd : o.dst = some d := by rfl) (hn : Nat.blt d n = true := by rfl) (hg : gSays os.toArray l o = some true := by rfl)
    (hc : chkP os (E ++ [(i, .alc)]) = true := by rfl) (hdesc : descP os [i] rest E = true := by rfl) : QF P c n os K E W l (i :: rest) :=
  nd1 .alc (Φ := fun u W' => ∃ b, u = some (d, G b) ∧ W' = F b ++ W) ho hi hc hdesc (fun u W' ⟨v, hu, hW⟩ => by subst hu; exact ⟨hd, fun d' hd' => by rw [hd] at hd'; cases hd'; exact hn, .inr ⟨rfl, F v, hW⟩⟩) hg
    (fun w0 m hw a w ha hw' => single_mono (h w0 m hw a w ha hw') rfl (fun _ _ _ h => h.1) fun a w ⟨h1, b, h2, h3⟩ => ⟨h1, some (d, G b), F b ++ W, ⟨b, rfl, rfl⟩, h2, h3⟩)
    (fun u W' ⟨v, hu, hW⟩ => by subst hu; subst hW; exact hr v)
theorem Zpdx {b k : Nat} {v : Value} {T : TypeId} {L : Sl} :
    Go c n ((d, slv b k) :: L) (.blk b v T :: W) (wpList P #[] (fun e a w => e = .normal ∧ ∃ b, SatA n ((d, (fun b => slv b k) b) :: L) a ∧ SatW c ((fun b => [.blk b v T]) b ++ W) w) []) :=
  fun _ _ ha hw => wpList_nil ⟨rfl, b, ha, hw⟩
end
end Go.Proofs.Ytbpmbdlgmmabcaa.L.R
namespace Go.Proofs.Ytbpmbdlgmmabcaa.L
open Go Go.Proofs
/-- Numbers, and a yes or no behind them. -/
@[irreducible] def GL (ys : List Nat) (i : Bool) : Value := .agg (ys.map (N .u64) ++ [Value.bool i]).toArray
theorem GL_def (ys : List Nat) (i : Bool) : GL ys i = .agg (ys.map (N .u64) ++ [Value.bool i]).toArray := by unfold GL; rfl
theorem GL_cells (ys : List Nat) (i : Bool) : (GL ys i).cells = (ys.map (N .u64) ++ [Value.bool i]).toArray := by rw [GL_def]; rfl
inductive FillsV (pl : List (Nat × Nat)) : List Value → List (Nat × Value) → List Value → Prop
  | nil {ys : List Value} : FillsV pl ys [] ys
  | cons {pre old post out : List Value} {i : Nat} {v : Value} {rest : List (Nat × Value)} (hp : pl[i]? = some (pre.length, old.length)) (hz : v.cells.size = old.length) (h : FillsV pl (pre ++ v.cells.toList ++ post) rest out) :
      FillsV pl (pre ++ old ++ post) ((i, v) :: rest) out
theorem fillsV {pl : List (Nat × Nat)} {ys out : List Value} {ps : List (Nat × Value)} (h : FillsV pl ys ps out) :
    Instr.fill (pl.toArray[·]?) ys.toArray ps = some out.toArray := by
  induction h with
  | nil => rfl
  | cons hp hz h ih =>
    rename_i pre old post out i v rest
    have e := fill_cons (place := (pl.toArray[·]?)) (i := i) (v := v) (rest := rest) (pre := pre) (old := old) (post := post) (by simpa using hp) hz
    rw [e]
    exact ih
section
variable {P : Program}
theorem run_recG {w : World} {t A E : TypeId} {f0 f1 f2 g0 g1 : Field} {m : Nat} (ht : P.underlying t = some (.struct #[f0, f1, f2])) (hst : P.stoodInHeld t = false) (hn0 : (f0.name != "_") = true) (hn1 : (f1.name != "_") = true) (hn2 : (f2.name != "_") = true)
    (k0 : f0.type = A) (k1 : f1.type = A) (hs : szOf P A = some (m + m)) (ho0 : f0.offset = 0) (ho1 : f1.offset = m + m) (ho2 : f2.offset = m + m + (m + m)) (h2 : P.underlying f2.type = some .bool)
    (hA : P.underlying A = some (.struct #[g0, g1])) (hstA : P.stoodInHeld A = false) (gn0 : (g0.name != "_") = true) (gn1 : (g1.name != "_") = true)
    (h0 : P.underlying g0.type = some (.array m E)) (h1 : P.underlying g1.type = some (.array m E)) (hs0 : szOf P g0.type = some m) (hs1 : szOf P g1.type = some m) (go0 : g0.offset = 0) (go1 : g1.offset = m)
    (hE : P.underlying E = some (.int .u64)) (hz : szOf P E = some 1) {a b e f a' b' e' f' : List Nat} {i j : Bool} (la : a.length = m) (lb : b.length = m) (le : e.length = m) (lf : f.length = m) (la' : a'.length = m) (lb' : b'.length = m) (le' : e'.length = m) (lf' : f'.length = m) :
    (Op.equalIn 10000 t (GL ((a ++ b) ++ (e ++ f)) i) (GL ((a' ++ b') ++ (e' ++ f')) j)).run P w = .ok (((decide (a = a') && decide (b = b')) && (decide (e = e') && decide (f = f'))) && decide (i = j)) w := by
  have hf : P.fieldsOf t = #[f0, f1, f2] := by unfold Program.fieldsOf; rw [ht]
  rw [GL_def, GL_def]
  have q := run_equalIn_struct (P := P) w 9999 t (((a ++ b) ++ (e ++ f)).map (N .u64) ++ [Value.bool i]).toArray (((a' ++ b') ++ (e' ++ f')).map (N .u64) ++ [Value.bool j]).toArray (by rw [hf]; exact ht) hst
  rw [hf] at q
  rw [q]
  have a0 : aggT P A = true := by unfold aggT; rw [hA]
  have p0 : ∀ (zs ts : List Nat) (o : Bool), zs.length = m + m → (part f0.type ((zs ++ ts).map (N .u64) ++ [Value.bool o]).toArray f0.offset).run P w = .ok (LV .u64 zs) w := fun zs ts o hl => by
    have he := (((PartAt.l (ys := ts) hl).map (N .u64)).inl (ys := [Value.bool o])).ext
    rw [Nat.zero_add] at he
    simp only [part, Sem.run_bind, run_isAgg_t a0, Result.andThen_ok, if_true, k0, run_sizeOf hs, ho0, Nat.zero_add, he, Sem.run_pure, LV]
  have p1 : ∀ (zs ts : List Nat) (o : Bool), zs.length = m + m → ts.length = m + m → (part f1.type ((zs ++ ts).map (N .u64) ++ [Value.bool o]).toArray f1.offset).run P w = .ok (LV .u64 ts) w := fun zs ts o hl hl' => by
    have he := (((PartAt.r (xs := zs) hl hl').map (N .u64)).inl (ys := [Value.bool o])).ext
    simp only [part, Sem.run_bind, run_isAgg_t a0, Result.andThen_ok, if_true, k1, run_sizeOf hs, ho1, he, Sem.run_pure, LV]
  have p2 : ∀ (zs : List Nat) (o : Bool), zs.length = m + m + (m + m) → (part f2.type (zs.map (N .u64) ++ [Value.bool o]).toArray f2.offset).run P w = .ok (.bool o) w := fun zs o hl => by
    have ha : (isAgg f2.type).run P w = .ok false w := by simp [isAgg, run_underlying h2]
    simp [part, Sem.run_bind, ha, ho2, ← hl]
  have r0 := run_rec2D 9996 (w := w) (k := .u64) (t := A) hA hstA gn0 gn1 h0 h1 hs0 hs1 go0 go1 hE hz la lb la' lb'
  have r1 := run_rec2D 9996 (w := w) (k := .u64) (t := A) hA hstA gn0 gn1 h0 h1 hs0 hs1 go0 go1 hE hz le lf le' lf'
  rw [← k0] at r0
  rw [← k1] at r1
  have r2 := run_equalIn_bool w 9998 f2.type i j h2
  have n0 : f0.name ≠ "_" := by simpa using hn0
  have n1 : f1.name ≠ "_" := by simpa using hn1
  have n2 : f2.name ≠ "_" := by simpa using hn2
  have l1 : (a ++ b).length = m + m := by simp [la, lb]
  have l2 : (e ++ f).length = m + m := by simp [le, lf]
  have l1' : (a' ++ b').length = m + m := by simp [la', lb']
  have l2' : (e' ++ f').length = m + m := by simp [le', lf']
  simp only [Op.eqFields, if_pos n0, if_pos n1, if_pos n2, Sem.run_bind, p0 _ _ _ l1, p0 _ _ _ l1', p1 _ _ _ l1 l2, p1 _ _ _ l1' l2', p2 _ _ (show ((a ++ b) ++ (e ++ f)).length = m + m + (m + m) by rw [List.length_append, l1, l2]), p2 _ _ (show ((a' ++ b') ++ (e' ++ f')).length = m + m + (m + m) by rw [List.length_append, l1', l2']), Result.andThen_ok, r0, r1, r2, Sem.run_ite, Sem.run_pure]
  cases decide (a = a') <;> cases decide (b = b') <;> cases decide (e = e') <;> cases decide (f = f') <;> cases i <;> cases j <;> rfl
end
section
variable {P : Program} {c : Cx} {n : Nat} {l : Sl} {W : List Res} {ops : Array Oper} {Q : Exit → Act → World → Prop} {rest : List Oper}
variable {d : Nat} {T : TypeId} {pos : String} {after : Array Edge}
/-- An array of written numbers. -/
def litN (kk : IntKind) : Operand → Option Nat
  | .const (.int k (.ofNat n)) => if k = kk then some n else none
  | _ => none
def lits (kk : IntKind) : List (Nat × Operand) → Option (List Nat)
  | [] => some []
  | p :: r => match litN kk p.2, lits kk r with
    | some n, some ns => some (n :: ns)
    | _, _ => none
theorem litN_ev {kk : IntKind} {o : Operand} {n : Nat} (h : litN kk o = some n) : ev l o = some (N kk n) := by
  unfold litN at h
  split at h
  · split at h
    · rename_i hk
      cases h
      subst hk
      rfl
    · cases h
  · cases h
theorem lits_evs {kk : IntKind} : ∀ {ps : List (Nat × Operand)} {vs : List Nat}, lits kk ps = some vs → evs l (ps.map (·.2)) = some (vs.map (N kk))
  | [], vs, h => by
    cases h; rfl
  | p :: r, vs, h => by
    unfold lits at h
    split at h
    · rename_i n ns h1 h2
      cases h
      simp only [List.map_cons, evs, litN_ev h1, lits_evs h2]
    · cases h
theorem st_buildC {t E : TypeId} {m : Nat} {ps : List (Nat × Operand)} {kk : IntKind} {vs : List Nat} (ht : P.underlying t = some (.array m E)) (hz : zrOf P t = some (LV kk (List.replicate m 0))) (hs : szOf P E = some 1)
    (hq : Seq 0 ps = true) (hv : lits kk ps = some vs) (hl : ps.length = vs.length) (hm : Nat.ble vs.length m = true) (hn : Nat.blt d n = true)
    (hk : Go c n ((d, LV kk (vs ++ List.replicate (m - vs.length) 0)) :: l) W (wpList P ops Q rest)) :
    Go c n l W (wpList P ops Q (⟨some d, .build t ps.toArray, T, pos, after, none⟩ :: rest)) := st_buildP ht hz hs hq hl hm (lits_evs hv) hn hk
theorem st_buildV {t : TypeId} {fs : Array Field} {pl : List (Nat × Nat)} {z out : List Value} {is : List Nat} {xs : List Operand} {vs : List Value} (ht : P.underlying t = some (.struct fs)) (hpl : plOf P fs.toList = some pl) (hz : zrOf P t = some (.agg z.toArray))
    (hv : evs l xs = some vs) (hf : FillsV pl z (is.zip vs) out) (hn : Nat.blt d n = true)
    (hk : Go c n ((d, .agg out.toArray) :: l) W (wpList P ops Q rest)) : Go c n l W (wpList P ops Q (⟨some d, .build t (is.zip xs).toArray, T, pos, after, none⟩ :: rest)) :=
  st_val rfl rfl hn (fun a w ha hw => by
    have he : ((is.zip xs).map fun (p : Nat × Operand) => (p.1, a.eval p.2)) = is.zip vs := by
      have h1 : xs.map a.eval = vs := ha.evs hv
      have h2 : (is.zip xs).map (fun (p : Nat × Operand) => (p.1, a.eval p.2)) = is.zip (xs.map a.eval) := by rw [List.zip_map_right]; rfl
      rw [h2, h1]
    have hpp : (fs.mapM fun (f : Field) => (do let s ← sizeOf f.type; pure (f.offset, s) : Sem (Nat × Nat))).run P w = .ok pl.toArray w := run_plA hpl
    have hff := fillsV hf
    rw [← he] at hff
    simp only [execOp, Instr.build, Sem.run_bind, run_underlying ht, run_zero hz, hpp, Result.andThen_ok, List.map_toArray, Value.cells]
    rw [hff]
    rfl) hk
theorem st_buildG {t : TypeId} {fs : Array Field} {m : Nat} {xs ys : List Nat} {x y : Operand} (ht : P.underlying t = some (.struct fs)) (hpl : plOf P fs.toList = some [(0, m), (m, m), (m + m, 1)]) (hz : zrOf P t = some (GL (List.replicate (m + m) 0) false))
    (hv : evs l [x, y] = some [LV .u64 xs, LV .u64 ys]) (h1 : xs.length = m) (h2 : ys.length = m) (hn : Nat.blt d n = true)
    (hk : Go c n ((d, GL (xs ++ ys) false) :: l) W (wpList P ops Q rest)) : Go c n l W (wpList P ops Q (⟨some d, .build t #[(0, x), (1, y)], T, pos, after, none⟩ :: rest)) :=
  st_buildV (is := [0, 1]) (xs := [x, y]) (vs := [LV .u64 xs, LV .u64 ys]) (z := List.replicate m (N .u64 0) ++ List.replicate m (N .u64 0) ++ [Value.bool false]) (out := xs.map (N .u64) ++ ys.map (N .u64) ++ [Value.bool false]) ht hpl (by
    rw [hz, GL_def, List.map_replicate, List.replicate_append_replicate]) hv (by
    have e : List.replicate m (N .u64 0) ++ List.replicate m (N .u64 0) ++ [Value.bool false] = [] ++ List.replicate m (N .u64 0) ++ (List.replicate m (N .u64 0) ++ [Value.bool false]) := by rw [List.nil_append, List.append_assoc]
    rw [e]
    refine .cons (by simp) (by simpa [LV, Value.cells] using h1) ?_
    have e2 : [] ++ (LV .u64 xs).cells.toList ++ (List.replicate m (N .u64 0) ++ [Value.bool false]) = xs.map (N .u64) ++ List.replicate m (N .u64 0) ++ [Value.bool false] := by simp [LV, Value.cells]
    rw [e2]
    refine .cons (by simp [h1]) (by simpa [LV, Value.cells] using h2) ?_
    have e3 : (LV .u64 ys).cells.toList = ys.map (N .u64) := by simp [LV, Value.cells]
    rw [e3]
    exact .nil) hn (by rw [GL_def, List.map_append] at hk; exact hk)
theorem st_buildGi {t : TypeId} {fs : Array Field} {m : Nat} {x : Operand} {i : Bool} (ht : P.underlying t = some (.struct fs)) (hpl : plOf P fs.toList = some [(0, m), (m, m), (m + m, 1)]) (hz : zrOf P t = some (GL (List.replicate (m + m) 0) false))
    (hv : evs l [x] = some [Value.bool i]) (hn : Nat.blt d n = true)
    (hk : Go c n ((d, GL (List.replicate (m + m) 0) i) :: l) W (wpList P ops Q rest)) : Go c n l W (wpList P ops Q (⟨some d, .build t #[(2, x)], T, pos, after, none⟩ :: rest)) :=
  st_buildV (is := [2]) (xs := [x]) (vs := [Value.bool i]) (z := (List.replicate (m + m) 0).map (N .u64) ++ [Value.bool false] ++ []) (out := (List.replicate (m + m) 0).map (N .u64) ++ [Value.bool i] ++ []) ht hpl (by
    rw [hz, GL_def]; simp) hv (by
    refine .cons (by simp) (by simp [Value.cells]) ?_
    have e3 : (Value.bool i).cells.toList = [Value.bool i] := by simp [Value.cells]
    rw [e3]
    exact .nil) hn (by rw [GL_def] at hk; simpa using hk)
theorem st_store_GL {x y : Operand} {b m : Nat} {ys zs : List Nat} {i j : Bool} {E U : TypeId} {R : List Res} (hx : ev l x = some (pt b 0)) (hy : ev l y = some (GL zs j)) (hf : Find W (.blk b (GL ys i) U) R) (hz : szOf P E = some (m + 1)) (hl : ys.length = m) (hl' : zs.length = m)
    (hk : Go c n l (.blk b (GL zs j) U :: R) (wpList P ops Q rest)) : Go c n l W (wpList P ops Q (⟨none, .store E x y, T, pos, after, none⟩ :: rest)) := by
  rw [GL_def] at hy hf hk
  exact st_store_a hx hy hf hz (by simp [hl]) (by simp [hl']) (by
    intro v hv
    simp only [List.mem_append, List.mem_map, List.mem_singleton] at hv
    rcases hv with ⟨_, _, rfl⟩ | rfl <;> rfl) hk
theorem st_ldpG {x : Operand} {b off m : Nat} {ys zs : List Nat} {i : Bool} {E U : TypeId} {R : List Res} (hx : ev l x = some (pt b off)) (hf : Find W (.blk b (GL ys i) U) R) (hs : aggT P E = true) (hz : szOf P E = some m)
    (hp : PartAt ys off m zs) (hn : Nat.blt d n = true)
    (hk : Go c n ((d, LV .u64 zs) :: l) W (wpList P ops Q rest)) : Go c n l W (wpList P ops Q (⟨some d, .load E x, T, pos, after, none⟩ :: rest)) :=
  st_val rfl rfl hn (fun a w ha hw => by
    have hh : w.heap[b]? = some (.cells (GL ys i).cells U (0, 0)) := hw.holds _ hf.mem
    rw [GL_cells] at hh
    have hl : zs.length = m := by obtain ⟨_, _, _, _, h⟩ := hp; exact h
    have := run_loadVar_a (P := P) (w := w) (b := b) (off := off) (cs := zs.map (N .u64)) hs (by simpa [hl] using hz) hh (fun j v hv => by
      have := ((hp.map (N .u64)).inl (ys := [Value.bool i])).get j v hv
      simpa using this)
    simp [execOp, ha.ev hx, Instr.loadAt, Instr.sureAddr, this, LV]) hk
theorem st_ldbG {x : Operand} {b off : Nat} {ys : List Nat} {i : Bool} {E U : TypeId} {R : List Res} (hx : ev l x = some (pt b off)) (hf : Find W (.blk b (GL ys i) U) R) (hs : scal P E = true) (hl : ys.length = off) (hn : Nat.blt d n = true)
    (hk : Go c n ((d, .bool i) :: l) W (wpList P ops Q rest)) : Go c n l W (wpList P ops Q (⟨some d, .load E x, T, pos, after, none⟩ :: rest)) :=
  st_val rfl rfl hn (fun a w ha hw => by
    have hh : w.heap[b]? = some (.cells (GL ys i).cells U (0, 0)) := hw.holds _ hf.mem
    rw [GL_cells] at hh
    have hc : w.cell? ⟨b, off, none⟩ = some (.bool i) := by
      rw [cell_of_row w b off _ U _ hh]; simp [← hl]
    simp [execOp, ha.ev hx, Instr.loadAt, Instr.sureAddr, run_loadVar_s hs hc]) hk
theorem st_endc_GL {fn : Func} {R : Ending → World → Prop} {t : Tmp} {b m : Nat} {T U : TypeId} {ys : List Nat} {i : Bool} {R0 : List Res}
    (hres : fn.results = #[.cell t T]) (hv : lk l t = some (pt b 0)) (hf : Find W (.blk b (GL ys i) U) R0) (hs : aggT P T = true) (hz : szOf P T = some (m + 1)) (hl : ys.length = m)
    (hR : ∀ w, SatW c W w → R (.returned (GL ys i)) w) : Go c n l W (bodyPost P fn R .ret) := by
  rw [GL_def] at hf
  exact st_endc hres hv hf hs (by rw [hz]; simp [hl]) (by rw [GL_def] at hR; exact hR)
theorem st_eqGv {r : Bool} {t A E yt : TypeId} {f0 f1 f2 g0 g1 : Field} {m : Nat} {x y : Operand} {a b e f a' b' e' f' : List Nat} {i j : Bool}
    (hr : (((decide (a = a') && decide (b = b')) && (decide (e = e') && decide (f = f'))) && decide (i = j)) = r)
    (hx : ev l x = some (GL ((a ++ b) ++ (e ++ f)) i)) (hy : ev l y = some (GL ((a' ++ b') ++ (e' ++ f')) j)) (ht : P.underlying t = some (.struct #[f0, f1, f2])) (hst : P.stoodInHeld t = false) (hn0 : (f0.name != "_") = true) (hn1 : (f1.name != "_") = true) (hn2 : (f2.name != "_") = true)
    (k0 : f0.type = A) (k1 : f1.type = A) (hs : szOf P A = some (m + m)) (ho0 : f0.offset = 0) (ho1 : f1.offset = m + m) (ho2 : f2.offset = m + m + (m + m)) (h2 : P.underlying f2.type = some .bool)
    (hA : P.underlying A = some (.struct #[g0, g1])) (hstA : P.stoodInHeld A = false) (gn0 : (g0.name != "_") = true) (gn1 : (g1.name != "_") = true)
    (h0 : P.underlying g0.type = some (.array m E)) (h1 : P.underlying g1.type = some (.array m E)) (hs0 : szOf P g0.type = some m) (hs1 : szOf P g1.type = some m) (go0 : g0.offset = 0) (go1 : g1.offset = m)
    (hE : P.underlying E = some (.int .u64)) (hz : szOf P E = some 1) (hg : P.eqGuardType P.depth t = false)
    (la : a.length = m) (lb : b.length = m) (le : e.length = m) (lf : f.length = m) (la' : a'.length = m) (lb' : b'.length = m) (le' : e'.length = m) (lf' : f'.length = m) (hn : Nat.blt d n = true)
    (hk : Go c n ((d, .bool r) :: l) W (wpList P ops Q rest)) : Go c n l W (wpList P ops Q (⟨some d, .binOp .eql t x y yt, T, pos, after, none⟩ :: rest)) :=
  st_val rfl rfl hn (fun w0 w ha _ => by
    have q1 := run_recG (w := w) (i := i) (j := j) ht hst hn0 hn1 hn2 k0 k1 hs ho0 ho1 ho2 h2 hA hstA gn0 gn1 h0 h1 hs0 hs1 go0 go1 hE hz la lb le lf la' lb' le' lf'
    rw [hr] at q1
    rw [GL_def] at hx hy
    rw [GL_def, GL_def] at q1
    have q2 := run_eqGuard_agg (P := P) w .eql t x y (((a ++ b) ++ (e ++ f)).map (N .u64) ++ [Value.bool i]).toArray (((a' ++ b') ++ (e' ++ f')).map (N .u64) ++ [Value.bool j]).toArray hg
    have q3 := run_eql_struct (P := P) w t (((a ++ b) ++ (e ++ f)).map (N .u64) ++ [Value.bool i]).toArray (((a' ++ b') ++ (e' ++ f')).map (N .u64) ++ [Value.bool j]).toArray
    rw [q1] at q3
    simp only [execOp, ha.ev hx, ha.ev hy, Sem.run_bind, q2, Result.andThen_ok, q3, Sem.run_pure]) hk
end
end Go.Proofs.Ytbpmbdlgmmabcaa.L
namespace Go.Proofs.Ytbpmbdlgmmabcaa.Num
theorem drop_get {P xs : List Nat} {i : Nat} (h : P.length = i) : (P ++ xs.drop i).getD i 0 = xs.getD i 0 := by
  rw [List.getD_eq_getElem?_getD, List.getElem?_append_right (by omega), h, Nat.sub_self, List.getElem?_drop, Nat.add_zero, ← List.getD_eq_getElem?_getD]
theorem drop_get1 {P xs : List Nat} {i : Nat} (h : P.length = i) : (P ++ xs.drop i).getD (i + 1) 0 = xs.getD (i + 1) 0 := by
  rw [List.getD_eq_getElem?_getD, List.getElem?_append_right (by omega), h, show i + 1 - i = 1 by omega, List.getElem?_drop, ← List.getD_eq_getElem?_getD]
theorem D_getD' {m X : Nat} (h : X < W ^ m) (i : Nat) : (D m X).getD i 0 = X / W ^ i % W := by rw [V_getD (D_lt _ _), V_D' h]
theorem drop_set {P xs : List Nat} {i : Nat} (h : P.length = i) (hi : i < xs.length) (y : Nat) : (P ++ xs.drop i).set i y = P ++ [y] ++ xs.drop (i + 1) := by
  rw [List.set_append_right _ _ (by omega), h, Nat.sub_self, List.drop_eq_getElem_cons hi, List.set_cons_zero, List.append_assoc]; rfl
theorem crun_drop (g : Nat → Nat → Nat → Nat × Nat) (xs ys : List Nat) (i : Nat) (h : i < xs.length) :
    ((crun g xs ys i).1 ++ xs.drop i).set i (g (xs.getD i 0) (ys.getD i 0) (crun g xs ys i).2).1 = (crun g xs ys (i + 1)).1 ++ xs.drop (i + 1) := by
  rw [drop_set (crun_len g xs ys i) h, ← crun_fst]
theorem crun_new (g : Nat → Nat → Nat → Nat × Nat) (xs ys : List Nat) (i n : Nat) (h : i < n) :
    ((crun g xs ys i).1 ++ List.replicate (n - i) 0).set i (g (xs.getD i 0) (ys.getD i 0) (crun g xs ys i).2).1 = (crun g xs ys (i + 1)).1 ++ List.replicate (n - (i + 1)) 0 := by
  rw [crun_set g xs ys i n h, ← crun_fst]
theorem subg_fst (x y c : Nat) : (subg x y c).1 = (x + 18446744073709551616 - y - c) % 18446744073709551616 := rfl
theorem subg_snd (x y c : Nat) : (subg x y c).2 = if x < y + c then 1 else 0 := rfl
theorem addg_fst (x y c : Nat) : (addg x y c).1 = (x + y + c) % 18446744073709551616 := rfl
theorem addg_snd (x y c : Nat) : (addg x y c).2 = (x + y + c) / 18446744073709551616 := rfl
theorem D_sbn {k A B : Nat} (h : B ≤ A) : D k (sbn k A B) = D k (A - B) := by
  rw [sbn, show A + W ^ k - B = A - B + W ^ k by omega, ← D_mod, Nat.add_mod_right, D_mod]
theorem crun_subD {k A B : Nat} (hA : A < W ^ k) (hB : B < W ^ k) : crun subg (D k A) (D k B) k = (D k (sbn k A B), bwn A B) := by
  have h := crun_sub_end (D_lt k A) (D_lt k B) (n := k) (by rw [D_len]; exact Nat.le_refl _) (by rw [D_len]; exact Nat.le_refl _)
  rw [V_D' hA, V_D' hB] at h; exact h
theorem crun_addD {k A B : Nat} (hA : A < W ^ k) (hB : B < W ^ k) : crun addg (D k A) (D k B) k = (D k (A + B), (A + B) / W ^ k) := by
  have h := crun_add_end (D_lt k A) (D_lt k B) (n := k) (by rw [D_len]; exact Nat.le_refl _) (by rw [D_len]; exact Nat.le_refl _)
  rw [V_D' hA, V_D' hB] at h; exact h
theorem crun_subD_le (k A B i : Nat) : (crun subg (D k A) (D k B) i).2 ≤ 1 := crun_le subg_le (D_lt _ _) (D_lt _ _) i
theorem crun_addD_le (k A B i : Nat) : (crun addg (D k A) (D k B) i).2 ≤ 1 := crun_le addg_le (D_lt _ _) (D_lt _ _) i
/-- A number less m, with its word ahead, if that leaves no less than 0. -/
def lessv (k m A c : Nat) : Nat := if A + c * W ^ k < m then A else A + c * W ^ k - m
theorem lessv_of {k m A c : Nat} (hm : m < W ^ k) (hc : c ≤ 1) : (if bwn A m > c then D k A else D k (sbn k A m)) = D k (lessv k m A c) := by
  have h01 : c = 0 ∨ c = 1 := by omega
  unfold lessv bwn
  rcases h01 with rfl | rfl
  · by_cases h : A < m
    · rw [if_pos h, if_pos (by decide), if_pos (by omega)]
    · rw [if_neg h, if_neg (by decide), if_neg (by omega), Nat.zero_mul, Nat.add_zero, D_sbn (by omega)]
  · rw [if_neg (show ¬ A + 1 * W ^ k < m by omega)]
    rw [if_neg (by split <;> omega), Nat.one_mul, sbn]
theorem lessv_sum {k m S : Nat} (h : S < 2 * m) (hm : m < W ^ k) : lessv k m (S % W ^ k) (S / W ^ k) = S % m := by
  unfold lessv
  rw [Nat.mul_comm, Nat.mod_add_div]
  by_cases hs : S < m
  · rw [if_pos hs, Nat.mod_eq_of_lt hs, Nat.mod_eq_of_lt (by omega)]
  · rw [if_neg hs, Nat.mod_eq_sub_mod (by omega), Nat.mod_eq_of_lt (a := S - m) (by omega)]
theorem six {ys : List Nat} (h : ys.length = 6) : [ys.getD 0 0, ys.getD 1 0, ys.getD 2 0, ys.getD 3 0, ys.getD 4 0, ys.getD 5 0] = ys := by
  match ys, h with
  | [a, b, c, d, e, f], _ => rfl
end Go.Proofs.Ytbpmbdlgmmabcaa.Num
namespace Go.Proofs.Ytbpmbdlgmmabcaa.L
open Go
section
variable {P : Program} {c : Cx} {n : Nat} {l : Sl} {W : List Res} {ops : Array Oper} {Q : Exit → Act → World → Prop} {rest : List Oper}
variable {d : Nat} {T : TypeId} {pos : String} {after : Array Edge}
theorem st_doV {o : Oper} {W' : List Res} (hd : o.dst = none) (hg : o.guard = none)
    (h : ∀ a w, SatA n l a → SatW c W w → ∃ v w', (execOp a.eval o).run P w = .ok (.value v) w' ∧ SatW c W' w')
    (hk : Go c n l W' (wpList P ops Q rest)) : Go c n l W (wpList P ops Q (o :: rest)) := by
  intro a w ha hw
  obtain ⟨v, w', hr, hw'⟩ := h a w ha hw
  refine wpList_plain hg fun K hK => ?_
  show o.upon P a K Q ((execOp a.eval o).run P w)
  rw [hr]
  show K (a.put o.dst v) w'
  rw [hd]
  exact hK _ _ (hk _ _ ha hw')
theorem st_clear {x : Operand} {b m lo hi : Nat} {kk : IntKind} {cs : List Nat} {t E U : TypeId} {R : List Res} (hx : ev l x = some (subA b m lo hi)) (hf : Find W (.blk b (LV kk cs) U) R)
    (ht : P.underlying t = some (.slice E)) (hz : zrOf P E = some (N kk 0)) (hm : cs.length = m) (h1 : lo ≤ hi) (h2 : hi ≤ m)
    (hk : Go c n l (.blk b (LV kk (cs.take lo ++ List.replicate (hi - lo) 0 ++ cs.drop hi)) U :: R) (wpList P ops Q rest)) :
    Go c n l W (wpList P ops Q (⟨none, .call { callee := .builtin .clear, args := #[x], argTypes := #[t] }, T, pos, after, none⟩ :: rest)) :=
  st_doV rfl rfl (W' := .blk b (LV kk (cs.take lo ++ List.replicate (hi - lo) 0 ++ cs.drop hi)) U :: R)
    (fun a w ha hw => by
      have hw := hw.perm hf.perm
      have hh : w.heap[b]? = some (.cells (cs.map (N kk)).toArray U (0, 0)) := hw.holds _ (List.mem_cons_self ..)
      by_cases he : hi - lo = 0
      · have e1 : cs.take lo ++ List.replicate (hi - lo) 0 ++ cs.drop hi = cs := by
          rw [he, List.replicate_zero, List.append_nil, show hi = lo by omega, List.take_append_drop]
        rw [e1]
        refine ⟨.tuple #[], w, ?_, hw⟩
        simp [execOp, ha.ev hx, resolve, invoke, builtin, Builtin.clear_, run_underlying ht, subA, he]
      · have hml : ¬ m = lo := by omega
        have hzc : (Builtin.zeroCells (N kk 0).cells (hi - lo)).toList = List.replicate (hi - lo) (N kk 0) := by
          apply List.ext_getElem
          · simp [Builtin.zeroCells, Value.cells]
          · intro j h1' h2'
            simp [Builtin.zeroCells, Value.cells, Nat.mod_one]
        have hst := run_storeCells_blk (P := P) (off := lo) (vs := List.replicate (hi - lo) (N kk 0)) hh (by simp; omega) (fun v hv => by rw [List.eq_of_mem_replicate hv]; rfl)
        have e2 : (cs.map (N kk)).take lo ++ List.replicate (hi - lo) (N kk 0) ++ (cs.map (N kk)).drop (lo + (List.replicate (hi - lo) (N kk 0)).length) = (cs.take lo ++ List.replicate (hi - lo) 0 ++ cs.drop hi).map (N kk) := by
          rw [List.length_replicate, show lo + (hi - lo) = hi by omega]
          simp [List.map_append, List.map_take, List.map_drop]
        rw [e2] at hst
        refine ⟨.tuple #[], w.setRow b ((cs.take lo ++ List.replicate (hi - lo) 0 ++ cs.drop hi).map (N kk)).toArray, ?_, satW_setRow hw (r' := .blk b (LV kk (cs.take lo ++ List.replicate (hi - lo) 0 ++ cs.drop hi)) U) rfl rfl hh (fun w' h => by simp only [Res.holds, LV, Value.cells]; rw [h])⟩
        have hn0 : hi - lo ≠ 0 := he
        obtain ⟨k, hk⟩ : ∃ k, hi - lo = k + 1 := ⟨hi - lo - 1, by omega⟩
        rw [hk] at hst hzc
        simp [execOp, ha.ev hx, resolve, invoke, builtin, Builtin.clear_, run_underlying ht, subA, if_neg hml, hk, run_zero hz, hzc, hst]) hk
end
end Go.Proofs.Ytbpmbdlgmmabcaa.L
namespace Go.Proofs.Ytbpmbdlgmmabcaa.L.Pr
def Prime (p : Nat) : Prop := 1 < p ∧ ∀ d, d ∣ p → d = 1 ∨ d = p
theorem Prime.pos {p : Nat} (h : Prime p) : 0 < p := Nat.lt_trans Nat.zero_lt_one h.1
theorem Prime.cop {p a : Nat} (hp : Prime p) (h : ¬ p ∣ a) : Nat.Coprime p a := by
  rcases hp.2 _ (Nat.gcd_dvd_left p a) with h1 | h1
  · exact h1
  · exact absurd (h1 ▸ Nat.gcd_dvd_right p a) h
theorem Prime.dvd_mul {p a b : Nat} (hp : Prime p) (h : p ∣ a * b) : p ∣ a ∨ p ∣ b := by
  by_cases ha : p ∣ a
  · exact .inl ha
  · exact .inr ((hp.cop ha).dvd_of_dvd_mul_left h)
theorem Prime.dvd_pow {p a : Nat} (hp : Prime p) : ∀ {k : Nat}, p ∣ a ^ k → p ∣ a
  | 0, h => by
    rw [Nat.pow_zero] at h
    have := Nat.le_of_dvd (by decide) h
    have := hp.1
    omega
  | k + 1, h => by
    rw [Nat.pow_succ] at h
    rcases hp.dvd_mul h with h1 | h1
    · exact hp.dvd_pow h1
    · exact h1
theorem has_prime : ∀ {n : Nat}, 1 < n → ∃ p, Prime p ∧ p ∣ n := by
  intro n
  induction n using Nat.strongRecOn with
  | ind n ih =>
    intro h
    by_cases hp : Prime n
    · exact ⟨n, hp, Nat.dvd_refl n⟩
    · have : ∃ d, d ∣ n ∧ d ≠ 1 ∧ d ≠ n := by
        apply Classical.byContradiction
        intro hc
        refine hp ⟨h, fun d hd => ?_⟩
        apply Classical.byContradiction
        intro hd2
        exact hc ⟨d, hd, fun e => hd2 (.inl e), fun e => hd2 (.inr e)⟩
      obtain ⟨d, hd, h1, h2⟩ := this
      have h3 := Nat.le_of_dvd (by omega) hd
      have h4 := Nat.pos_of_dvd_of_pos hd (by omega)
      obtain ⟨p, hp1, hp2⟩ := ih d (by omega) (by omega)
      exact ⟨p, hp1, Nat.dvd_trans hp2 hd⟩
/-- A number that is not prime has a prime divisor whose square is not greater. -/
theorem small_prime {n : Nat} (h : 1 < n) (hn : ¬ Prime n) : ∃ p, Prime p ∧ p ∣ n ∧ p * p ≤ n := by
  have : ∃ d, d ∣ n ∧ d ≠ 1 ∧ d ≠ n := by
    apply Classical.byContradiction
    intro hc
    refine hn ⟨h, fun d hd => ?_⟩
    apply Classical.byContradiction
    intro hd2
    exact hc ⟨d, hd, fun e => hd2 (.inl e), fun e => hd2 (.inr e)⟩
  obtain ⟨d, ⟨e, he⟩, h1, h2⟩ := this
  have hd0 : d ≠ 0 := by rintro rfl; omega
  have he0 : e ≠ 0 := by rintro rfl; omega
  have he1 : e ≠ 1 := by rintro rfl; omega
  rcases Nat.le_total d e with hle | hle
  · obtain ⟨p, hp, hpd⟩ := has_prime (n := d) (by omega)
    have := Nat.le_of_dvd (by omega) hpd
    exact ⟨p, hp, he ▸ Nat.dvd_trans hpd (Nat.dvd_mul_right d e), he ▸ Nat.mul_le_mul this (Nat.le_trans this hle)⟩
  · obtain ⟨p, hp, hpd⟩ := has_prime (n := e) (by omega)
    have := Nat.le_of_dvd (by omega) hpd
    exact ⟨p, hp, he ▸ Nat.dvd_trans hpd (Nat.dvd_mul_left e d), he ▸ Nat.mul_le_mul (Nat.le_trans this hle) this⟩
def lst (g : Nat → Nat) : Nat → List Nat
  | 0 => []
  | n + 1 => g n :: lst g n
def prod : List Nat → Nat
  | [] => 1
  | x :: r => x * prod r
theorem mem_lst {g : Nat → Nat} {y : Nat} : ∀ {n : Nat}, y ∈ lst g n ↔ ∃ i, i < n ∧ y = g i
  | 0 => by simp [lst]
  | n + 1 => by
    rw [lst, List.mem_cons, mem_lst]
    constructor
    · rintro (h | ⟨i, hi, h⟩)
      · exact ⟨n, by omega, h⟩
      · exact ⟨i, by omega, h⟩
    · rintro ⟨i, hi, h⟩
      by_cases hc : i = n
      · subst hc; exact .inl h
      · exact .inr ⟨i, by omega, h⟩
theorem len_lst {g : Nat → Nat} : ∀ {n : Nat}, (lst g n).length = n
  | 0 => rfl
  | n + 1 => by rw [lst, List.length_cons, len_lst]
theorem nodup_lst {g : Nat → Nat} : ∀ {n : Nat}, (∀ i j, i < j → j < n → g j ≠ g i) → (lst g n).Nodup
  | 0, _ => List.nodup_nil
  | n + 1, h => by
    rw [lst, List.nodup_cons]
    refine ⟨fun hm => ?_, nodup_lst fun i j h1 h2 => h i j h1 (by omega)⟩
    obtain ⟨i, hi, he⟩ := mem_lst.1 hm
    exact h i n hi (by omega) he
theorem prod_perm {l m : List Nat} (h : l.Perm m) : prod l = prod m := by
  induction h with
  | nil => rfl
  | cons x _ ih => simp only [prod, ih]
  | swap x y l => simp only [prod, Nat.mul_left_comm]
  | trans _ _ h1 h2 => exact h1.trans h2
theorem perm_of_sub : ∀ {l m : List Nat}, l.Nodup → (∀ x ∈ l, x ∈ m) → m.length ≤ l.length → l.Perm m
  | [], m, _, _, hl => by
    cases m with
    | nil => exact .nil
    | cons x r => simp at hl
  | x :: l, m, hn, hs, hl => by
    have hx := hs x (List.mem_cons_self ..)
    have hn := List.nodup_cons.1 hn
    have hp := List.perm_cons_erase hx
    refine List.Perm.trans (List.Perm.cons x (perm_of_sub hn.2 (fun y hy => ?_) ?_)) hp.symm
    · have hne : y ≠ x := by rintro rfl; exact hn.1 hy
      exact (List.mem_erase_of_ne hne).2 (hs y (List.mem_cons_of_mem _ hy))
    · have := hp.length_eq
      simp only [List.length_cons] at this hl
      omega
theorem prod_mul_mod (a p : Nat) : ∀ n, prod (lst (fun i => a * (i + 1) % p) n) % p = a ^ n * prod (lst (fun i => i + 1) n) % p
  | 0 => by simp [lst, prod]
  | n + 1 => by
    rw [lst, prod, lst, prod, Nat.mul_mod, prod_mul_mod a p n, Nat.mod_mod, ← Nat.mul_mod]
    congr 1
    rw [Nat.pow_succ]
    simp only [Nat.mul_assoc, Nat.mul_left_comm, Nat.mul_comm]
theorem prod_cop {p : Nat} (hp : Prime p) : ∀ n, n < p → ¬ p ∣ prod (lst (fun i => i + 1) n)
  | 0, _, h => by
    rw [lst, prod] at h
    have := Nat.le_of_dvd (by decide) h
    have := hp.1
    omega
  | n + 1, hn, h => by
    rw [lst, prod] at h
    rcases hp.dvd_mul h with h1 | h1
    · have := Nat.le_of_dvd (by omega) h1
      omega
    · exact prod_cop hp n (by omega) h1
theorem cancel {p a b q : Nat} (hp : Prime p) (hq : ¬ p ∣ q) (hab : b ≤ a) (h : a * q % p = b * q % p) : a % p = b % p := by
  have h1 := Nat.sub_mod_eq_zero_of_mod_eq h
  rw [← Nat.sub_mul] at h1
  rcases hp.dvd_mul (Nat.dvd_of_mod_eq_zero h1) with h2 | h2
  · obtain ⟨c, hc⟩ := h2
    rw [show a = b + p * c by omega, Nat.add_mul_mod_self_left]
  · exact absurd h2 hq
theorem fermat {p a : Nat} (hp : Prime p) (ha : ¬ p ∣ a) : a ^ (p - 1) % p = 1 := by
  have hp1 := hp.1
  have ha0 : 0 < a := by
    rcases Nat.eq_zero_or_pos a with h | h
    · subst h; exact absurd (Nat.dvd_zero p) ha
    · exact h
  have hperm : (lst (fun i => a * (i + 1) % p) (p - 1)).Perm (lst (fun i => i + 1) (p - 1)) := by
    refine perm_of_sub (nodup_lst fun i j hij hj he => ?_) (fun x hx => ?_) (by rw [len_lst, len_lst]; exact Nat.le_refl _)
    · have h1 := Nat.sub_mod_eq_zero_of_mod_eq he
      rw [← Nat.mul_sub] at h1
      rcases hp.dvd_mul (Nat.dvd_of_mod_eq_zero h1) with h2 | h2
      · exact ha h2
      · have := Nat.le_of_dvd (by omega) h2
        omega
    · obtain ⟨i, hi, rfl⟩ := mem_lst.1 hx
      have hlt : a * (i + 1) % p < p := Nat.mod_lt _ hp.pos
      have hne : a * (i + 1) % p ≠ 0 := by
        intro h0
        rcases hp.dvd_mul (Nat.dvd_of_mod_eq_zero h0) with h2 | h2
        · exact ha h2
        · have := Nat.le_of_dvd (by omega) h2
          omega
      exact mem_lst.2 ⟨a * (i + 1) % p - 1, by omega, by omega⟩
  have h1 := prod_mul_mod a p (p - 1)
  rw [prod_perm hperm] at h1
  have h2 := cancel hp (prod_cop hp (p - 1) (by omega)) (Nat.pow_pos ha0 : 1 ≤ a ^ (p - 1)) (by rw [Nat.one_mul]; exact h1.symm)
  rw [h2, Nat.mod_eq_of_lt hp1]
theorem pow_one_mod {b k P : Nat} (hP : 1 < P) (h : b % P = 1) : b ^ k % P = 1 := by
  rw [Nat.pow_mod, h, Nat.one_pow, Nat.mod_eq_of_lt hP]
theorem order_gcd {b P : Nat} (hP : 1 < P) : ∀ m k, b ^ m % P = 1 → b ^ k % P = 1 → b ^ Nat.gcd m k % P = 1 := by
  intro m k
  induction m, k using Nat.gcd.induction with
  | H0 k => intro _ h; rw [Nat.gcd_zero_left]; exact h
  | H1 m k hm ih =>
    intro h1 h2
    rw [Nat.gcd_rec]
    refine ih ?_ h1
    have h3 : b ^ k = (b ^ m) ^ (k / m) * b ^ (k % m) := by rw [← Nat.pow_mul, ← Nat.pow_add, Nat.div_add_mod]
    rw [h3, Nat.mul_mod, pow_one_mod hP h1, Nat.one_mul, Nat.mod_mod] at h2
    exact h2
/-- A divisor of a prime's power is the power itself, or divides the one before. -/
theorem dvd_pow_lt {q g e : Nat} (hq : Prime q) (h : g ∣ q ^ (e + 1)) : g = q ^ (e + 1) ∨ g ∣ q ^ e := by
  obtain ⟨c, hc⟩ := h
  by_cases h1 : c = 1
  · subst h1; rw [Nat.mul_one] at hc; exact .inl hc.symm
  · right
    have hc0 : c ≠ 0 := by
      rintro rfl
      have := Nat.pow_pos (n := e + 1) hq.pos
      omega
    obtain ⟨s, hs, hsc⟩ := has_prime (n := c) (by omega)
    have hsq : s ∣ q := hs.dvd_pow (k := e + 1) (hc ▸ Nat.dvd_trans hsc (Nat.dvd_mul_left c g))
    have hse : s = q := by
      rcases hq.2 s hsq with h2 | h2
      · have := hs.1; omega
      · exact h2
    subst hse
    obtain ⟨c', hc'⟩ := hsc
    refine ⟨c', ?_⟩
    rw [hc', Nat.pow_succ, Nat.mul_left_comm, Nat.mul_comm] at hc
    exact Nat.eq_of_mul_eq_mul_left hs.pos hc
theorem pock1 {n P q e a : Nat} (hP : Prime P) (hPn : P ∣ n) (hn : 1 < n) (hq : Prime q) (hd : (n - 1) % q ^ (e + 1) = 0) (h1 : a ^ (n - 1) % n = 1)
    (h2 : Nat.gcd (a ^ ((n - 1) / q) % n + (n - 1)) n = 1) : q ^ (e + 1) ∣ P - 1 := by
  obtain ⟨m, hm⟩ := Nat.dvd_of_mod_eq_zero hd
  have hmod : ∀ x, x % n = 1 → x % P = 1 := by
    intro x hx
    rw [← Nat.mod_mod_of_dvd x hPn, hx, Nat.mod_eq_of_lt hP.1]
  have hb1 : (a ^ m) ^ (q ^ (e + 1)) % P = 1 := by
    rw [← Nat.pow_mul, Nat.mul_comm, ← hm]; exact hmod _ h1
  have haP : ¬ P ∣ a ^ m := by
    intro hc
    have : (a ^ m) ^ (q ^ (e + 1)) % P = 0 := by
      rw [Nat.pow_mod, Nat.mod_eq_zero_of_dvd hc, Nat.zero_pow (Nat.pow_pos hq.pos), Nat.zero_mod]
    omega
  have hg := order_gcd hP.1 _ _ hb1 (fermat hP haP)
  rcases dvd_pow_lt hq (Nat.gcd_dvd_left (q ^ (e + 1)) (P - 1)) with h3 | ⟨c, h3⟩
  · rw [← h3]; exact Nat.gcd_dvd_right _ _
  · exfalso
    have h4 : a ^ ((n - 1) / q) % P = 1 := by
      have : (n - 1) / q = m * q ^ e := by
        rw [hm, Nat.pow_succ, Nat.mul_comm (q ^ e) q, Nat.mul_assoc, Nat.mul_div_cancel_left _ hq.pos, Nat.mul_comm]
      rw [this, Nat.pow_mul, h3, Nat.pow_mul]
      exact pow_one_mod hP.1 hg
    have h5 : P ∣ a ^ ((n - 1) / q) % n + (n - 1) := by
      have h6 : a ^ ((n - 1) / q) % n % P = 1 := by rw [Nat.mod_mod_of_dvd _ hPn]; exact h4
      obtain ⟨c, hc⟩ := hPn
      have h7 : (a ^ ((n - 1) / q) % n + (n - 1) + 1) % P = 1 % P := by
        rw [show a ^ ((n - 1) / q) % n + (n - 1) + 1 = a ^ ((n - 1) / q) % n + P * c by omega, Nat.add_mul_mod_self_left, h6, Nat.mod_eq_of_lt hP.1]
      exact Nat.dvd_of_mod_eq_zero (Nat.add_right_cancel_iff.1 (rfl : 0 + 1 = 0 + 1) ▸ (by
        have h8 := Nat.sub_mod_eq_zero_of_mod_eq h7
        rwa [Nat.add_sub_cancel] at h8))
    have h8 := Nat.dvd_gcd h5 hPn
    rw [h2] at h8
    have := Nat.le_of_dvd (by decide) h8
    have := hP.1
    omega
def pm (n : Nat) : Nat → Nat → Nat → Nat
  | 0, _, _ => 1 % n
  | f + 1, b, e => cond (Nat.beq (e % 2) 1) (b * pm n f (b * b % n) (e / 2) % n) (pm n f (b * b % n) (e / 2))
theorem pm_eq (n : Nat) : ∀ (f b e : Nat), e < 2 ^ f → pm n f b e = b ^ e % n
  | 0, b, e, h => by
    have : e = 0 := by simpa using h
    subst this; rw [pm, Nat.pow_zero]
  | f + 1, b, e, h => by
    have ih := pm_eq n f (b * b % n) (e / 2) (by rw [Nat.pow_succ] at h; omega)
    have hs : (b * b % n) ^ (e / 2) % n = b ^ (2 * (e / 2)) % n := by
      rw [← Nat.pow_mod, ← Nat.pow_two, ← Nat.pow_mul]
    rw [pm, ih, hs]
    rcases Nat.mod_two_eq_zero_or_one e with h2 | h2
    · rw [h2]
      show b ^ (2 * (e / 2)) % n = _
      rw [show 2 * (e / 2) = e by omega]
    · rw [h2]
      show b * (b ^ (2 * (e / 2)) % n) % n = _
      rw [Nat.mul_mod, Nat.mod_mod, ← Nat.mul_mod, ← Nat.pow_succ', show (2 * (e / 2)).succ = e by omega]
def pkF : List (Nat × Nat × Nat) → Nat
  | [] => 1
  | (q, e, _) :: r => q ^ (e + 1) * pkF r
def pkOK (n f : Nat) : List (Nat × Nat × Nat) → Bool
  | [] => true
  | (q, e, a) :: r => Nat.beq ((n - 1) % q ^ (e + 1)) 0 && (Nat.beq (pm n f a (n - 1)) 1 && (Nat.beq (Nat.gcd (pm n f a ((n - 1) / q) + (n - 1)) n) 1 && (Nat.beq (Nat.gcd (q ^ (e + 1)) (pkF r)) 1 && pkOK n f r)))
theorem pkOK_dvd {n f P : Nat} (hP : Prime P) (hPn : P ∣ n) (hn : 1 < n) (hf : n < 2 ^ f) : ∀ {l : List (Nat × Nat × Nat)}, (∀ x ∈ l, Prime x.1) → pkOK n f l = true → pkF l ∣ P - 1
  | [], _, _ => Nat.one_dvd _
  | (q, e, a) :: r, hl, h => by
    simp only [pkOK, Bool.and_eq_true, Nat.beq_eq] at h
    obtain ⟨h1, h2, h3, h4, h5⟩ := h
    have hq := hl _ (List.mem_cons_self ..)
    rw [pm_eq n f a _ (by omega)] at h2
    rw [pm_eq n f a _ (Nat.lt_of_le_of_lt (Nat.div_le_self _ _) (by omega))] at h3
    exact Nat.Coprime.mul_dvd_of_dvd_of_dvd h4 (pock1 hP hPn hn hq h1 h2 h3) (pkOK_dvd hP hPn hn hf (fun x hx => hl x (List.mem_cons_of_mem _ hx)) h5)
theorem pock {n f : Nat} (l : List (Nat × Nat × Nat)) (hl : ∀ x ∈ l, Prime x.1)
    (h : (Nat.blt 1 n && (Nat.blt n (2 ^ f) && (Nat.blt n ((pkF l + 1) * (pkF l + 1)) && pkOK n f l))) = true) : Prime n := by
  simp only [Bool.and_eq_true, Nat.blt_eq] at h
  obtain ⟨h1, h2, h3, h4⟩ := h
  apply Classical.byContradiction
  intro hn
  obtain ⟨P, hP, hPn, hPP⟩ := small_prime h1 hn
  have hd := pkOK_dvd hP hPn h1 h2 hl h4
  have := Nat.le_of_dvd (by have := hP.1; omega) hd
  have hP1 := hP.1
  have hle : pkF l + 1 ≤ P := by omega
  exact Nat.lt_irrefl _ (Nat.lt_of_lt_of_le h3 (Nat.le_trans (Nat.mul_le_mul hle hle) hPP))
def noDiv (n : Nat) : Nat → Nat → Bool
  | lo, 0 => !Nat.beq (n % lo) 0
  | lo, k + 1 => noDiv n lo k && noDiv n (lo + 2 ^ k) k
theorem noDiv_spec {n : Nat} : ∀ {k lo d : Nat}, noDiv n lo k = true → lo ≤ d → d < lo + 2 ^ k → n % d ≠ 0
  | 0, lo, d, h, h1, h2 => by
    have : d = lo := by simp at h2; omega
    subst this
    intro h0
    rw [noDiv, h0] at h
    exact absurd h (by decide)
  | k + 1, lo, d, h, h1, h2 => by
    simp only [noDiv, Bool.and_eq_true] at h
    rw [Nat.pow_succ] at h2
    rcases Nat.lt_or_ge d (lo + 2 ^ k) with h3 | h3
    · exact noDiv_spec h.1 h1 h3
    · exact noDiv_spec h.2 h3 (by omega)
theorem small {n : Nat} (k : Nat) (h : (Nat.blt 1 n && (Nat.blt n ((2 + 2 ^ k) * (2 + 2 ^ k)) && noDiv n 2 k)) = true) : Prime n := by
  simp only [Bool.and_eq_true, Nat.blt_eq] at h
  obtain ⟨h1, h2, h3⟩ := h
  apply Classical.byContradiction
  intro hn
  obtain ⟨P, hP, hPn, hPP⟩ := small_prime h1 hn
  have hlt : P < 2 + 2 ^ k := by
    apply Classical.byContradiction
    intro hc
    have := Nat.mul_le_mul (Nat.le_of_not_lt hc) (Nat.le_of_not_lt hc)
    omega
  exact noDiv_spec h3 hP.1 hlt (Nat.mod_eq_zero_of_dvd hPn)
end Go.Proofs.Ytbpmbdlgmmabcaa.L.Pr
namespace Go.Proofs.Ytbpmbdlgmmabcaa.L.Pr
set_option maxRecDepth 100000
theorem prime_421987 : Prime 421987 := small 10 (by decide +kernel)
theorem prime_q4 : Prime 13090036741 := pock (f := 34) [(421987, 0, 2)] (by
  intro x hx
  simp only [List.mem_cons, List.not_mem_nil, or_false] at hx
  rcases hx with rfl
  · exact prime_421987) (by decide +kernel)
theorem prime_755057 : Prime 755057 := small 10 (by decide +kernel)
theorem prime_q3 : Prime 3819663927398918131021 := pock (f := 72) [(13090036741, 0, 2), (755057, 0, 2)] (by
  intro x hx
  simp only [List.mem_cons, List.not_mem_nil, or_false] at hx
  rcases hx with rfl | rfl
  · exact prime_q4
  · exact prime_755057) (by decide +kernel)
theorem prime_q2 : Prime 1125266252156850182658904441386709967 := pock (f := 120) [(3819663927398918131021, 0, 2)] (by
  intro x hx
  simp only [List.mem_cons, List.not_mem_nil, or_false] at hx
  rcases hx with rfl
  · exact prime_q3) (by decide +kernel)
theorem prime_q1 : Prime 15778400344354997994418419698270088123916926905054652752758194827714659 := pock (f := 234) [(1125266252156850182658904441386709967, 0, 2)] (by
  intro x hx
  simp only [List.mem_cons, List.not_mem_nil, or_false] at hx
  rcases hx with rfl
  · exact prime_q2) (by decide +kernel)
theorem prime_p : Prime 4002409555221667393417789825735904156556882819939007885332058136124031650490837864442687629129015664037894272559787 := pock (f := 381) [(15778400344354997994418419698270088123916926905054652752758194827714659, 0, 2)] (by
  intro x hx
  simp only [List.mem_cons, List.not_mem_nil, or_false] at hx
  rcases hx with rfl
  · exact prime_q1) (by decide +kernel)
end Go.Proofs.Ytbpmbdlgmmabcaa.L.Pr
namespace Go.Proofs.Ytbpmbdlgmmabcaa.L.Kf
open Pr
section ring
variable {n : Nat} [NeZero n]
def κ (n : Nat) [NeZero n] (a : Nat) : Fin n := Fin.ofNat n a
theorem κ_val (x : Fin n) : κ n x.val = x := Fin.ext (Nat.mod_eq_of_lt x.isLt)
theorem val_κ (a : Nat) : (κ n a).val = a % n := rfl
theorem κ_eq {a b : Nat} : κ n a = κ n b ↔ a % n = b % n := Fin.ext_iff
theorem κ_mod (a : Nat) : κ n (a % n) = κ n a := Fin.ext (Nat.mod_mod a n)
theorem κ_add (a b : Nat) : κ n (a + b) = κ n a + κ n b := Fin.ext (by rw [Fin.val_add, val_κ, val_κ, val_κ, ← Nat.add_mod])
theorem κ_mul (a b : Nat) : κ n (a * b) = κ n a * κ n b := Fin.ext (by rw [Fin.val_mul, val_κ, val_κ, val_κ, ← Nat.mul_mod])
theorem κ_0 : κ n 0 = 0 := rfl
theorem κ_1 : κ n 1 = 1 := rfl
theorem κ_n : κ n n = 0 := Fin.ext (by rw [val_κ, Nat.mod_self]; rfl)
theorem κ_sub {a b : Nat} (h : b ≤ a) : κ n (a - b) = κ n a - κ n b := by
  have h1 := κ_add (n := n) (a - b) b
  rw [Nat.sub_add_cancel h] at h1
  rw [h1]; grind
theorem κ_neg {a : Nat} (h : a ≤ n) : κ n (n - a) = - κ n a := by
  rw [κ_sub h, κ_n]; grind
theorem pow_s (a : Fin n) (k : Nat) : a ^ (k + 1) = a ^ k * a := rfl
theorem pow_0 (a : Fin n) : a ^ 0 = 1 := rfl
theorem κ_pow (a : Nat) : ∀ k, κ n (a ^ k) = κ n a ^ k
  | 0 => rfl
  | k + 1 => by rw [Nat.pow_succ, κ_mul, κ_pow a k, pow_s]
theorem val_pow (x : Fin n) (k : Nat) : (x ^ k).val = x.val ^ k % n := by
  rw [← val_κ, κ_pow, κ_val]
theorem pow_add' (a : Fin n) (i : Nat) : ∀ k, a ^ (i + k) = a ^ i * a ^ k
  | 0 => by rw [pow_0]; grind
  | k + 1 => by rw [← Nat.add_assoc, pow_s, pow_add' a i k, pow_s]; grind
theorem pow_mul' (a : Fin n) (i : Nat) : ∀ k, a ^ (i * k) = (a ^ i) ^ k
  | 0 => rfl
  | k + 1 => by rw [Nat.mul_add, Nat.mul_one, pow_add', pow_mul' a i k, pow_s]
end ring
section field
variable {n : Nat} [NeZero n] (hp : Prime n)
include hp
theorem one_ne : (1 : Fin n) ≠ 0 := by
  intro h
  have := congrArg Fin.val h
  have h1 : (κ n 1).val = 0 := this
  rw [val_κ, Nat.mod_eq_of_lt hp.1] at h1
  exact absurd h1 (by decide)
omit hp in
theorem dvd_zero {a : Nat} : κ n a = 0 ↔ n ∣ a := by
  rw [← κ_0, κ_eq, Nat.zero_mod]
  exact ⟨Nat.dvd_of_mod_eq_zero, Nat.mod_eq_zero_of_dvd⟩
theorem mul_zero' {a b : Fin n} (h : a * b = 0) : a = 0 ∨ b = 0 := by
  rw [← κ_val a, ← κ_val b, ← κ_mul, dvd_zero] at h
  rcases hp.dvd_mul h with h1 | h1
  · exact .inl (by rw [← κ_val a]; exact (dvd_zero).2 h1)
  · exact .inr (by rw [← κ_val b]; exact (dvd_zero).2 h1)
theorem cancel' {a b c : Fin n} (hc : c ≠ 0) (h : a * c = b * c) : a = b := by
  have : (a - b) * c = 0 := by grind
  rcases mul_zero' hp this with h1 | h1
  · grind
  · exact absurd h1 hc
theorem fermat' {a : Fin n} (h : a ≠ 0) : a ^ (n - 1) = 1 := by
  have h1 : ¬ n ∣ a.val := fun hd => h (by rw [← κ_val a]; exact (dvd_zero).2 hd)
  have h2 := fermat hp h1
  refine Fin.ext ?_
  rw [val_pow, h2]
  show 1 = 1 % n
  rw [Nat.mod_eq_of_lt hp.1]
omit hp
def inv (a : Fin n) : Fin n := a ^ (n - 2)
include hp
theorem mul_inv {a : Fin n} (h : a ≠ 0) : a * inv a = 1 := by
  have h1 := hp.1
  have h2 := fermat' hp h
  rw [show n - 1 = n - 2 + 1 by omega, pow_s] at h2
  rw [inv]; grind
theorem inv_unique {a b : Fin n} (h : a * b = 1) : inv a = b := by
  have ha : a ≠ 0 := by
    rintro rfl
    exact one_ne hp (by grind)
  have h1 := mul_inv hp ha
  refine cancel' hp ha ?_
  grind
theorem sq_eq {a b : Fin n} (h : a * a = b * b) : a = b ∨ a = -b := by
  have : (a - b) * (a + b) = 0 := by grind
  rcases mul_zero' hp this with h1 | h1
  · exact .inl (by grind)
  · exact .inr (by grind)
end field
end Go.Proofs.Ytbpmbdlgmmabcaa.L.Kf
namespace Go.Proofs.Ytbpmbdlgmmabcaa.L.Kf
open Pr
abbrev P3 (n : Nat) : Prop := Prime n ∧ n % 4 = 3
section roots
variable {n : Nat} [NeZero n]
def rt (a : Fin n) : Fin n := a ^ ((n + 1) / 4)
def isq (a : Fin n) : Bool := rt a * rt a == a
def sg (a : Fin n) : Nat := a.val % 2
def evn (a : Fin n) : Fin n := if sg a = 1 then -a else a
variable (hp : P3 n)
include hp
theorem two_ne : (2 : Fin n) ≠ 0 := by
  have h3 := hp.2
  intro h
  have : κ n 2 = 0 := h
  rw [dvd_zero] at this
  have := Nat.le_of_dvd (by decide) this
  omega
theorem rt_sq (a : Fin n) : rt a * rt a = a ^ ((n - 1) / 2) * a := by
  have h3 := hp.2
  rw [rt, ← pow_add', ← pow_s]
  congr 1; omega
theorem half_pow (x : Fin n) : (x * x) ^ ((n - 1) / 2) = x ^ (n - 1) := by
  have h3 := hp.2
  have : x * x = x ^ 2 := by rw [pow_s, pow_s, pow_0]; grind
  rw [this, ← pow_mul']
  congr 1; omega
theorem rt_of_sq {a x : Fin n} (h : x * x = a) : rt a * rt a = a := by
  rw [rt_sq hp, ← h, half_pow hp]
  by_cases hx : x = 0
  · subst hx; grind
  · rw [fermat' hp.1 hx]; grind
theorem isq_iff {a : Fin n} : isq a = true ↔ ∃ x, x * x = a := by
  rw [isq, beq_iff_eq]
  exact ⟨fun h => ⟨_, h⟩, fun ⟨x, h⟩ => rt_of_sq hp h⟩
theorem half_one {a : Fin n} (ha : a ≠ 0) : a ^ ((n - 1) / 2) = 1 ∨ a ^ ((n - 1) / 2) = -1 := by
  have h3 := hp.2
  have h1 : a ^ ((n - 1) / 2) * a ^ ((n - 1) / 2) = 1 * 1 := by
    rw [← pow_add', show (n - 1) / 2 + (n - 1) / 2 = n - 1 by omega, fermat' hp.1 ha]; grind
  exact sq_eq hp.1 h1
theorem sq_or (a : Fin n) : isq a = true ∨ isq (-a) = true := by
  by_cases ha : a = 0
  · subst ha; left; exact (isq_iff hp).2 ⟨0, by grind⟩
  · have h1 := rt_sq hp a
    rcases half_one hp ha with h | h
    · left; rw [h] at h1; exact (isq_iff hp).2 ⟨rt a, by grind⟩
    · right; rw [h] at h1; exact (isq_iff hp).2 ⟨rt a, by grind⟩
omit hp in
theorem odd_pow : ∀ k : Nat, (-1 : Fin n) ^ (2 * k + 1) = -1
  | 0 => by rw [pow_s, pow_0]; grind
  | k + 1 => by rw [show 2 * (k + 1) + 1 = 2 * k + 1 + 1 + 1 by omega, pow_s, pow_s, odd_pow k]; grind
theorem neg_one_no (x : Fin n) : x * x ≠ -1 := by
  have h3 := hp.2
  intro h
  have hx : x ≠ 0 := by
    rintro rfl
    exact one_ne hp.1 (by grind)
  have h1 := half_pow hp x
  rw [h, fermat' hp.1 hx, show (n - 1) / 2 = 2 * (n / 4) + 1 by omega, odd_pow] at h1
  exact two_ne hp (by grind)
theorem sum_sq {x y : Fin n} (h : x * x + y * y = 0) : x = 0 ∧ y = 0 := by
  by_cases hy : y = 0
  · subst hy
    have : x * x = 0 := by grind
    rcases mul_zero' hp.1 this with h1 | h1 <;> exact ⟨h1, rfl⟩
  · exfalso
    have h1 := mul_inv hp.1 hy
    refine neg_one_no hp (x * inv y) ?_
    have : (x * inv y) * (x * inv y) = (x * x) * (inv y * inv y) := by grind
    rw [this, show x * x = -(y * y) by grind]
    have : -(y * y) * (inv y * inv y) = -((y * inv y) * (y * inv y)) := by grind
    rw [this, h1]; grind
theorem not_both {a : Fin n} (ha : a ≠ 0) (h1 : isq a = true) (h2 : isq (-a) = true) : False := by
  obtain ⟨x, hx⟩ := (isq_iff hp).1 h1
  obtain ⟨y, hy⟩ := (isq_iff hp).1 h2
  have := sum_sq hp (x := x) (y := y) (by grind)
  exact ha (by rw [← hx, this.1]; grind)
theorem isq_neg {a : Fin n} (ha : a ≠ 0) : isq (-a) = !isq a := by
  cases h1 : isq a
  · rcases sq_or hp a with h | h
    · rw [h1] at h; exact absurd h (by decide)
    · rw [h]; rfl
  · cases h2 : isq (-a)
    · rfl
    · exact (not_both hp ha h1 h2).elim
theorem isq_mul {a b : Fin n} (ha : a ≠ 0) (hb : b ≠ 0) : isq (a * b) = (isq a == isq b) := by
  have hm : ∀ x y : Fin n, isq x = true → isq y = true → isq (x * y) = true := by
    intro x y hx hy
    obtain ⟨s, hs⟩ := (isq_iff hp).1 hx
    obtain ⟨t, ht⟩ := (isq_iff hp).1 hy
    exact (isq_iff hp).2 ⟨s * t, by grind⟩
  have hab : a * b ≠ 0 := fun h => by
    rcases mul_zero' hp.1 h with h | h
    · exact ha h
    · exact hb h
  have e1 : -a * b = -(a * b) := by grind
  have e2 : a * -b = -(a * b) := by grind
  have e3 : -a * -b = a * b := by grind
  cases h1 : isq a <;> cases h2 : isq b
  · rw [← e3, hm _ _ (by rw [isq_neg hp ha, h1]; rfl) (by rw [isq_neg hp hb, h2]; rfl)]; rfl
  · have := hm (-a) b (by rw [isq_neg hp ha, h1]; rfl) h2
    rw [e1, isq_neg hp hab] at this
    cases h : isq (a * b)
    · rfl
    · rw [h] at this; exact absurd this (by decide)
  · have := hm a (-b) h1 (by rw [isq_neg hp hb, h2]; rfl)
    rw [e2, isq_neg hp hab] at this
    cases h : isq (a * b)
    · rfl
    · rw [h] at this; exact absurd this (by decide)
  · rw [hm a b h1 h2]; rfl
omit hp in
theorem val_neg {a : Fin n} (ha : a ≠ 0) : (-a).val = n - a.val := by
  have h0 : a.val ≠ 0 := fun h => ha (Fin.ext h)
  have := a.isLt
  rw [← κ_val a, ← κ_neg (by omega), val_κ, val_κ, Nat.mod_eq_of_lt this, Nat.mod_eq_of_lt (by omega)]
theorem sg_neg {a : Fin n} (ha : a ≠ 0) : sg a + sg (-a) = 1 := by
  have h3 := hp.2
  have h := val_neg ha
  have := a.isLt
  rw [sg, sg, h]; omega
omit hp
include hp
omit hp
theorem evn_sq (a : Fin n) : evn a * evn a = a * a := by
  rw [evn]; split <;> grind
end roots
structure K2 (n : Nat) where
  re : Fin n
  im : Fin n
deriving DecidableEq
namespace K2
variable {n : Nat} [NeZero n]
omit [NeZero n] in
theorem ext' {a b : K2 n} (h1 : a.re = b.re) (h2 : a.im = b.im) : a = b := by
  cases a; cases b; cases h1; cases h2; rfl
def zero : K2 n := ⟨0, 0⟩
def one : K2 n := ⟨1, 0⟩
def add (a b : K2 n) : K2 n := ⟨a.re + b.re, a.im + b.im⟩
def neg (a : K2 n) : K2 n := ⟨-a.re, -a.im⟩
def sub (a b : K2 n) : K2 n := ⟨a.re - b.re, a.im - b.im⟩
def mul (a b : K2 n) : K2 n := ⟨a.re * b.re - a.im * b.im, a.re * b.im + a.im * b.re⟩
def conj (a : K2 n) : K2 n := ⟨a.re, -a.im⟩
def scale (a : K2 n) (k : Fin n) : K2 n := ⟨a.re * k, a.im * k⟩
def norm (a : K2 n) : Fin n := a.re * a.re + a.im * a.im
def inv (a : K2 n) : K2 n := scale (conj a) (Kf.inv (norm a))
def pw (a : K2 n) : Nat → K2 n
  | 0 => one
  | k + 1 => mul (pw a k) a
def sgn (a : K2 n) : Nat := if a.re = 0 then sg a.im else sg a.re
theorem mul_comm' (a b : K2 n) : mul a b = mul b a := ext' (by simp only [mul]; grind) (by simp only [mul]; grind)
theorem mul_assoc' (a b c : K2 n) : mul (mul a b) c = mul a (mul b c) := ext' (by simp only [mul]; grind) (by simp only [mul]; grind)
theorem mul_one' (a : K2 n) : mul a one = a := ext' (by simp only [mul, one]; grind) (by simp only [mul, one]; grind)
theorem one_mul' (a : K2 n) : mul one a = a := ext' (by simp only [mul, one]; grind) (by simp only [mul, one]; grind)
theorem mul_add' (a b c : K2 n) : mul a (add b c) = add (mul a b) (mul a c) := ext' (by simp only [mul, add]; grind) (by simp only [mul, add]; grind)
theorem mul_zero2 (a : K2 n) : mul a zero = zero := ext' (by simp only [mul, zero]; grind) (by simp only [mul, zero]; grind)
theorem add_zero' (a : K2 n) : add a zero = a := ext' (by simp only [add, zero]; grind) (by simp only [add, zero]; grind)
theorem add_comm' (a b : K2 n) : add a b = add b a := ext' (by simp only [add]; grind) (by simp only [add]; grind)
theorem add_assoc' (a b c : K2 n) : add (add a b) c = add a (add b c) := ext' (by simp only [add]; grind) (by simp only [add]; grind)
theorem norm_mul (a b : K2 n) : norm (mul a b) = norm a * norm b := by simp only [norm, mul]; grind
theorem neg_neg' (a : K2 n) : neg (neg a) = a := ext' (by simp only [neg]; grind) (by simp only [neg]; grind)
theorem neg_mul_neg (a b : K2 n) : mul (neg a) (neg b) = mul a b := ext' (by simp only [mul, neg]; grind) (by simp only [mul, neg]; grind)
theorem pw_add (a : K2 n) (i : Nat) : ∀ k, pw a (i + k) = mul (pw a i) (pw a k)
  | 0 => by rw [pw, mul_one', Nat.add_zero]
  | k + 1 => by rw [← Nat.add_assoc, pw, pw_add a i k, pw, mul_assoc']
theorem pw_mul (a : K2 n) (i : Nat) : ∀ k, pw a (i * k) = pw (pw a i) k
  | 0 => rfl
  | k + 1 => by rw [Nat.mul_add, Nat.mul_one, pw_add, pw_mul a i k, pw]
theorem pw_base (x : Fin n) : ∀ k, pw ⟨x, 0⟩ k = ⟨x ^ k, 0⟩
  | 0 => rfl
  | k + 1 => by rw [pw, pw_base x k, pow_s]; exact ext' (by simp only [mul]; grind) (by simp only [mul]; grind)
variable (hp : P3 n)
include hp
theorem norm_zero {a : K2 n} (h : norm a = 0) : a = zero := by
  have := sum_sq hp h
  exact ext' this.1 this.2
theorem norm_ne {a : K2 n} (h : a ≠ zero) : norm a ≠ 0 := fun hc => h (norm_zero hp hc)
theorem mul_zero_or {a b : K2 n} (h : mul a b = zero) : a = zero ∨ b = zero := by
  have h1 : norm a * norm b = 0 := by rw [← norm_mul, h]; simp only [norm, zero]; grind
  rcases mul_zero' hp.1 h1 with h2 | h2
  · exact .inl (norm_zero hp h2)
  · exact .inr (norm_zero hp h2)
theorem mul_inv2 {a : K2 n} (h : a ≠ zero) : mul a (inv a) = one := by
  have h1 := mul_inv hp.1 (norm_ne hp h)
  generalize hN : Kf.inv (norm a) = N at h1
  simp only [inv, hN]
  simp only [norm] at h1
  refine ext' ?_ ?_
  · simp only [mul, scale, conj, one]; grind
  · simp only [mul, scale, conj, one]; grind
theorem sgn_neg {a : K2 n} (ha : a ≠ zero) : sgn a + sgn (neg a) = 1 := by
  by_cases h : a.re = 0
  · have him : a.im ≠ 0 := fun hc => ha (ext' h hc)
    have e1 : sgn a = sg a.im := if_pos h
    have e2 : sgn (neg a) = sg (-a.im) := if_pos (show -a.re = 0 by rw [h]; grind)
    rw [e1, e2]
    exact sg_neg hp him
  · have e1 : sgn a = sg a.re := if_neg h
    have e2 : sgn (neg a) = sg (-a.re) := if_neg (show ¬ -a.re = 0 from fun hc => h (by grind))
    rw [e1, e2]
    exact sg_neg hp h
omit hp
theorem sgn_zero : sgn (zero : K2 n) = 0 := by simp only [sgn, zero, if_true]; rfl
theorem neg_zero2 : neg (zero : K2 n) = zero := ext' (by simp only [neg, zero]; grind) (by simp only [neg, zero]; grind)
def evn2 (a : K2 n) : K2 n := if sgn a = 1 then neg a else a
theorem sgn_lt (a : K2 n) : sgn a < 2 := by
  simp only [sgn]; split <;> exact Nat.mod_lt _ (by decide)
include hp
theorem sgn_evn2 (a : K2 n) : sgn (evn2 a) = 0 := by
  rw [evn2]
  have := sgn_lt a
  split
  · rename_i h
    by_cases ha : a = zero
    · subst ha; exact absurd h (by rw [sgn_zero]; decide)
    · have := sgn_neg hp ha; omega
  · omega
omit hp
theorem evn2_sq (a : K2 n) : mul (evn2 a) (evn2 a) = mul a a := by
  rw [evn2]; split
  · exact neg_mul_neg a a
  · rfl
include hp
end K2
end Go.Proofs.Ytbpmbdlgmmabcaa.L.Kf
namespace Go.Proofs.Ytbpmbdlgmmabcaa.L.Kf
open Pr
namespace K2
variable {n : Nat} [NeZero n]
def ch : Nat → Nat → Nat
  | _, 0 => 1
  | 0, _ + 1 => 0
  | m + 1, k + 1 => ch m k + ch m (k + 1)
variable (hp : P3 n)
include hp
omit hp
def hv (n : Nat) [NeZero n] : Fin n := κ n ((n + 1) / 2)
def fsq (a : Fin n) : Fin n × Bool := if rt a * rt a = a then (evn (rt a), true) else (0, false)
def tryP (a : K2 n) (m : Fin n) : K2 n × Bool :=
  if (fsq ((a.re + m) * hv n)).1 = 0 then
    (evn2 ⟨0, (fsq (-a.re)).1⟩, (fsq (-a.re)).2 && decide (mul (evn2 ⟨0, (fsq (-a.re)).1⟩) (evn2 ⟨0, (fsq (-a.re)).1⟩) = a))
  else (evn2 ⟨(fsq ((a.re + m) * hv n)).1, a.im * hv n * Kf.inv (fsq ((a.re + m) * hv n)).1⟩, (fsq ((a.re + m) * hv n)).2 && decide (mul (evn2 ⟨(fsq ((a.re + m) * hv n)).1, a.im * hv n * Kf.inv (fsq ((a.re + m) * hv n)).1⟩) (evn2 ⟨(fsq ((a.re + m) * hv n)).1, a.im * hv n * Kf.inv (fsq ((a.re + m) * hv n)).1⟩) = a))
def sqrtP (a : K2 n) : K2 n × Bool :=
  if (fsq (norm a)).2 then
    if (tryP a (fsq (norm a)).1).2 then ((tryP a (fsq (norm a)).1).1, true)
    else if (tryP a (-(fsq (norm a)).1)).2 then ((tryP a (-(fsq (norm a)).1)).1, true)
    else (zero, false)
  else (zero, false)
def RootOf (a : K2 n) (r : K2 n × Bool) : Prop := (r.2 = true ∧ mul r.1 r.1 = a ∧ sgn r.1 = 0) ∨ (r.2 = false ∧ r.1 = zero ∧ ∀ w, mul w w ≠ a)
include hp
theorem hv_2 : 2 * hv n = 1 := by
  have h3 := hp.2
  have h : κ n (2 * ((n + 1) / 2)) = 1 := by
    rw [show 2 * ((n + 1) / 2) = n + 1 by omega, κ_add, κ_n, κ_1]; grind
  rw [κ_mul] at h
  exact h
theorem fsq_yes {a x : Fin n} (h : x * x = a) : (fsq a).2 = true ∧ (fsq a).1 * (fsq a).1 = a := by
  have h1 := rt_of_sq hp h
  rw [fsq, if_pos h1]
  exact ⟨rfl, by show evn (rt a) * evn (rt a) = a; rw [evn_sq, h1]⟩
omit hp
include hp
theorem tryP_sound {a : K2 n} {m : Fin n} (h : (tryP a m).2 = true) : mul (tryP a m).1 (tryP a m).1 = a ∧ sgn (tryP a m).1 = 0 := by
  rw [tryP] at h ⊢
  split
  · rename_i hc
    rw [if_pos hc] at h
    simp only [Bool.and_eq_true, decide_eq_true_eq] at h
    exact ⟨h.2, sgn_evn2 hp _⟩
  · rename_i hc
    rw [if_neg hc] at h
    simp only [Bool.and_eq_true, decide_eq_true_eq] at h
    exact ⟨h.2, sgn_evn2 hp _⟩
theorem tryP_yes {a w : K2 n} (h : mul w w = a) : (tryP a (w.re * w.re + w.im * w.im)).2 = true := by
  have h2 := hv_2 hp
  generalize hv n = v at h2
  obtain ⟨s, t⟩ := w
  have e1 : a.re = s * s - t * t := by rw [← h]; rfl
  have e2 : a.im = s * t + t * s := by rw [← h]; rfl
  have e3 : (a.re + (s * s + t * t)) * hv n = s * s := by
    have h2 := hv_2 hp
    rw [e1]
    generalize hv n = v at h2
    grind
  have hx := fsq_yes hp (x := s) (a := s * s) rfl
  simp only [tryP]
  rw [e3]
  generalize hX : (fsq (s * s)).1 = X at hx
  by_cases h0 : X = 0
  · rw [if_pos h0]
    have hs : s = 0 := by
      have : s * s = 0 := by rw [← hx.2, h0]; grind
      rcases mul_zero' hp.1 this with h | h <;> exact h
    have hy := fsq_yes hp (x := t) (a := -a.re) (by rw [e1, hs]; grind)
    generalize (fsq (-a.re)).1 = Y at hy
    simp only [Bool.and_eq_true, decide_eq_true_eq]
    refine ⟨hy.1, ?_⟩
    rw [evn2_sq]
    have hy2 := hy.2
    rw [e1] at hy2
    subst hs
    refine ext' ?_ ?_
    · rw [e1]; simp only [mul]; grind
    · rw [e2]; simp only [mul]; grind
  · rw [if_neg h0]
    simp only [Bool.and_eq_true, decide_eq_true_eq]
    refine ⟨hx.1, ?_⟩
    rw [evn2_sq]
    have hi := mul_inv hp.1 h0
    have hv2 := hv_2 hp
    have hx2 := hx.2
    generalize Kf.inv X = I at hi
    generalize hv n = v at hv2
    have hy : a.im * v * I = s * t * I := by rw [e2]; grind
    rw [hy]
    refine ext' ?_ ?_
    · rw [e1]; simp only [mul]
      have : s * t * I * (s * t * I) = (s * s) * (t * t) * (I * I) := by grind
      rw [this, ← hx2]
      have : X * X * (t * t) * (I * I) = t * t * ((X * I) * (X * I)) := by grind
      rw [this, hi]; grind
    · rw [e2]; simp only [mul]
      have : X * (s * t * I) = s * t * (X * I) := by grind
      rw [this]
      have : s * t * I * X = s * t * (X * I) := by grind
      rw [this, hi]; grind
theorem sqrtP_root (a : K2 n) : RootOf a (sqrtP a) := by
  have key : ∀ w, mul w w = a → (fsq (norm a)).2 = true ∧ ((tryP a (fsq (norm a)).1).2 = true ∨ (tryP a (-(fsq (norm a)).1)).2 = true) := by
    intro w hw
    have hN : (w.re * w.re + w.im * w.im) * (w.re * w.re + w.im * w.im) = norm a := by rw [← hw, norm_mul]; rfl
    have h1 := fsq_yes hp hN
    refine ⟨h1.1, ?_⟩
    have ht := tryP_yes hp hw
    rcases sq_eq hp.1 (h1.2.trans hN.symm) with h | h
    · left; rw [h]; exact ht
    · right; rw [h, show -(-(w.re * w.re + w.im * w.im)) = w.re * w.re + w.im * w.im by grind]; exact ht
  rw [sqrtP]
  split
  · split
    · rename_i h
      exact .inl ⟨rfl, tryP_sound hp h⟩
    · rename_i hn1
      split
      · rename_i h
        exact .inl ⟨rfl, tryP_sound hp h⟩
      · rename_i hn2
        refine .inr ⟨rfl, rfl, fun w hw => ?_⟩
        rcases (key w hw).2 with h | h
        · exact hn1 h
        · exact hn2 h
  · rename_i hn
    exact .inr ⟨rfl, rfl, fun w hw => hn (key w hw).1⟩
omit hp
def isq2 (a : K2 n) : Bool := (sqrtP a).2
include hp
theorem isq2_iff {a : K2 n} : isq2 a = true ↔ ∃ w, mul w w = a := by
  rcases sqrtP_root hp a with ⟨h1, h2, _⟩ | ⟨h1, _, h2⟩
  · exact ⟨fun _ => ⟨_, h2⟩, fun _ => h1⟩
  · exact ⟨fun h => (by rw [isq2, h1] at h; exact absurd h (by decide)), fun ⟨w, hw⟩ => absurd hw (h2 w)⟩
/-- A number is a square just if its norm is one. -/
theorem isq2_norm (a : K2 n) : isq2 a = isq (norm a) := by
  have h1 : isq2 a = true → isq (norm a) = true := by
    intro h
    obtain ⟨w, rfl⟩ := (isq2_iff hp).1 h
    rw [norm_mul]
    exact (isq_iff hp).2 ⟨_, rfl⟩
  have h2 : isq (norm a) = true → isq2 a = true := by
    intro h
    obtain ⟨m, hm⟩ := (isq_iff hp).1 h
    have hv2 := hv_2 hp
    refine (isq2_iff hp).2 ?_
    by_cases hi : a.im = 0
    · rcases sq_or hp a.re with hr | hr
      · obtain ⟨x, hx⟩ := (isq_iff hp).1 hr
        exact ⟨⟨x, 0⟩, ext' (by simp only [mul]; grind) (by simp only [mul]; grind)⟩
      · obtain ⟨x, hx⟩ := (isq_iff hp).1 hr
        exact ⟨⟨0, x⟩, ext' (by simp only [mul]; grind) (by simp only [mul]; grind)⟩
    · have hN : norm a = a.re * a.re + a.im * a.im := rfl
      rw [hN] at hm
      generalize hv n = v at hv2
      have key : ∀ x m' : Fin n, m' * m' = a.re * a.re + a.im * a.im → x * x = (a.re + m') * v → ∃ w, mul w w = a := by
        intro x m' hm' hx
        have hx0 : x ≠ 0 := by
          rintro rfl
          have h0 : m' = -a.re := by
            have : 2 * ((a.re + m') * v) = 0 := by rw [← hx]; grind
            have : (a.re + m') * (2 * v) = 0 := by grind
            rw [hv2] at this; grind
          have : a.im * a.im = 0 := by rw [h0] at hm'; grind
          rcases mul_zero' hp.1 this with h | h <;> exact hi h
        have hI := mul_inv hp.1 hx0
        generalize Kf.inv x = I at hI
        refine ⟨⟨x, a.im * v * I⟩, ext' ?_ ?_⟩
        · simp only [mul]
          have h5 : (a.im * v) * (a.im * v) = (x * x) * (x * x) - a.re * (x * x) := by
            rw [hx]
            have : a.im * a.im = m' * m' - a.re * a.re := by grind
            have e : (a.im * v) * (a.im * v) = (a.im * a.im) * (v * v) := by grind
            rw [e, this]
            have : 2 * v * v = v := by rw [hv2]; grind
            grind
          have h6 : a.im * v * I * (a.im * v * I) = (a.im * v) * (a.im * v) * (I * I) := by grind
          rw [h6, h5]
          have h7 : ((x * x) * (x * x) - a.re * (x * x)) * (I * I) = (x * x) * ((x * I) * (x * I)) - a.re * ((x * I) * (x * I)) := by grind
          rw [h7, hI]; grind
        · simp only [mul]
          have : x * (a.im * v * I) + a.im * v * I * x = a.im * (2 * v) * (x * I) := by grind
          rw [this, hv2, hI]; grind
      rcases sq_or hp ((a.re + m) * v) with hr | hr
      · obtain ⟨x, hx⟩ := (isq_iff hp).1 hr
        exact key x m hm hx
      · -- the other one: their product is minus a square
        have hne : (a.re + m) * v ≠ 0 := by
          intro h0
          have h00 : (a.re + m) * (2 * v) = 0 := by grind
          rw [hv2] at h00
          have hme : m = -a.re := by grind
          have : a.im * a.im = 0 := by rw [hme] at hm; grind
          rcases mul_zero' hp.1 this with h | h <;> exact hi h
        have hne2 : (a.re - m) * v ≠ 0 := by
          intro h0
          have h00 : (a.re - m) * (2 * v) = 0 := by grind
          rw [hv2] at h00
          have hme : m = a.re := by grind
          have : a.im * a.im = 0 := by rw [hme] at hm; grind
          rcases mul_zero' hp.1 this with h | h <;> exact hi h
        have hprod : -((a.re + m) * v) * ((a.re - m) * v) = (a.im * v) * (a.im * v) := by
          have : a.im * a.im = m * m - a.re * a.re := by grind
          have e : (a.im * v) * (a.im * v) = (a.im * a.im) * (v * v) := by grind
          rw [e, this]; grind
        have hsq : isq ((a.im * v) * (a.im * v)) = true := (isq_iff hp).2 ⟨_, rfl⟩
        rw [← hprod, isq_mul hp (fun h => hne (by grind)) hne2, hr] at hsq
        have hr2 : isq ((a.re - m) * v) = true := by
          cases h : isq ((a.re - m) * v)
          · rw [h] at hsq; exact absurd hsq (by decide)
          · rfl
        obtain ⟨x, hx⟩ := (isq_iff hp).1 hr2
        exact key x (-m) (by grind) (by rw [hx]; grind)
  cases h : isq2 a
  · cases k : isq (norm a)
    · rfl
    · rw [h2 k] at h; exact absurd h (by decide)
  · rw [h1 h]
end K2
end Go.Proofs.Ytbpmbdlgmmabcaa.L.Kf
namespace Go.Proofs.Ytbpmbdlgmmabcaa.L.Kf.K2
open Pr
variable {n : Nat} [NeZero n]
theorem tryP_0 {a : K2 n} {m : Fin n} {s : Fin n × Bool} {o : K2 n} (hs : s = fsq ((a.re + m) * hv n)) (h : s.1 = 0) (ho : o = ⟨s.1, (fsq (-a.re)).1⟩) :
    tryP a m = (evn2 o, (fsq (-a.re)).2 && decide (mul (evn2 o) (evn2 o) = a)) := by
  subst hs
  subst ho
  rw [h, tryP, if_pos h]
theorem tryP_1 {a : K2 n} {m : Fin n} {s : Fin n × Bool} {o : K2 n} (hs : s = fsq ((a.re + m) * hv n)) (h : ¬ s.1 = 0) (ho : o = ⟨s.1, a.im * hv n * Kf.inv s.1⟩) :
    tryP a m = (evn2 o, s.2 && decide (mul (evn2 o) (evn2 o) = a)) := by
  subst hs
  subst ho
  rw [tryP, if_neg h]
theorem evn2_1 {a : K2 n} {g : Nat} (hg : g = sgn a) (h : g = 1) : evn2 a = neg a := if_pos (hg.symm.trans h)
theorem evn2_0 {a : K2 n} {g : Nat} (hg : g = sgn a) (h : ¬ g = 1) : evn2 a = a := if_neg fun e => h (hg.trans e)
theorem sqrtP_0 {a : K2 n} {s : Fin n × Bool} (hs : s = fsq (norm a)) (h : s.2 = false) : sqrtP a = (zero, false) := by
  subst hs
  rw [sqrtP, if_neg (by rw [h]; decide)]
theorem sqrtP_1 {a : K2 n} {s : Fin n × Bool} {t : K2 n × Bool} (hs : s = fsq (norm a)) (h : s.2 = true) (ht : t = tryP a s.1) (h1 : t.2 = true) : sqrtP a = (t.1, true) := by
  subst hs
  subst ht
  rw [sqrtP, if_pos h, if_pos h1]
theorem sqrtP_2 {a : K2 n} {s : Fin n × Bool} {t v : K2 n × Bool} (hs : s = fsq (norm a)) (h : s.2 = true) (ht : t = tryP a s.1) (h1 : t.2 = false) (hv : v = tryP a (-s.1)) (h2 : v.2 = true) : sqrtP a = (v.1, true) := by
  subst hs
  subst ht
  subst hv
  rw [sqrtP, if_pos h, if_neg (by rw [h1]; decide), if_pos h2]
theorem sqrtP_3 {a : K2 n} {s : Fin n × Bool} {t v : K2 n × Bool} (hs : s = fsq (norm a)) (h : s.2 = true) (ht : t = tryP a s.1) (h1 : t.2 = false) (hv : v = tryP a (-s.1)) (h2 : v.2 = false) : sqrtP a = (zero, false) := by
  subst hs
  subst ht
  subst hv
  rw [sqrtP, if_pos h, if_neg (by rw [h1]; decide), if_neg (by rw [h2]; decide)]
theorem isq2_def (a : K2 n) : isq2 a = (sqrtP a).2 := rfl
end Go.Proofs.Ytbpmbdlgmmabcaa.L.Kf.K2
namespace Go.Proofs.Ytbpmbdlgmmabcaa.L.Kf
open Pr
namespace K2
variable {n : Nat} [NeZero n]
instance mulA : Std.Associative (α := K2 n) mul := ⟨mul_assoc'⟩
instance mulC : Std.Commutative (α := K2 n) mul := ⟨mul_comm'⟩
instance addA : Std.Associative (α := K2 n) add := ⟨add_assoc'⟩
instance addC : Std.Commutative (α := K2 n) add := ⟨add_comm'⟩
theorem neg_mul' (a b : K2 n) : mul (neg a) b = neg (mul a b) := ext' (by simp only [mul, neg]; grind) (by simp only [mul, neg]; grind)
theorem mul_neg' (a b : K2 n) : mul a (neg b) = neg (mul a b) := ext' (by simp only [mul, neg]; grind) (by simp only [mul, neg]; grind)
theorem add_neg' (a : K2 n) : add a (neg a) = zero := ext' (by simp only [add, neg, zero]; grind) (by simp only [add, neg, zero]; grind)
theorem neg_add' (a b : K2 n) : neg (add a b) = add (neg a) (neg b) := ext' (by simp only [add, neg]; grind) (by simp only [add, neg]; grind)
theorem sub_self' (a : K2 n) : sub a a = zero := ext' (by simp only [sub, zero]; grind) (by simp only [sub, zero]; grind)
theorem sub_eq (a b : K2 n) : sub a b = add a (neg b) := ext' (by simp only [sub, add, neg]; grind) (by simp only [sub, add, neg]; grind)
theorem sub_zero_eq {a b : K2 n} (h : sub a b = zero) : a = b := by
  have e1 := congrArg re h
  have e2 := congrArg im h
  simp only [sub, zero] at e1 e2
  exact ext' (by grind) (by grind)
theorem add_zero_neg {a b : K2 n} (h : add a b = zero) : a = neg b := by
  have e1 := congrArg re h
  have e2 := congrArg im h
  simp only [add, zero] at e1 e2
  exact ext' (by simp only [neg]; grind) (by simp only [neg]; grind)
theorem zero_add' (a : K2 n) : add zero a = a := by rw [add_comm', add_zero']
theorem zero_mul2 (a : K2 n) : mul zero a = zero := by rw [mul_comm', mul_zero2]
theorem add_mul' (a b c : K2 n) : mul (add a b) c = add (mul a c) (mul b c) := by rw [mul_comm', mul_add', mul_comm' c a, mul_comm' c b]
/-- From one side to the other. -/
theorem sswu_alg {a b w s x : K2 n} (ht : mul (add (mul w w) w) s = one) (hx : mul a x = neg (mul b (add one s))) :
    add (add (mul (mul (mul w x) (mul w x)) (mul w x)) (mul a (mul w x))) b = mul (mul (mul w w) w) (add (add (mul (mul x x) x) (mul a x)) b) := by
  have e1 : mul (mul (mul w x) (mul w x)) (mul w x) = mul (mul (mul w w) w) (mul (mul x x) x) := by ac_rfl
  have e2 : mul a (mul w x) = mul w (mul a x) := by ac_rfl
  rw [mul_add', mul_add', e1, e2, hx, add_assoc', add_assoc']
  congr 1
  apply sub_zero_eq
  have key : sub (add (mul w (neg (mul b (add one s)))) b) (add (mul (mul (mul w w) w) (neg (mul b (add one s)))) (mul (mul (mul w w) w) b)) = mul (mul b (sub one w)) (sub one (mul (add (mul w w) w) s)) :=
    ext' (by simp only [mul, add, sub, neg, one]; grind) (by simp only [mul, add, sub, neg, one]; grind)
  rw [key, ht, sub_self', mul_zero2]
theorem sswu_x {a b s ia : K2 n} (ha : mul a ia = one) : mul a (mul (neg (mul b ia)) (add one s)) = neg (mul b (add one s)) := by
  have e : mul a (mul (mul b ia) (add one s)) = mul (mul a ia) (mul b (add one s)) := by ac_rfl
  rw [neg_mul', mul_neg', e, ha, one_mul']
variable (hp : P3 n)
include hp
theorem mul_ne {a b : K2 n} (ha : a ≠ zero) (hb : b ≠ zero) : mul a b ≠ zero := fun h => (mul_zero_or hp h).elim ha hb
theorem div_eq {a b x : K2 n} (ha : a ≠ zero) (h : mul x a = b) : mul b (inv a) = x := by
  rw [← h, mul_assoc', mul_inv2 hp ha, mul_one']
/-- What is no cube. -/
theorem no_cube {x c : K2 n} (h3 : (n - 1) % 3 = 0) (hc : c ≠ zero) (hn : norm c ^ ((n - 1) / 3) ≠ 1) (h : mul (mul x x) x = c) : False := by
  have hx : x ≠ zero := by
    intro h0
    subst h0
    rw [mul_zero2] at h
    exact hc h.symm
  apply hn
  rw [← h, norm_mul, norm_mul]
  have e : norm x * norm x * norm x = norm x ^ 3 := by
    rw [show (3 : Nat) = 0 + 1 + 1 + 1 from rfl, pow_s, pow_s, pow_s, pow_0]; grind
  rw [e, ← pow_mul', show 3 * ((n - 1) / 3) = n - 1 by omega]
  exact fermat' hp.1 (norm_ne hp hx)
theorem isq2_mul {a b : K2 n} (ha : a ≠ zero) (hb : b ≠ zero) : isq2 (mul a b) = (isq2 a == isq2 b) := by
  rw [isq2_norm hp, isq2_norm hp, isq2_norm hp, norm_mul, isq_mul hp (norm_ne hp ha) (norm_ne hp hb)]
theorem isq2_sq (a : K2 n) : isq2 (mul a a) = true := (isq2_iff hp).2 ⟨a, rfl⟩
omit hp
/-- The opposite's sign. -/
theorem sgn_flip (hp : P3 n) {a : K2 n} (ha : a ≠ zero) : sgn (neg a) = 1 - sgn a := by
  have := sgn_neg hp ha
  omega
end K2
end Go.Proofs.Ytbpmbdlgmmabcaa.L.Kf
namespace Go.Proofs.Ytbpmbdlgmmabcaa.L.Kf
open Pr
namespace K2
variable {n : Nat} [NeZero n]
def ofN : Nat → K2 n
  | 0 => zero
  | k + 1 => add (ofN k) one
def ofZ : Int → K2 n
  | .ofNat k => ofN k
  | .negSucc k => neg (ofN (k + 1))
theorem ofN_s (k : Nat) : (ofN (k + 1) : K2 n) = add (ofN k) one := rfl
theorem ofN_add (a b : Nat) : (ofN (a + b) : K2 n) = add (ofN a) (ofN b) := by
  induction b with
  | zero => exact (add_zero' _).symm
  | succ b ih => rw [← Nat.add_assoc, ofN_s, ofN_s, ih, add_assoc']
theorem ofN_mul (a b : Nat) : (ofN (a * b) : K2 n) = mul (ofN a) (ofN b) := by
  induction b with
  | zero => exact (mul_zero2 _).symm
  | succ b ih => rw [Nat.mul_succ, ofN_add, ih, ofN_s, mul_add', mul_one']
theorem ofZ_sub (a b : Nat) : (ofZ (Int.subNatNat a b) : K2 n) = add (ofN a) (neg (ofN b)) := by
  rcases Nat.le_total b a with h | h
  · obtain ⟨k, rfl⟩ : ∃ k, a = b + k := ⟨a - b, by omega⟩
    have e : Int.subNatNat (b + k) b = Int.ofNat k := by rw [Int.subNatNat_eq_coe]; show (_ : Int) = (k : Int); omega
    rw [e, ofN_add]
    show ofN k = _
    rw [add_comm' (ofN b), add_assoc', add_neg', add_zero']
  · rcases Nat.eq_or_lt_of_le h with h | h
    · subst h
      have e : Int.subNatNat a a = Int.ofNat 0 := by rw [Int.subNatNat_eq_coe]; show (_ : Int) = (0 : Int); omega
      rw [e, add_neg']; rfl
    · obtain ⟨k, rfl⟩ : ∃ k, b = a + (k + 1) := ⟨b - a - 1, by omega⟩
      have e : Int.subNatNat a (a + (k + 1)) = Int.negSucc k := by rw [Int.subNatNat_eq_coe, Int.negSucc_eq]; omega
      rw [e, ofN_add, neg_add', ← add_assoc', add_neg', zero_add']
      rfl
theorem ofZ_add (a b : Int) : (ofZ (a + b) : K2 n) = add (ofZ a) (ofZ b) := by
  cases a with
  | ofNat a => cases b with
    | ofNat b => exact ofN_add a b
    | negSucc b => exact ofZ_sub a (b + 1)
  | negSucc a => cases b with
    | ofNat b => exact (ofZ_sub b (a + 1)).trans (add_comm' _ _)
    | negSucc b =>
      show neg (ofN (a + b + 1 + 1)) = add (neg (ofN (a + 1))) (neg (ofN (b + 1)))
      rw [← neg_add', ← ofN_add, show a + b + 1 + 1 = a + 1 + (b + 1) by omega]
theorem ofZ_neg (a : Int) : (ofZ (-a) : K2 n) = neg (ofZ a) := by
  cases a with
  | ofNat a => cases a with
    | zero => exact neg_zero2.symm
    | succ a => rfl
  | negSucc a => exact (neg_neg' _).symm
theorem ofZ_nn (a : Nat) : (ofZ (Int.negOfNat a) : K2 n) = neg (ofN a) := by
  cases a with
  | zero => exact neg_zero2.symm
  | succ a => rfl
theorem ofZ_mul (a b : Int) : (ofZ (a * b) : K2 n) = mul (ofZ a) (ofZ b) := by
  cases a with
  | ofNat a => cases b with
    | ofNat b => exact ofN_mul a b
    | negSucc b =>
      show ofZ (Int.negOfNat (a * (b + 1))) = mul (ofN a) (neg (ofN (b + 1)))
      rw [ofZ_nn, ofN_mul, mul_neg']
  | negSucc a => cases b with
    | ofNat b =>
      show ofZ (Int.negOfNat ((a + 1) * b)) = mul (neg (ofN (a + 1))) (ofN b)
      rw [ofZ_nn, ofN_mul, neg_mul']
    | negSucc b =>
      show ofN ((a + 1) * (b + 1)) = mul (neg (ofN (a + 1))) (neg (ofN (b + 1)))
      rw [ofN_mul, neg_mul', mul_neg', neg_neg']
/-- A term of a ring. -/
inductive Ex where
  | v (i : Nat)
  | c (k : Int)
  | a (x y : Ex)
  | s (x y : Ex)
  | m (x y : Ex)
  | n (x : Ex)
def Ex.ev (vs : List (K2 n)) : Ex → K2 n
  | .v i => vs.getD i zero
  | .c k => ofZ k
  | .a x y => add (x.ev vs) (y.ev vs)
  | .s x y => sub (x.ev vs) (y.ev vs)
  | .m x y => mul (x.ev vs) (y.ev vs)
  | .n x => neg (x.ev vs)
abbrev Mo := List Nat
abbrev Po := List (Mo × Int)
def ppw (a : K2 n) : Nat → K2 n
  | 0 => one
  | k + 1 => mul (ppw a k) a
theorem ppw_add (a : K2 n) (j k : Nat) : ppw a (j + k) = mul (ppw a j) (ppw a k) := by
  induction k with
  | zero => exact (mul_one' _).symm
  | succ k ih =>
    show mul (ppw a (j + k)) a = mul (ppw a j) (mul (ppw a k) a)
    rw [ih, mul_assoc']
def mev (vs : List (K2 n)) (i : Nat) : Mo → K2 n
  | [] => one
  | e :: es => mul (ppw (vs.getD i zero) e) (mev vs (i + 1) es)
def pev (vs : List (K2 n)) : Po → K2 n
  | [] => zero
  | t :: p => add (mul (ofZ t.2) (mev vs 0 t.1)) (pev vs p)
def mmul : Mo → Mo → Mo
  | [], q => q
  | a :: p, [] => a :: p
  | a :: p, b :: q => (a + b) :: mmul p q
theorem mmul_ev (vs : List (K2 n)) : ∀ (p q : Mo) (i : Nat), mev vs i (mmul p q) = mul (mev vs i p) (mev vs i q)
  | [], q, i => (one_mul' _).symm
  | a :: p, [], i => (mul_one' _).symm
  | a :: p, b :: q, i => by
    show mul (ppw _ (a + b)) (mev vs (i + 1) (mmul p q)) = mul (mul _ _) (mul _ _)
    rw [ppw_add, mmul_ev vs p q (i + 1)]
    ac_rfl
/-- Which of two comes first: 0, the first; 1, they are one; 2, the second. -/
def mcmp : Mo → Mo → Nat
  | [], [] => 1
  | [], _ :: _ => 0
  | _ :: _, [] => 2
  | a :: p, b :: q => if Nat.beq a b then mcmp p q else if Nat.ble a b then 0 else 2
theorem mcmp_eq : ∀ {p q : Mo}, mcmp p q = 1 → p = q
  | [], [], _ => rfl
  | [], _ :: _, h => absurd h (by show ¬ (0 : Nat) = 1; decide)
  | _ :: _, [], h => absurd h (by show ¬ (2 : Nat) = 1; decide)
  | a :: p, b :: q, h => by
    unfold mcmp at h
    by_cases hab : Nat.beq a b = true
    · rw [if_pos hab] at h
      rw [Nat.eq_of_beq_eq_true hab, mcmp_eq h]
    · rw [if_neg hab] at h
      split at h <;> exact absurd h (by decide)
def cons (t : Mo × Int) (p : Po) : Po := if t.2 = 0 then p else t :: p
theorem cons_ev (vs : List (K2 n)) (t : Mo × Int) (p : Po) : pev vs (cons t p) = add (mul (ofZ t.2) (mev vs 0 t.1)) (pev vs p) := by
  unfold cons
  split
  · rename_i h
    rw [h, show (ofZ 0 : K2 n) = zero from rfl, zero_mul2, zero_add']
  · rfl
def addq (t : Mo × Int) (p : Po) (ih : Po → Po) : Po → Po
  | [] => t :: p
  | s :: q => match mcmp t.1 s.1 with
    | 0 => t :: ih (s :: q)
    | 1 => cons (t.1, t.2 + s.2) (ih q)
    | _ => s :: addq t p ih q
def addp : Po → Po → Po
  | [], q => q
  | t :: p, q => addq t p (fun r => addp p r) q
theorem addp_nil (q : Po) : addp [] q = q := rfl
theorem addp_c0 (t : Mo × Int) (p : Po) : addp (t :: p) [] = t :: p := rfl
theorem addp_cc (t s : Mo × Int) (p q : Po) : addp (t :: p) (s :: q) = match mcmp t.1 s.1 with
    | 0 => t :: addp p (s :: q)
    | 1 => cons (t.1, t.2 + s.2) (addp p q)
    | _ => s :: addp (t :: p) q := rfl
theorem addp_ev (vs : List (K2 n)) : ∀ (p q : Po), pev vs (addp p q) = add (pev vs p) (pev vs q) := by
  intro p
  induction p with
  | nil => intro q; rw [addp_nil]; exact (zero_add' _).symm
  | cons t p ih =>
    intro q
    induction q with
    | nil => rw [addp_c0]; exact (add_zero' _).symm
    | cons s q ihq =>
      rw [addp_cc]
      split
      · show add _ (pev vs (addp p (s :: q))) = add (add _ _) (pev vs (s :: q))
        rw [ih]; ac_rfl
      · rename_i h
        rw [cons_ev, ih, ofZ_add, add_mul']
        show _ = add (add _ _) (add (mul (ofZ s.2) (mev vs 0 s.1)) _)
        rw [← mcmp_eq h]
        ac_rfl
      · show add _ (pev vs (addp (t :: p) q)) = add (pev vs (t :: p)) (add _ _)
        rw [ihq]; ac_rfl
def mult (t : Mo × Int) : Po → Po
  | [] => []
  | s :: q => (mmul t.1 s.1, t.2 * s.2) :: mult t q
theorem mult_ev (vs : List (K2 n)) (t : Mo × Int) : ∀ q : Po, pev vs (mult t q) = mul (mul (ofZ t.2) (mev vs 0 t.1)) (pev vs q)
  | [] => (mul_zero2 _).symm
  | s :: q => by
    show add (mul (ofZ (t.2 * s.2)) (mev vs 0 (mmul t.1 s.1))) (pev vs (mult t q)) = mul _ (add (mul (ofZ s.2) (mev vs 0 s.1)) (pev vs q))
    rw [mult_ev vs t q, mmul_ev, ofZ_mul, mul_add']
    congr 1
    ac_rfl
def mulp : Po → Po → Po
  | [], _ => []
  | t :: p, q => addp (mult t q) (mulp p q)
theorem mulp_ev (vs : List (K2 n)) : ∀ p q : Po, pev vs (mulp p q) = mul (pev vs p) (pev vs q)
  | [], q => (zero_mul2 _).symm
  | t :: p, q => by
    show pev vs (addp (mult t q) (mulp p q)) = mul (add _ _) _
    rw [addp_ev, mult_ev, mulp_ev vs p q, add_mul']
def negp : Po → Po
  | [] => []
  | t :: p => (t.1, -t.2) :: negp p
theorem negp_ev (vs : List (K2 n)) : ∀ p : Po, pev vs (negp p) = neg (pev vs p)
  | [] => neg_zero2.symm
  | t :: p => by
    show add (mul (ofZ (-t.2)) (mev vs 0 t.1)) (pev vs (negp p)) = neg (add _ _)
    rw [negp_ev vs p, ofZ_neg, neg_mul', neg_add']
def unit : Nat → Mo
  | 0 => [1]
  | i + 1 => 0 :: unit i
theorem unit_ev (vs : List (K2 n)) : ∀ i j : Nat, mev vs j (unit i) = vs.getD (j + i) zero
  | 0, j => by
    show mul (mul one (vs.getD j zero)) one = _
    rw [mul_one', one_mul']; rfl
  | i + 1, j => by
    show mul one (mev vs (j + 1) (unit i)) = _
    rw [one_mul', unit_ev vs i (j + 1), show j + 1 + i = j + (i + 1) by omega]
def nf : Ex → Po
  | .v i => [(unit i, 1)]
  | .c k => cons ([], k) []
  | .a x y => addp (nf x) (nf y)
  | .s x y => addp (nf x) (negp (nf y))
  | .m x y => mulp (nf x) (nf y)
  | .n x => negp (nf x)
theorem nf_ev (vs : List (K2 n)) : ∀ x : Ex, pev vs (nf x) = x.ev vs
  | .v i => by
    show add (mul (ofZ 1) (mev vs 0 (unit i))) zero = vs.getD i zero
    rw [unit_ev, Nat.zero_add, show (ofZ 1 : K2 n) = add zero one from rfl, zero_add', one_mul', add_zero']
  | .c k => by
    show pev vs (cons ([], k) []) = ofZ k
    rw [cons_ev]
    show add (mul (ofZ k) one) zero = ofZ k
    rw [mul_one', add_zero']
  | .a x y => by
    show pev vs (addp (nf x) (nf y)) = add _ _
    rw [addp_ev, nf_ev vs x, nf_ev vs y]
  | .s x y => by
    show pev vs (addp (nf x) (negp (nf y))) = sub _ _
    rw [addp_ev, negp_ev, nf_ev vs x, nf_ev vs y, sub_eq]
  | .m x y => by
    show pev vs (mulp (nf x) (nf y)) = mul _ _
    rw [mulp_ev, nf_ev vs x, nf_ev vs y]
  | .n x => by
    show pev vs (negp (nf x)) = neg _
    rw [negp_ev, nf_ev vs x]
def chk (x y : Ex) : Bool := (addp (nf x) (negp (nf y))).isEmpty
/-- What has one normal form has one value. -/
theorem ring {x y : Ex} (h : chk x y = true) (vs : List (K2 n)) : x.ev vs = y.ev vs := by
  have e : addp (nf x) (negp (nf y)) = [] := List.isEmpty_iff.1 h
  have e2 := addp_ev vs (nf x) (negp (nf y))
  rw [e, negp_ev, nf_ev, nf_ev, ← sub_eq] at e2
  exact sub_zero_eq e2.symm
theorem lin1 {x y c u v : K2 n} (e : sub x y = mul c (sub u v)) (h : u = v) : x = y := by
  subst h
  rw [sub_self', mul_zero2] at e
  exact sub_zero_eq e
theorem lin2 {x y c u v d r s : K2 n} (e : sub x y = add (mul c (sub u v)) (mul d (sub r s))) (h : u = v) (h2 : r = s) : x = y := by
  subst h
  subst h2
  rw [sub_self', sub_self', mul_zero2, mul_zero2, add_zero'] at e
  exact sub_zero_eq e
theorem lin3 {x y c u v d r s g k l : K2 n} (e : sub x y = add (add (mul c (sub u v)) (mul d (sub r s))) (mul g (sub k l))) (h : u = v) (h2 : r = s) (h3 : k = l) : x = y := by
  subst h
  subst h2
  subst h3
  rw [sub_self', sub_self', sub_self', mul_zero2, mul_zero2, mul_zero2, add_zero', add_zero'] at e
  exact sub_zero_eq e
theorem lin4 {x y c u v d r s g k l t w z : K2 n} (e : sub x y = add (add (add (mul c (sub u v)) (mul d (sub r s))) (mul g (sub k l))) (mul t (sub w z))) (h : u = v) (h2 : r = s) (h3 : k = l) (h4 : w = z) : x = y := by
  subst h
  subst h2
  subst h3
  subst h4
  rw [sub_self', sub_self', sub_self', sub_self', mul_zero2, mul_zero2, mul_zero2, mul_zero2, add_zero', add_zero', add_zero'] at e
  exact sub_zero_eq e
theorem ofZ_1 : (ofZ 1 : K2 n) = one := by show add zero one = one; rw [zero_add']
end K2
end Go.Proofs.Ytbpmbdlgmmabcaa.L.Kf
namespace Go.Proofs.Ytbpmbdlgmmabcaa.L.Kf
open Pr
namespace K2
variable {n : Nat} [NeZero n]
attribute [local irreducible] add mul sub neg zero one inv
def q3 (a b : K2 n) : K2 n := add (add (mul a a) (mul a b)) (mul b b)
/-- A slope: of the chord, or of the tangent. -/
structure Sl (l x1 y1 x2 y2 : K2 n) : Prop where
  a : y1 = add y2 (mul l (sub x1 x2))
  b : mul l (add y1 y2) = q3 x1 x2
theorem Sl.symm {l x1 y1 x2 y2 : K2 n} (h : Sl l x1 y1 x2 y2) : Sl l x2 y2 x1 y1 := by
  refine ⟨?_, ?_⟩
  · exact lin1 (ring (x := (.s (.v 3) (.a (.v 1) (.m (.v 4) (.s (.v 2) (.v 0)))))) (y := (.m (.c (-1)) (.s (.v 1) (.a (.v 3) (.m (.v 4) (.s (.v 0) (.v 2))))))) (by decide +kernel) [x1, y1, x2, y2, l]) (h.a)
  · rw [add_comm' y2 y1, h.b]
    exact ring (x := (.a (.a (.m (.v 0) (.v 0)) (.m (.v 0) (.v 1))) (.m (.v 1) (.v 1)))) (y := (.a (.a (.m (.v 1) (.v 1)) (.m (.v 1) (.v 0))) (.m (.v 0) (.v 0)))) (by decide +kernel) [x1, x2]
end K2
end Go.Proofs.Ytbpmbdlgmmabcaa.L.Kf
namespace Go.Proofs.Ytbpmbdlgmmabcaa.L.Kf
open Pr
namespace K2
variable {n : Nat} [NeZero n]
attribute [local irreducible] add mul sub neg zero one inv
theorem curve_alg {y s q1 q2 q3 q4 i2 i4 b : K2 n} (h2 : (mul q2 i2) = ofZ 1) (h4 : (mul q4 i4) = ofZ 1) (hy : (mul y y) = s) (h : (mul (mul q3 q3) (mul s (mul (mul q2 q2) q2))) = (mul (add (mul (mul q1 q1) q1) (mul b (mul (mul q2 q2) q2))) (mul q4 q4))) : (mul (mul y (mul q3 i4)) (mul y (mul q3 i4))) = (add (mul (mul (mul q1 i2) (mul q1 i2)) (mul q1 i2)) b) := lin4 (ring (x := (.s (.m (.m (.v 0) (.m (.v 4) (.v 7))) (.m (.v 0) (.m (.v 4) (.v 7)))) (.a (.m (.m (.m (.v 2) (.v 6)) (.m (.v 2) (.v 6))) (.m (.v 2) (.v 6))) (.v 8)))) (y := (.a (.a (.a (.m (.m (.m (.m (.v 4) (.v 4)) (.v 7)) (.v 7)) (.s (.m (.v 0) (.v 0)) (.v 1))) (.m (.m (.s (.v 8) (.m (.m (.m (.m (.v 1) (.v 4)) (.v 4)) (.v 7)) (.v 7))) (.a (.a (.m (.m (.v 3) (.v 6)) (.m (.v 3) (.v 6))) (.m (.v 3) (.v 6))) (.c 1))) (.s (.m (.v 3) (.v 6)) (.c 1)))) (.m (.m (.a (.m (.m (.m (.m (.m (.v 2) (.v 2)) (.v 2)) (.v 6)) (.v 6)) (.v 6)) (.m (.m (.m (.v 8) (.m (.v 3) (.v 6))) (.m (.v 3) (.v 6))) (.m (.v 3) (.v 6)))) (.a (.m (.v 5) (.v 7)) (.c 1))) (.s (.m (.v 5) (.v 7)) (.c 1)))) (.m (.m (.m (.m (.m (.v 6) (.v 6)) (.v 6)) (.v 7)) (.v 7)) (.s (.m (.m (.v 4) (.v 4)) (.m (.v 1) (.m (.m (.v 3) (.v 3)) (.v 3)))) (.m (.a (.m (.m (.v 2) (.v 2)) (.v 2)) (.m (.v 8) (.m (.m (.v 3) (.v 3)) (.v 3)))) (.m (.v 5) (.v 5))))))) (by decide +kernel) [y, s, q1, q2, q3, q4, i2, i4, b]) (hy) (h2) (h4) (h)
def fA (c a b : K2 n) : K2 n := (add (add (add (add (mul a a) (mul a b)) (mul b b)) (mul (mul (mul (mul (ofZ 9) c) c) c) (add a b))) (mul (mul (ofZ 12) c) c))
/-- A slope of the moved third curve. -/
structure SlM (c l X1 y1 X2 y2 : K2 n) : Prop where
  a : y1 = add y2 (mul l (sub X1 X2))
  b : mul l (add y1 y2) = fA c X1 X2
/-- A slope of the third curve. -/
structure SlT (t l x1 y1 x2 y2 : K2 n) : Prop where
  a : y1 = add y2 (mul l (sub x1 x2))
  b : mul l (add y1 y2) = add (q3 x1 x2) t
theorem SlT.m {x1 y1 x2 y2 l g c a : K2 n} (hg : g = (mul (mul (mul (ofZ 3) c) c) c)) (ha : a = (sub (mul (mul (ofZ 12) c) c) (mul (mul (mul (mul (mul (mul (ofZ 27) c) c) c) c) c) c))) (h : SlT a l x1 y1 x2 y2) : SlM c l (sub x1 g) y1 (sub x2 g) y2 := by
  obtain ⟨rfl, hsb⟩ := h
  exact ⟨ring (x := (.a (.v 2) (.m (.v 3) (.s (.v 0) (.v 1))))) (y := (.a (.v 2) (.m (.v 3) (.s (.s (.v 0) (.v 4)) (.s (.v 1) (.v 4)))))) (by decide +kernel) [x1, x2, y2, l, g, c, a], lin3 (ring (x := (.s (.m (.v 3) (.a (.a (.v 2) (.m (.v 3) (.s (.v 0) (.v 1)))) (.v 2))) (.a (.a (.a (.a (.m (.s (.v 0) (.v 4)) (.s (.v 0) (.v 4))) (.m (.s (.v 0) (.v 4)) (.s (.v 1) (.v 4)))) (.m (.s (.v 1) (.v 4)) (.s (.v 1) (.v 4)))) (.m (.m (.m (.m (.c 9) (.v 5)) (.v 5)) (.v 5)) (.a (.s (.v 0) (.v 4)) (.s (.v 1) (.v 4))))) (.m (.m (.c 12) (.v 5)) (.v 5))))) (y := (.a (.a (.m (.c 1) (.s (.m (.v 3) (.a (.a (.v 2) (.m (.v 3) (.s (.v 0) (.v 1)))) (.v 2))) (.a (.a (.a (.m (.v 0) (.v 0)) (.m (.v 0) (.v 1))) (.m (.v 1) (.v 1))) (.v 6)))) (.m (.a (.m (.m (.m (.c 9) (.v 5)) (.v 5)) (.v 5)) (.a (.m (.c (-3)) (.v 4)) (.a (.m (.c 3) (.v 1)) (.m (.c 3) (.v 0))))) (.s (.v 4) (.m (.m (.m (.c 3) (.v 5)) (.v 5)) (.v 5))))) (.m (.c 1) (.s (.v 6) (.s (.m (.m (.c 12) (.v 5)) (.v 5)) (.m (.m (.m (.m (.m (.m (.c 27) (.v 5)) (.v 5)) (.v 5)) (.v 5)) (.v 5)) (.v 5))))))) (by decide +kernel) [x1, x2, y2, l, g, c, a]) (hsb) (hg) (ha)⟩
theorem Sl.scale {k z1 w1 z2 w2 s s2 s3 : K2 n} (h2 : (mul s s) = s2) (h3 : (mul s s2) = s3) (h : Sl k z1 w1 z2 w2) : Sl (mul s k) (mul s2 z1) (mul s3 w1) (mul s2 z2) (mul s3 w2) := ⟨lin2 (ring (x := (.s (.m (.v 7) (.v 2)) (.a (.m (.v 7) (.v 4)) (.m (.m (.v 5) (.v 0)) (.s (.m (.v 6) (.v 1)) (.m (.v 6) (.v 3))))))) (y := (.a (.m (.v 7) (.s (.v 2) (.a (.v 4) (.m (.v 0) (.s (.v 1) (.v 3)))))) (.m (.n (.m (.v 0) (.s (.v 1) (.v 3)))) (.s (.m (.v 5) (.v 6)) (.v 7))))) (by decide +kernel) [k, z1, w1, z2, w2, s, s2, s3]) (h.a) (h3), lin3 (ring (x := (.s (.m (.m (.v 5) (.v 0)) (.a (.m (.v 7) (.v 2)) (.m (.v 7) (.v 4)))) (.a (.a (.m (.m (.v 6) (.v 1)) (.m (.v 6) (.v 1))) (.m (.m (.v 6) (.v 1)) (.m (.v 6) (.v 3)))) (.m (.m (.v 6) (.v 3)) (.m (.v 6) (.v 3)))))) (y := (.a (.a (.m (.m (.v 5) (.v 7)) (.s (.m (.v 0) (.a (.v 2) (.v 4))) (.a (.a (.m (.v 1) (.v 1)) (.m (.v 1) (.v 3))) (.m (.v 3) (.v 3))))) (.m (.n (.m (.v 5) (.a (.a (.m (.v 1) (.v 1)) (.m (.v 1) (.v 3))) (.m (.v 3) (.v 3))))) (.s (.m (.v 5) (.v 6)) (.v 7)))) (.m (.m (.v 6) (.a (.a (.m (.v 1) (.v 1)) (.m (.v 1) (.v 3))) (.m (.v 3) (.v 3)))) (.s (.m (.v 5) (.v 5)) (.v 6))))) (by decide +kernel) [k, z1, w1, z2, w2, s, s2, s3]) (h.b) (h3) (h2)⟩
end K2
end Go.Proofs.Ytbpmbdlgmmabcaa.L.Kf
