/- What the proof of the statement about H2cParts stands on, part D. Conditions: as each statement says. -/
import Derived.Test.YtbpmbdlgmmabcaaH2cPartsC
import Derived.Below
import Derived.KernelRfl
import Derived.Laws.Externs
import Derived.Laws.Strings
import Derived.Laws.StructEq
import Derived.Orders
import Derived.Scope
import Derived.Tactics
import Derived.Test.YtbpmbdlgmmabcaaProg
import Derived.WalkKit
namespace Go.Proofs.Ytbpmbdlgmmabcaa.L.Kf
open Pr
namespace K2
variable {n : Nat} [NeZero n]
attribute [local irreducible] add mul sub neg zero one inv
def jx (x z : K2 n) : K2 n := mul x (mul (inv z) (inv z))
def jy (y z : K2 n) : K2 n := mul y (mul (mul (inv z) (inv z)) (inv z))
def jp (x y z : K2 n) : Pt n := if z = zero then none else some (jx x z, jy y z)
theorem jp_0 (x y : K2 n) : jp x y zero = none := if_pos rfl
theorem jp_z {x y z : K2 n} (h : z = zero) : jp x y z = none := if_pos h
theorem jp_n {x y z : K2 n} (h : z ≠ zero) : jp x y z = some (jx x z, jy y z) := if_neg h
def td0 (x y : K2 n) : K2 n := mul x (mul y y)
def td1 (x y : K2 n) : K2 n := add (td0 x y) (td0 x y)
def td (x y : K2 n) : K2 n := add (td1 x y) (td1 x y)
def te (x : K2 n) : K2 n := add (add (mul x x) (mul x x)) (mul x x)
def tX (x y : K2 n) : K2 n := sub (mul (te x) (te x)) (add (td x y) (td x y))
def tc (y : K2 n) : Nat → K2 n
  | 0 => mul (mul y y) (mul y y)
  | k + 1 => add (tc y k) (tc y k)
def tY (x y : K2 n) : K2 n := sub (mul (te x) (sub (td x y) (tX x y))) (tc y 3)
def tZ (y z : K2 n) : K2 n := add (mul y z) (mul y z)
theorem one_sq (hp : P3 n) (x y : K2 n) : jp x y one = some (x, y) := by
  have h1 := one_ne2 hp
  have hi : inv (one : K2 n) = one := by
    have := inv_mul2 hp h1
    rwa [mul_one'] at this
  rw [jp_n h1, jx, jy, hi, mul_one', mul_one', mul_one', mul_one']
theorem tw_b {x y i j : K2 n} (hk : mul (add y y) j = i) : mul (mul (te x) j) (add (mul y (mul (mul i i) i)) (mul y (mul (mul i i) i))) = q3 (mul x (mul i i)) (mul x (mul i i)) := lin1 (ring (x := (.s (.m (.m (.a (.a (.m (.v 0) (.v 0)) (.m (.v 0) (.v 0))) (.m (.v 0) (.v 0))) (.v 3)) (.a (.m (.v 1) (.m (.m (.v 2) (.v 2)) (.v 2))) (.m (.v 1) (.m (.m (.v 2) (.v 2)) (.v 2))))) (.a (.a (.m (.m (.v 0) (.m (.v 2) (.v 2))) (.m (.v 0) (.m (.v 2) (.v 2)))) (.m (.m (.v 0) (.m (.v 2) (.v 2))) (.m (.v 0) (.m (.v 2) (.v 2))))) (.m (.m (.v 0) (.m (.v 2) (.v 2))) (.m (.v 0) (.m (.v 2) (.v 2))))))) (y := (.m (.m (.m (.m (.m (.m (.c 3) (.v 0)) (.v 0)) (.v 2)) (.v 2)) (.v 2)) (.s (.m (.a (.v 1) (.v 1)) (.v 3)) (.v 2)))) (by decide +kernel) [x, y, i, j]) (hk)
theorem tw_x {x y i j : K2 n} (hk : mul (add y y) j = i) : cx (mul (te x) j) (mul x (mul i i)) (mul x (mul i i)) = mul (tX x y) (mul j j) := lin1 (ring (x := (.s (.s (.s (.m (.m (.a (.a (.m (.v 0) (.v 0)) (.m (.v 0) (.v 0))) (.m (.v 0) (.v 0))) (.v 3)) (.m (.a (.a (.m (.v 0) (.v 0)) (.m (.v 0) (.v 0))) (.m (.v 0) (.v 0))) (.v 3))) (.m (.v 0) (.m (.v 2) (.v 2)))) (.m (.v 0) (.m (.v 2) (.v 2)))) (.m (.s (.m (.a (.a (.m (.v 0) (.v 0)) (.m (.v 0) (.v 0))) (.m (.v 0) (.v 0))) (.a (.a (.m (.v 0) (.v 0)) (.m (.v 0) (.v 0))) (.m (.v 0) (.v 0)))) (.a (.a (.a (.m (.v 0) (.m (.v 1) (.v 1))) (.m (.v 0) (.m (.v 1) (.v 1)))) (.a (.m (.v 0) (.m (.v 1) (.v 1))) (.m (.v 0) (.m (.v 1) (.v 1))))) (.a (.a (.m (.v 0) (.m (.v 1) (.v 1))) (.m (.v 0) (.m (.v 1) (.v 1)))) (.a (.m (.v 0) (.m (.v 1) (.v 1))) (.m (.v 0) (.m (.v 1) (.v 1))))))) (.m (.v 3) (.v 3))))) (y := (.m (.a (.m (.m (.m (.c 4) (.v 0)) (.v 1)) (.v 3)) (.m (.m (.c 2) (.v 0)) (.v 2))) (.s (.m (.a (.v 1) (.v 1)) (.v 3)) (.v 2)))) (by decide +kernel) [x, y, i, j]) (hk)
theorem tw_y {x y i j : K2 n} (hk : mul (add y y) j = i) : cy (mul (te x) j) (mul x (mul i i)) (mul y (mul (mul i i) i)) (mul x (mul i i)) = mul (tY x y) (mul (mul j j) j) := lin1 (ring (x := (.s (.s (.m (.m (.a (.a (.m (.v 0) (.v 0)) (.m (.v 0) (.v 0))) (.m (.v 0) (.v 0))) (.v 3)) (.s (.m (.v 0) (.m (.v 2) (.v 2))) (.s (.s (.m (.m (.a (.a (.m (.v 0) (.v 0)) (.m (.v 0) (.v 0))) (.m (.v 0) (.v 0))) (.v 3)) (.m (.a (.a (.m (.v 0) (.v 0)) (.m (.v 0) (.v 0))) (.m (.v 0) (.v 0))) (.v 3))) (.m (.v 0) (.m (.v 2) (.v 2)))) (.m (.v 0) (.m (.v 2) (.v 2)))))) (.m (.v 1) (.m (.m (.v 2) (.v 2)) (.v 2)))) (.m (.s (.m (.a (.a (.m (.v 0) (.v 0)) (.m (.v 0) (.v 0))) (.m (.v 0) (.v 0))) (.s (.a (.a (.m (.v 0) (.m (.v 1) (.v 1))) (.m (.v 0) (.m (.v 1) (.v 1)))) (.a (.m (.v 0) (.m (.v 1) (.v 1))) (.m (.v 0) (.m (.v 1) (.v 1))))) (.s (.m (.a (.a (.m (.v 0) (.v 0)) (.m (.v 0) (.v 0))) (.m (.v 0) (.v 0))) (.a (.a (.m (.v 0) (.v 0)) (.m (.v 0) (.v 0))) (.m (.v 0) (.v 0)))) (.a (.a (.a (.m (.v 0) (.m (.v 1) (.v 1))) (.m (.v 0) (.m (.v 1) (.v 1)))) (.a (.m (.v 0) (.m (.v 1) (.v 1))) (.m (.v 0) (.m (.v 1) (.v 1))))) (.a (.a (.m (.v 0) (.m (.v 1) (.v 1))) (.m (.v 0) (.m (.v 1) (.v 1)))) (.a (.m (.v 0) (.m (.v 1) (.v 1))) (.m (.v 0) (.m (.v 1) (.v 1))))))))) (.a (.a (.a (.m (.m (.v 1) (.v 1)) (.m (.v 1) (.v 1))) (.m (.m (.v 1) (.v 1)) (.m (.v 1) (.v 1)))) (.a (.m (.m (.v 1) (.v 1)) (.m (.v 1) (.v 1))) (.m (.m (.v 1) (.v 1)) (.m (.v 1) (.v 1))))) (.a (.a (.m (.m (.v 1) (.v 1)) (.m (.v 1) (.v 1))) (.m (.m (.v 1) (.v 1)) (.m (.v 1) (.v 1)))) (.a (.m (.m (.v 1) (.v 1)) (.m (.v 1) (.v 1))) (.m (.m (.v 1) (.v 1)) (.m (.v 1) (.v 1))))))) (.m (.m (.v 3) (.v 3)) (.v 3))))) (y := (.m (.a (.m (.a (.m (.m (.a (.m (.m (.c 4) (.v 1)) (.v 1)) (.m (.m (.m (.c (-18)) (.v 0)) (.v 0)) (.v 0))) (.v 1)) (.v 3)) (.m (.a (.m (.m (.c 2) (.v 1)) (.v 1)) (.m (.m (.m (.c (-9)) (.v 0)) (.v 0)) (.v 0))) (.v 2))) (.v 3)) (.m (.m (.m (.c 1) (.v 1)) (.v 2)) (.v 2))) (.s (.m (.a (.v 1) (.v 1)) (.v 3)) (.v 2)))) (by decide +kernel) [x, y, i, j]) (hk)
theorem tw_k {y z i j : K2 n} (hi : mul z i = ofZ 1) (hj : mul (tZ y z) j = ofZ 1) : mul (add y y) j = i := lin2 (ring (x := (.s (.m (.a (.v 1) (.v 1)) (.v 4)) (.v 3))) (y := (.a (.m (.n (.m (.a (.v 1) (.v 1)) (.v 4))) (.s (.m (.v 2) (.v 3)) (.c 1))) (.m (.v 3) (.s (.m (.a (.m (.v 1) (.v 2)) (.m (.v 1) (.v 2))) (.v 4)) (.c 1))))) (by decide +kernel) [y, y, z, i, j]) (hi) (hj)
theorem jp_twice (hp : P3 n) {b : K2 n} (h2 : No2 b) {x y z : K2 n} (ho : Onc b (jp x y z)) : jp (tX x y) (tY x y) (tZ y z) = pa (jp x y z) (jp x y z) := by
  by_cases hz : z = zero
  · rw [jp_z hz, jp_z (by rw [hz, tZ, mul_zero2, add_zero'])]; rfl
  · rw [jp_n hz] at ho ⊢
    have hy := y_ne h2 (onc_some ho)
    have hy0 : y ≠ zero := fun e => hy (by rw [jy, e, zero_mul2])
    have hZ : tZ y z ≠ zero := dbl_ne hp (mul_ne hp hy0 hz)
    rw [jp_n hZ]
    have hi := (mul_inv2 hp hz).trans ofZ_1.symm
    have hj := (mul_inv2 hp hZ).trans ofZ_1.symm
    have hk := tw_k hi hj
    have hd := dbl_ne hp hy
    rw [jx, jx, jy, jy] at *
    generalize inv (tZ y z) = j at *
    generalize inv z = i at *
    have hS : Sl (mul (te x) j) (mul x (mul i i)) (mul y (mul (mul i i) i)) (mul x (mul i i)) (mul y (mul (mul i i) i)) := ⟨by rw [sub_self', mul_zero2, add_zero'], tw_b hk⟩
    rw [pa_sl hp hS (.inr hd), tw_x hk, tw_y hk]
def pH (x z qx : K2 n) : K2 n := sub (mul qx (mul z z)) x
def pR (y z qy : K2 n) : K2 n := sub (mul qy (mul (mul z z) z)) y
def pV (x h : K2 n) : K2 n := mul x (mul h h)
def pX (x h r : K2 n) : K2 n := sub (sub (mul r r) (mul (mul h h) h)) (add (pV x h) (pV x h))
def pY (x y h r : K2 n) : K2 n := sub (mul r (sub (pV x h) (pX x h r))) (mul y (mul (mul h h) h))
theorem pl_l {x y h r i j : K2 n} (hk : mul h j = i) : mul (mul r j) (sub (mul (add x h) (mul i i)) (mul x (mul i i))) = sub (mul (add y r) (mul (mul i i) i)) (mul y (mul (mul i i) i)) := lin1 (ring (x := (.s (.m (.m (.v 3) (.v 5)) (.s (.m (.a (.v 0) (.v 2)) (.m (.v 4) (.v 4))) (.m (.v 0) (.m (.v 4) (.v 4))))) (.s (.m (.a (.v 1) (.v 3)) (.m (.m (.v 4) (.v 4)) (.v 4))) (.m (.v 1) (.m (.m (.v 4) (.v 4)) (.v 4)))))) (y := (.m (.m (.m (.m (.c 1) (.v 3)) (.v 4)) (.v 4)) (.s (.m (.v 2) (.v 5)) (.v 4)))) (by decide +kernel) [x, y, h, r, i, j]) (hk)
theorem pl_x {x h r i j : K2 n} (hk : mul h j = i) : cx (mul r j) (mul x (mul i i)) (mul (add x h) (mul i i)) = mul (pX x h r) (mul j j) := lin1 (ring (x := (.s (.s (.s (.m (.m (.v 3) (.v 5)) (.m (.v 3) (.v 5))) (.m (.v 0) (.m (.v 4) (.v 4)))) (.m (.a (.v 0) (.v 2)) (.m (.v 4) (.v 4)))) (.m (.s (.s (.m (.v 3) (.v 3)) (.m (.m (.v 2) (.v 2)) (.v 2))) (.a (.m (.v 0) (.m (.v 2) (.v 2))) (.m (.v 0) (.m (.v 2) (.v 2))))) (.m (.v 5) (.v 5))))) (y := (.m (.a (.m (.m (.a (.m (.c 1) (.v 2)) (.m (.c 2) (.v 0))) (.v 2)) (.v 5)) (.m (.a (.m (.c 1) (.v 2)) (.m (.c 2) (.v 0))) (.v 4))) (.s (.m (.v 2) (.v 5)) (.v 4)))) (by decide +kernel) [x, x, h, r, i, j]) (hk)
theorem pl_y {x y h r i j : K2 n} (hk : mul h j = i) : cy (mul r j) (mul x (mul i i)) (mul y (mul (mul i i) i)) (mul (add x h) (mul i i)) = mul (pY x y h r) (mul (mul j j) j) := lin1 (ring (x := (.s (.s (.m (.m (.v 3) (.v 5)) (.s (.m (.v 0) (.m (.v 4) (.v 4))) (.s (.s (.m (.m (.v 3) (.v 5)) (.m (.v 3) (.v 5))) (.m (.v 0) (.m (.v 4) (.v 4)))) (.m (.a (.v 0) (.v 2)) (.m (.v 4) (.v 4)))))) (.m (.v 1) (.m (.m (.v 4) (.v 4)) (.v 4)))) (.m (.s (.m (.v 3) (.s (.m (.v 0) (.m (.v 2) (.v 2))) (.s (.s (.m (.v 3) (.v 3)) (.m (.m (.v 2) (.v 2)) (.v 2))) (.a (.m (.v 0) (.m (.v 2) (.v 2))) (.m (.v 0) (.m (.v 2) (.v 2))))))) (.m (.v 1) (.m (.m (.v 2) (.v 2)) (.v 2)))) (.m (.m (.v 5) (.v 5)) (.v 5))))) (y := (.m (.a (.m (.a (.m (.a (.m (.m (.a (.m (.c (-1)) (.v 2)) (.m (.c (-3)) (.v 0))) (.v 2)) (.v 3)) (.m (.m (.m (.c 1) (.v 1)) (.v 2)) (.v 2))) (.v 5)) (.m (.a (.m (.a (.m (.c (-1)) (.v 2)) (.m (.c (-3)) (.v 0))) (.v 3)) (.m (.m (.c 1) (.v 1)) (.v 2))) (.v 4))) (.v 5)) (.m (.m (.m (.c 1) (.v 1)) (.v 4)) (.v 4))) (.s (.m (.v 2) (.v 5)) (.v 4)))) (by decide +kernel) [x, y, h, r, i, j]) (hk)
theorem pl_qx {q z x i : K2 n} (hi : mul z i = ofZ 1) : q = mul (add x (pH x z q)) (mul i i) := lin1 (ring (x := (.s (.v 0) (.m (.a (.v 2) (.s (.m (.v 0) (.m (.v 1) (.v 1))) (.v 2))) (.m (.v 3) (.v 3))))) (y := (.m (.n (.m (.v 0) (.a (.m (.v 1) (.v 3)) (.c 1)))) (.s (.m (.v 1) (.v 3)) (.c 1)))) (by decide +kernel) [q, z, x, i]) (hi)
theorem pl_qy {q z x i : K2 n} (hi : mul z i = ofZ 1) : q = mul (add x (pR x z q)) (mul (mul i i) i) := lin1 (ring (x := (.s (.v 0) (.m (.a (.v 2) (.s (.m (.v 0) (.m (.m (.v 1) (.v 1)) (.v 1))) (.v 2))) (.m (.m (.v 3) (.v 3)) (.v 3))))) (y := (.m (.n (.m (.v 0) (.a (.a (.m (.m (.v 1) (.v 3)) (.m (.v 1) (.v 3))) (.m (.v 1) (.v 3))) (.c 1)))) (.s (.m (.v 1) (.v 3)) (.c 1)))) (by decide +kernel) [q, z, x, i]) (hi)
theorem pl_k {z i h j : K2 n} (hi : mul z i = ofZ 1) (hj : mul (mul z h) j = ofZ 1) : mul h j = i := lin2 (ring (x := (.s (.m (.v 4) (.v 5)) (.v 3))) (y := (.a (.m (.n (.m (.v 4) (.v 5))) (.s (.m (.v 1) (.v 3)) (.c 1))) (.m (.v 3) (.s (.m (.m (.v 1) (.v 4)) (.v 5)) (.c 1))))) (by decide +kernel) [z, z, z, i, h, j]) (hi) (hj)
theorem pl_h0 {q z x i : K2 n} (hi : mul z i = ofZ 1) (e : mul x (mul i i) = q) : pH x z q = zero := by
  rw [← ofZ_0]
  exact lin2 (ring (x := (.s (.s (.m (.v 0) (.m (.v 1) (.v 1))) (.v 2)) (.c 0))) (y := (.a (.m (.n (.m (.v 1) (.v 1))) (.s (.m (.v 2) (.m (.v 3) (.v 3))) (.v 0))) (.m (.m (.v 2) (.a (.m (.v 1) (.v 3)) (.c 1))) (.s (.m (.v 1) (.v 3)) (.c 1))))) (by decide +kernel) [q, z, x, i]) (e) (hi)
theorem pl_r0 {q z x i : K2 n} (hi : mul z i = ofZ 1) (e : mul x (mul (mul i i) i) = q) : pR x z q = zero := by
  rw [← ofZ_0]
  exact lin2 (ring (x := (.s (.s (.m (.v 0) (.m (.m (.v 1) (.v 1)) (.v 1))) (.v 2)) (.c 0))) (y := (.a (.m (.n (.m (.m (.v 1) (.v 1)) (.v 1))) (.s (.m (.v 2) (.m (.m (.v 3) (.v 3)) (.v 3))) (.v 0))) (.m (.m (.v 2) (.a (.a (.m (.m (.v 1) (.v 3)) (.m (.v 1) (.v 3))) (.m (.v 1) (.v 3))) (.c 1))) (.s (.m (.v 1) (.v 3)) (.c 1))))) (by decide +kernel) [q, z, x, i]) (e) (hi)
theorem jp_plus (hp : P3 n) {x y z qx qy : K2 n} (hz : z ≠ zero) (hh : pH x z qx ≠ zero) :
    jp (pX x (pH x z qx) (pR y z qy)) (pY x y (pH x z qx) (pR y z qy)) (mul z (pH x z qx)) = pa (jp x y z) (some (qx, qy)) := by
  have hZ := mul_ne hp hz hh
  rw [jp_n hZ, jp_n hz]
  have hi := (mul_inv2 hp hz).trans ofZ_1.symm
  have hj := (mul_inv2 hp hZ).trans ofZ_1.symm
  have hk := pl_k hi hj
  have e1 := pl_qx (q := qx) (x := x) hi
  have e2 := pl_qy (q := qy) (x := y) hi
  have hne : mul x (mul (inv z) (inv z)) ≠ qx := fun e => hh (pl_h0 hi e)
  rw [jx, jx, jy, jy]
  generalize inv (mul z (pH x z qx)) = j at *
  generalize inv z = i at *
  generalize pH x z qx = h at *
  generalize pR y z qy = r at *
  subst e1
  subst e2
  have hc : chor (mul x (mul i i)) (mul y (mul (mul i i) i)) (mul (add x h) (mul i i)) (mul (add y r) (mul (mul i i) i)) = mul r j :=
    div_eq hp (fun e => hne (sub_zero_eq e).symm) (pl_l hk)
  show _ = (if mul x (mul i i) = mul (add x h) (mul i i) then _ else _)
  rw [if_neg hne, hc, pl_x hk, pl_y hk]
theorem pa_ne {x1 y1 x2 y2 : K2 n} (hx : x1 = x2) (hy : y1 ≠ y2) : pa (some (x1, y1)) (some (x2, y2)) = none := by
  show (if x1 = x2 then if y1 = y2 ∧ y1 ≠ zero then _ else _ else _) = _
  rw [if_pos hx, if_neg fun h => hy h.1]
theorem jp_plus_0 {x y z qx qy : K2 n} (hp : P3 n) (hz : z ≠ zero) (hh : pH x z qx = zero) (hr : pR y z qy ≠ zero) : pa (jp x y z) (some (qx, qy)) = none := by
  rw [jp_n hz]
  have hi := (mul_inv2 hp hz).trans ofZ_1.symm
  have hne : mul y (mul (mul (inv z) (inv z)) (inv z)) ≠ qy := fun e => hr (pl_r0 hi e)
  have e1 := pl_qx (q := qx) (x := x) hi
  rw [hh, add_zero'] at e1
  exact pa_ne e1.symm hne
theorem jp_plus_2 {x y z qx qy : K2 n} (hp : P3 n) (hz : z ≠ zero) (hh : pH x z qx = zero) (hr : pR y z qy = zero) : (some (qx, qy) : Pt n) = jp x y z := by
  have hi := (mul_inv2 hp hz).trans ofZ_1.symm
  have e1 := pl_qx (q := qx) (x := x) hi
  have e2 := pl_qy (q := qy) (x := y) hi
  rw [hh, add_zero'] at e1
  rw [hr, add_zero'] at e2
  rw [jp_n hz]
  exact some_pair e1 e2
def tim (q : Pt n) : Nat → Pt n
  | 0 => none
  | k + 1 => pa (tim q k) q
theorem Onc_tim (hp : P3 n) {b : K2 n} {q : Pt n} (hq : Onc b q) (k : Nat) : Onc b (tim q k) := by
  induction k with
  | zero => trivial
  | succ k ih => exact Onc_pa hp ih hq
variable (hp : P3 n) {b : K2 n} (h2 : No2 b)
include hp h2
theorem tim_add {q : Pt n} (hq : Onc b q) (j k : Nat) : tim q (j + k) = pa (tim q j) (tim q k) := by
  induction k with
  | zero => exact (pa_none_right _).symm
  | succ k ih =>
    show pa (tim q (j + k)) q = pa (tim q j) (pa (tim q k) q)
    rw [ih, pa_assoc hp h2 (Onc_tim hp hq j) (Onc_tim hp hq k) hq]
omit hp h2 in
theorem tim_none (k : Nat) : tim (none : Pt n) k = none := by
  induction k with
  | zero => rfl
  | succ k ih => show pa (tim none k) none = none; rw [ih]; rfl
end K2
end Go.Proofs.Ytbpmbdlgmmabcaa.L.Kf
namespace Go.Proofs.Ytbpmbdlgmmabcaa.L.Kf
open Pr
namespace K2
abbrev PN := Nat × Nat
def addP (N : Nat) (x y : PN) : PN := ((x.1 + y.1) % N, (x.2 + y.2) % N)
def subP (N : Nat) (x y : PN) : PN := ((x.1 + (N - y.1 % N)) % N, (x.2 + (N - y.2 % N)) % N)
def mulP (N : Nat) (x y : PN) : PN := ((x.1 * y.1 + x.2 * (N - y.2 % N)) % N, (x.1 * y.2 + x.2 * y.1) % N)
section
variable {n : Nat} [NeZero n]
def red (n : Nat) [NeZero n] (x : PN) : K2 n := ⟨κ n x.1, κ n x.2⟩
variable {N : Nat} (hN : n ∣ N) (h0 : 0 < N)
include hN
theorem κ_modN (a : Nat) : κ n (a % N) = κ n a := by
  rw [κ_eq]; exact Nat.mod_mod_of_dvd a hN
include h0
theorem κ_subN (a : Nat) : κ n (N - a % N) = -κ n a := by
  have h1 : κ n N = 0 := dvd_zero.2 hN
  rw [κ_sub (Nat.le_of_lt (Nat.mod_lt a h0)), h1, κ_modN hN]
  grind
omit h0 in
theorem red_add (x y : PN) : red n (addP N x y) = add (red n x) (red n y) := by
  refine ext' ?_ ?_
  · show κ n ((x.1 + y.1) % N) = κ n x.1 + κ n y.1
    rw [κ_modN hN, κ_add]
  · show κ n ((x.2 + y.2) % N) = κ n x.2 + κ n y.2
    rw [κ_modN hN, κ_add]
theorem red_sub (x y : PN) : red n (subP N x y) = sub (red n x) (red n y) := by
  refine ext' ?_ ?_
  · show κ n ((x.1 + (N - y.1 % N)) % N) = κ n x.1 - κ n y.1
    rw [κ_modN hN, κ_add, κ_subN hN h0]; grind
  · show κ n ((x.2 + (N - y.2 % N)) % N) = κ n x.2 - κ n y.2
    rw [κ_modN hN, κ_add, κ_subN hN h0]; grind
theorem red_mul (x y : PN) : red n (mulP N x y) = mul (red n x) (red n y) := by
  refine ext' ?_ ?_
  · show κ n ((x.1 * y.1 + x.2 * (N - y.2 % N)) % N) = κ n x.1 * κ n y.1 - κ n x.2 * κ n y.2
    rw [κ_modN hN, κ_add, κ_mul, κ_mul, κ_subN hN h0]; grind
  · show κ n ((x.1 * y.2 + x.2 * y.1) % N) = κ n x.1 * κ n y.2 + κ n x.2 * κ n y.1
    rw [κ_modN hN, κ_add, κ_mul, κ_mul]
end
def ltP (N : Nat) (x : PN) : Prop := x.1 < N ∧ x.2 < N
theorem lt_add {N : Nat} (h0 : 0 < N) (x y : PN) : ltP N (addP N x y) := ⟨Nat.mod_lt _ h0, Nat.mod_lt _ h0⟩
theorem lt_sub {N : Nat} (h0 : 0 < N) (x y : PN) : ltP N (subP N x y) := ⟨Nat.mod_lt _ h0, Nat.mod_lt _ h0⟩
theorem lt_mul {N : Nat} (h0 : 0 < N) (x y : PN) : ltP N (mulP N x y) := ⟨Nat.mod_lt _ h0, Nat.mod_lt _ h0⟩
def isz (x : PN) : Bool := Nat.beq (x.1 + x.2) 0
theorem isz_iff {n : Nat} [NeZero n] {x : PN} (h : ltP n x) : isz x = true ↔ red n x = zero := by
  constructor
  · intro e
    have := Nat.eq_of_beq_eq_true e
    exact ext' (by show κ n x.1 = 0; rw [show x.1 = 0 by omega, κ_0]) (by show κ n x.2 = 0; rw [show x.2 = 0 by omega, κ_0])
  · intro e
    have e1 : κ n x.1 = 0 := congrArg re e
    have e2 : κ n x.2 = 0 := congrArg im e
    rw [dvd_zero] at e1 e2
    have a1 := Nat.eq_zero_of_dvd_of_lt e1 h.1
    have a2 := Nat.eq_zero_of_dvd_of_lt e2 h.2
    show Nat.beq (x.1 + x.2) 0 = true
    rw [a1, a2]; rfl
structure St where
  g : Bool
  x : PN
  y : PN
  z : PN
def oneP : PN := (1, 0)
def zerP : PN := (0, 0)
def dblS (N : Nat) (S : St) : St :=
  let yy := mulP N S.y S.y
  let d0 := mulP N S.x yy
  let d1 := addP N d0 d0
  let d := addP N d1 d1
  let xx := mulP N S.x S.x
  let e := addP N (addP N xx xx) xx
  let X := subP N (mulP N e e) (addP N d d)
  let c0 := mulP N yy yy
  let c1 := addP N c0 c0
  let c2 := addP N c1 c1
  let yz := mulP N S.y S.z
  ⟨S.g, X, subP N (mulP N e (subP N d X)) (addP N c2 c2), addP N yz yz⟩
def plH (N : Nat) (S : St) (qx : PN) : PN := subP N (mulP N qx (mulP N S.z S.z)) S.x
def plR (N : Nat) (S : St) (qy : PN) : PN := subP N (mulP N qy (mulP N (mulP N S.z S.z) S.z)) S.y
def plG (N : Nat) (S : St) (h r : PN) : St :=
  let hh := mulP N h h
  let hhh := mulP N hh h
  let v := mulP N S.x hh
  let X := subP N (subP N (mulP N r r) hhh) (addP N v v)
  ⟨S.g, X, subP N (mulP N r (subP N v X)) (mulP N S.y hhh), mulP N S.z h⟩
def plsS (N : Nat) (S : St) (qx qy : PN) : St :=
  cond (isz S.z) ⟨S.g, qx, qy, oneP⟩
    (cond (isz (plH N S qx)) (cond (isz (plR N S qy)) ⟨false, zerP, zerP, zerP⟩ ⟨S.g, zerP, zerP, zerP⟩)
      (plG N S (plH N S qx) (plR N S qy)))
def force {α : Type} (T : St) (a : α) : α := cond (Nat.beq (T.x.1 + T.x.2 + T.y.1 + T.y.2 + T.z.1 + T.z.2) 0) (cond T.g a a) (cond T.g a a)
theorem force_eq {α : Type} (T : St) (a : α) : force T a = a := by
  unfold force
  cases Nat.beq (T.x.1 + T.x.2 + T.y.1 + T.y.2 + T.z.1 + T.z.2) 0 <;> cases T.g <;> rfl
def jgo (N : Nat) (qx qy : PN) (k : Nat) : Nat → St → St
  | 0, S => S
  | f + 1, S => (fun T => force T (jgo N qx qy k f T)) (cond (Nat.beq (k / 2 ^ f % 2) 1) (plsS N (dblS N S) qx qy) (dblS N S))
theorem jgo_s (N : Nat) (qx qy : PN) (k f : Nat) (S : St) : jgo N qx qy k (f + 1) S = jgo N qx qy k f (cond (Nat.beq (k / 2 ^ f % 2) 1) (plsS N (dblS N S) qx qy) (dblS N S)) := force_eq _ _
def nilS : St := ⟨true, zerP, zerP, zerP⟩
theorem jgo_g (N : Nat) (qx qy : PN) (k : Nat) : ∀ (f : Nat) (S : St), S.g = false → (jgo N qx qy k f S).g = false
  | 0, S, h => h
  | f + 1, S, h => by
    rw [jgo_s]
    refine jgo_g N qx qy k f _ ?_
    have hd : (dblS N S).g = false := h
    cases Nat.beq (k / 2 ^ f % 2) 1 with
    | false => exact hd
    | true =>
      show (plsS N (dblS N S) qx qy).g = false
      generalize dblS N S = U at hd
      unfold plsS
      cases isz U.z with
      | true => exact hd
      | false =>
        cases isz (plH N U qx) with
        | true => cases isz (plR N U qy) with
          | true => rfl
          | false => exact hd
        | false => exact hd
section
variable {n : Nat} [NeZero n]
theorem red_one : red n oneP = one := ext' κ_1 κ_0
theorem red_zero : red n zerP = zero := ext' κ_0 κ_0
structure Stands (S : St) (P : Pt n) : Prop where
  g : S.g = true
  x : ltP n S.x
  y : ltP n S.y
  z : ltP n S.z
  e : jp (red n S.x) (red n S.y) (red n S.z) = P
attribute [local irreducible] add mul sub neg zero one inv mulP addP subP
theorem dbl_ok (hp : P3 n) {b : K2 n} (h2 : No2 b) {S : St} {P : Pt n} (ho : Onc b P) (h : Stands S P) : Stands (dblS n S) (pa P P) := by
  have hn := Nat.dvd_refl n
  have h0 := hp.1.pos
  have he := h.e
  rw [← he] at ho
  have ht := jp_twice hp h2 ho
  rw [he] at ht
  refine ⟨h.g, lt_sub h0 _ _, lt_sub h0 _ _, lt_add h0 _ _, ?_⟩
  rw [← ht]
  simp only [dblS, red_sub hn h0, red_mul hn h0, red_add hn, tX, tY, tZ, td, td1, td0, te, tc]
theorem pls_ok (hp : P3 n) {S : St} {P : Pt n} {qx qy : PN} (hqx : ltP n qx) (hqy : ltP n qy) (h : Stands S P) (hb : (plsS n S qx qy).g = true) :
    Stands (plsS n S qx qy) (pa P (some (red n qx, red n qy))) := by
  have hn := Nat.dvd_refl n
  have h0 := hp.1.pos
  have h1 := hp.1.1
  have he := h.e
  have z0 : ltP n zerP := ⟨h0, h0⟩
  have eh : red n (plH n S qx) = pH (red n S.x) (red n S.z) (red n qx) := by
    simp only [plH, red_sub hn h0, red_mul hn h0, pH]
  have er : red n (plR n S qy) = pR (red n S.y) (red n S.z) (red n qy) := by
    simp only [plR, red_sub hn h0, red_mul hn h0, pR]
  have lh : ltP n (plH n S qx) := lt_sub h0 _ _
  have lr : ltP n (plR n S qy) := lt_sub h0 _ _
  unfold plsS at hb ⊢
  generalize plH n S qx = H at *
  generalize plR n S qy = R at *
  cases hz : isz S.z with
  | true =>
    refine ⟨h.g, hqx, hqy, ⟨h1, h0⟩, ?_⟩
    show jp (red n qx) (red n qy) (red n oneP) = _
    rw [red_one, one_sq hp, ← he, jp_z ((isz_iff h.z).1 hz)]
    rfl
  | false =>
    rw [hz] at hb
    have hz0 : red n S.z ≠ zero := fun e => by rw [(isz_iff h.z).2 e] at hz; cases hz
    cases hi : isz H with
    | true =>
      rw [hi] at hb
      have zh := (isz_iff lh).1 hi
      cases hj : isz R with
      | true => rw [hj] at hb; cases hb
      | false =>
        have zr : red n R ≠ zero := fun e => by rw [(isz_iff lr).2 e] at hj; cases hj
        rw [eh] at zh
        rw [er] at zr
        have := jp_plus_0 hp hz0 zh zr
        rw [he] at this
        rw [this]
        refine ⟨h.g, z0, z0, z0, ?_⟩
        show jp (red n zerP) (red n zerP) (red n zerP) = none
        rw [red_zero, jp_0]
    | false =>
      have zh : red n H ≠ zero := fun e => by rw [(isz_iff lh).2 e] at hi; cases hi
      have zh' := zh
      rw [eh] at zh'
      have := jp_plus hp (y := red n S.y) (qy := red n qy) hz0 zh'
      rw [he, ← eh, ← er] at this
      refine ⟨h.g, lt_sub h0 _ _, lt_sub h0 _ _, lt_mul h0 _ _, ?_⟩
      rw [← this]
      simp only [cond_false, plG, red_sub hn h0, red_mul hn h0, red_add hn, pX, pY, pV]
theorem jgo_ok (hp : P3 n) {b : K2 n} (h2 : No2 b) {qx qy : PN} (hqx : ltP n qx) (hqy : ltP n qy) (ho : Onc b (some (red n qx, red n qy))) (k : Nat) :
    ∀ (f : Nat) (S : St) (m : Nat), Stands S (tim (some (red n qx, red n qy)) m) → (jgo n qx qy k f S).g = true → Stands (jgo n qx qy k f S) (tim (some (red n qx, red n qy)) (m * 2 ^ f + k % 2 ^ f))
  | 0, S, m, h, _ => by
    rw [Nat.pow_zero, Nat.mod_one, Nat.mul_one, Nat.add_zero]; exact h
  | f + 1, S, m, h, hb => by
    have hd := dbl_ok hp h2 (Onc_tim hp ho m) h
    rw [← tim_add hp h2 ho] at hd
    have hk : k % 2 ^ (f + 1) = 2 ^ f * (k / 2 ^ f % 2) + k % 2 ^ f := by rw [Nat.pow_succ, Nat.mod_mul, Nat.add_comm]
    rw [jgo_s] at hb ⊢
    rcases Nat.mod_two_eq_zero_or_one (k / 2 ^ f) with h1 | h1
    · rw [h1] at hb hk ⊢
      have := jgo_ok hp h2 hqx hqy ho k f _ _ hd hb
      rwa [show (m + m) * 2 ^ f + k % 2 ^ f = m * 2 ^ (f + 1) + k % 2 ^ (f + 1) by rw [hk, Nat.pow_succ, Nat.mul_zero, Nat.zero_add, Nat.add_mul, Nat.mul_comm (2 ^ f) 2, ← Nat.mul_assoc, Nat.mul_two, Nat.add_mul]] at this
    · rw [h1] at hb hk ⊢
      have hg : (plsS n (dblS n S) qx qy).g = true := by
        cases hq : (plsS n (dblS n S) qx qy).g with
        | true => rfl
        | false =>
          have := jgo_g n qx qy k f _ hq
          rw [show cond (Nat.beq 1 1) (plsS n (dblS n S) qx qy) (dblS n S) = plsS n (dblS n S) qx qy from rfl, this] at hb
          cases hb
      have hs := pls_ok hp hqx hqy hd hg
      have := jgo_ok hp h2 hqx hqy ho k f _ (m + m + 1) hs hb
      rwa [show (m + m + 1) * 2 ^ f + k % 2 ^ f = m * 2 ^ (f + 1) + k % 2 ^ (f + 1) by rw [hk, Nat.pow_succ, Nat.mul_one, Nat.add_mul, Nat.one_mul, Nat.add_assoc, Nat.mul_comm (2 ^ f) 2, ← Nat.mul_assoc, Nat.mul_two, Nat.add_mul]] at this
theorem Stands.nil (hp : P3 n) : Stands nilS (none : Pt n) := by
  have z0 : ltP n zerP := ⟨hp.1.pos, hp.1.pos⟩
  refine ⟨rfl, z0, z0, z0, ?_⟩
  show jp (red n zerP) (red n zerP) (red n zerP) = none
  rw [red_zero, jp_0]
theorem tim_jgo (hp : P3 n) {b : K2 n} (h2 : No2 b) {qx qy : PN} (hqx : ltP n qx) (hqy : ltP n qy) (ho : Onc b (some (red n qx, red n qy))) {k f : Nat} (hk : k < 2 ^ f) (h : (jgo n qx qy k f nilS).g = true) :
    Stands (jgo n qx qy k f nilS) (tim (some (red n qx, red n qy)) k) := by
  have := jgo_ok hp h2 hqx hqy ho k f nilS 0 (Stands.nil hp) h
  rwa [Nat.zero_mul, Nat.zero_add, Nat.mod_eq_of_lt hk] at this
end
end K2
end Go.Proofs.Ytbpmbdlgmmabcaa.L.Kf
namespace Go.Proofs.Ytbpmbdlgmmabcaa.L
open Go Go.Proofs
set_option maxRecDepth 100000
attribute [local irreducible] Code.wp wpList Af bodyPost L.Go
open Num
attribute [local simp] D_len
def p : Nat := 4002409555221667393417789825735904156556882819939007885332058136124031650490837864442687629129015664037894272559787
theorem p_prime : Pr.Prime p := Pr.prime_p
theorem p_pos : 0 < p := by decide +kernel
theorem p_lt : p < W ^ 6 := by decide +kernel
theorem p2_lt : 4 * p < W ^ 6 := by decide +kernel
theorem p_lit : ([13402431016077863595, 2210141511517208575, 7435674573564081700, 7239337960414712511, 5412103778470702295, 1873798617647539866] : List Nat) = D 6 p := by decide +kernel
attribute [irreducible] p
theorem mod_p (a : Nat) : a % p < W ^ 6 := Nat.lt_trans (Nat.mod_lt _ p_pos) p_lt
theorem D6_eq {a b : Nat} (ha : a < W ^ 6) (hb : b < W ^ 6) : (D 6 a = D 6 b) = (a = b) := by
  refine propext ⟨fun h => ?_, fun h => by rw [h]⟩
  have := D_inj h
  rwa [Nat.mod_eq_of_lt ha, Nat.mod_eq_of_lt hb] at this
theorem pP_spec : Spec Try.prog 94 [] NoPre [] (IsV (LV .u64 (D 6 p))) := by
  refine mk_spec Try.func94 rfl rfl rfl fun w _ => ?_
  repeat (first|(refine st_alloc (v := LV .u64 (List.replicate 6 0)) (by rfl) (by rfl) fun _ => ?_)|(refine st_buildP (kk := .u64) (vs := [13402431016077863595, 2210141511517208575, 7435674573564081700, 7239337960414712511, 5412103778470702295, 1873798617647539866]) (by rfl) (by rfl) (by rfl) (by rfl) (by rfl) (by rfl) (by rfl) (by rfl) ?_)|refine Z03 ?_|refine Z04 ?_|refine Z05 ?_|refine Z06 ?_|refine Z07 ?_|refine Z08 ?_|refine Z09 ?_|refine Z10 ?_|refine Z11 ?_|refine Z12 ?_|refine Z13 ?_|refine Z14 ?_|refine Z29 ?_|refine Z30 ?_|refine Z31 ?_|refine Z32 ?_|refine Z65 ?_|refine Z82 fun _ => ?_)
  refine Zec fun _ hw => post_of hw SubW.nil ⟨?_, rfl⟩
  rw [← p_lit]; rfl
set_option maxHeartbeats 2000000 in
theorem pless_spec {a c : Nat} (ha : a < W ^ 6) (hc : c ≤ 1) : Spec Try.prog 62 [LV .u64 (D 6 a), N .u64 c] NoPre [] (IsV (LV .u64 (D 6 (lessv 6 p a c)))) := by
  refine mk_spec Try.func62 rfl rfl rfl fun w _ => ?_
  have hla := D_len 6 a
  have hlr := D_len 6 p
  repeat (first|(refine st_alloc (v := LV .u64 (List.replicate 6 0)) (by rfl) (by rfl) fun _ => ?_)|(refine st_callV (by rfl) (by rfl) (by rfl) (pP_spec) (fun _ _ => trivial) (by rfl) ?_)|refine Z01 ?_|refine Z02 ?_|refine Z03 ?_|refine Z04 ?_|refine Z05 ?_|refine Z06 ?_|refine Z07 ?_|refine Z08 ?_|refine Z09 ?_|refine Z10 ?_|refine Z11 ?_|refine Z12 ?_|refine Z13 ?_|refine Z14 ?_|refine Z15 ?_|refine Z17 ?_|refine Z18 ?_|refine Z19 ?_|refine Z22 ?_|refine Z23 ?_|refine Z24 ?_|refine Z25 ?_|refine Z26 ?_|refine Z27 ?_|refine Z28 ?_|refine Z29 ?_|refine Z30 ?_|refine Z31 ?_|refine Z32 ?_|refine Z67 ?_|refine Z70 ?_|refine Z81 fun _ => ?_|refine Z82 fun _ => ?_)
  rename_i b2 b4 b5 b6
  refine st_loop (ι := Nat) (fun i => i ≤ 6) (fun i => [(1, N .u64 c), (2, pt b2 0), (4, pt b4 0), (5, pt b5 0), (6, pt b6 0), (7, N .u64 (crun subg (D 6 a) (D 6 p) i).2), (10, N .i64 i)])
    (fun i => [.blk b6 (LV .u64 ((crun subg (D 6 a) (D 6 p) i).1 ++ List.replicate (6 - i) 0)) 24, .blk b2 (LV .u64 (D 6 a)) 24, .blk b5 (LV .u64 (D 6 p)) 24, .blk b4 (LV .u64 (List.replicate 6 0)) 24]) (fun i => 6 - i) 0 (by omega) (by rw [crun_0]; exact (by repeat (first | apply subL.nil | refine subL.cons (by rfl) ?_))) (by rw [crun_0]; exact (by repeat (first | apply SubW.nil | refine SubW.cons (by repeat first|apply Find.here|apply Find.there) ?_))) ?_
  intro i hi
  have hc1 := crun_subD_le 6 a p i
  have hl := crun_len subg (D 6 a) (D 6 p) i
  have hol : ((crun subg (D 6 a) (D 6 p) i).1 ++ List.replicate (6 - i) 0).length = 6 := by simp; omega
  by_cases h : i < 6
  · repeat (first|(refine st_cmp (r := true) (by rfl) (by rfl) (cmpN_t (by first | (simp only [cmpP]; done) | (simp only [cmpP]; omega))) (by rfl) ?_)|refine Z01 ?_|refine Z02 ?_|refine Z03 ?_|refine Z04 ?_|refine Z05 ?_|refine Z06 ?_|refine Z07 ?_|refine Z08 ?_|refine Z09 ?_|refine Z10 ?_|refine Z11 ?_|refine Z12 ?_|refine Z13 ?_|refine Z14 ?_|refine Z15 ?_|refine Z17 ?_|refine Z18 ?_|refine Z19 ?_|refine Z22 ?_|refine Z23 ?_|refine Z24 ?_|refine Z25 ?_|refine Z26 ?_|refine Z27 ?_|refine Z28 ?_|refine Z29 ?_|refine Z30 ?_|refine Z31 ?_|refine Z32 ?_|refine Z67 ?_|refine Z70 ?_|refine Z81 fun _ => ?_|refine Z82 fun _ => ?_)
    refine st_draw1 (by rfl) ?_
    repeat (first|refine Zqf (by intro _ _ _;(first|(refine st_callX (by rfl) (by rfl) (by rfl) (sub64X _ _ _ hc1) (by rfl) ?_)|refine Z01 ?_|refine Z02 ?_|refine Z15 ?_|refine Z17 ?_|refine Z18 ?_|refine Z19 ?_|refine Z22 ?_|refine Z23 ?_|refine Z70 ?_);exact Zq) ?_|refine Zqp (by intro _ _ _;(first|refine Z24 ?_|refine Z25 ?_|refine Z26 ?_|refine Z27 ?_|refine Z28 ?_|refine Z67 ?_|refine Z23 ?_);exact Zq) ?_|refine Zqe (by intro _ _ _;(first|refine Z29 ?_|refine Z30 ?_|refine Z31 ?_|refine Z32 ?_);exact Zqq) ?_|refine Zqn ?_)
    refine Zq0 ?_ (by kernel_rfl)
    rw [← subg_fst, ← subg_snd, ← crun_snd, crun_new subg (D 6 a) (D 6 p) i 6 h]
    repeat (first|refine Z01 ?_|refine Z02 ?_|refine Z03 ?_|refine Z04 ?_|refine Z05 ?_|refine Z06 ?_|refine Z07 ?_|refine Z08 ?_|refine Z09 ?_|refine Z10 ?_|refine Z11 ?_|refine Z12 ?_|refine Z13 ?_|refine Z14 ?_|refine Z15 ?_|refine Z17 ?_|refine Z18 ?_|refine Z19 ?_|refine Z22 ?_|refine Z23 ?_|refine Z24 ?_|refine Z25 ?_|refine Z26 ?_|refine Z27 ?_|refine Z28 ?_|refine Z29 ?_|refine Z30 ?_|refine Z31 ?_|refine Z32 ?_|refine Z67 ?_|refine Z70 ?_|refine Z81 fun _ => ?_|refine Z82 fun _ => ?_)
    exact st_round (i + 1) (by omega) (by omega) (by repeat (first | apply subL.nil | refine subL.cons (by rfl) ?_)) (by repeat (first | apply SubW.nil | refine SubW.cons (by repeat first|apply Find.here|apply Find.there) ?_))
  · have hie : i = 6 := by omega
    subst hie
    rw [crun_subD ha p_lt] at *
    simp only at *
    have he := lessv_of (k := 6) (A := a) p_lt hc
    repeat (first|(refine st_cmp (r := false) (by rfl) (by rfl) (cmpN_f (by first | (simp only [cmpQ]; done) | (simp only [cmpQ]; omega))) (by rfl) ?_)|refine Z01 ?_|refine Z02 ?_|refine Z03 ?_|refine Z04 ?_|refine Z05 ?_|refine Z06 ?_|refine Z07 ?_|refine Z08 ?_|refine Z09 ?_|refine Z10 ?_|refine Z11 ?_|refine Z12 ?_|refine Z13 ?_|refine Z14 ?_|refine Z15 ?_|refine Z17 ?_|refine Z18 ?_|refine Z19 ?_|refine Z22 ?_|refine Z23 ?_|refine Z24 ?_|refine Z25 ?_|refine Z26 ?_|refine Z27 ?_|refine Z28 ?_|refine Z29 ?_|refine Z30 ?_|refine Z31 ?_|refine Z32 ?_|refine Z67 ?_|refine Z70 ?_|refine Z81 fun _ => ?_|refine Z82 fun _ => ?_)
    refine st_cond (by rfl) (fun hb => ?_) (fun hb => ?_)
    · rw [if_pos hb] at he
      repeat (first|refine Z01 ?_|refine Z02 ?_|refine Z03 ?_|refine Z04 ?_|refine Z05 ?_|refine Z06 ?_|refine Z07 ?_|refine Z08 ?_|refine Z09 ?_|refine Z10 ?_|refine Z11 ?_|refine Z12 ?_|refine Z13 ?_|refine Z14 ?_|refine Z15 ?_|refine Z17 ?_|refine Z18 ?_|refine Z19 ?_|refine Z22 ?_|refine Z23 ?_|refine Z24 ?_|refine Z25 ?_|refine Z26 ?_|refine Z27 ?_|refine Z28 ?_|refine Z29 ?_|refine Z30 ?_|refine Z31 ?_|refine Z32 ?_|refine Z67 ?_|refine Z70 ?_|refine Z81 fun _ => ?_|refine Z82 fun _ => ?_)
      refine Zec fun _ hw => post_of hw SubW.nil ⟨?_, rfl⟩
      rw [he]
    · rw [if_neg hb] at he
      have hl2 := D_len 6 (sbn 6 a p)
      repeat (first|refine Z01 ?_|refine Z02 ?_|refine Z03 ?_|refine Z04 ?_|refine Z05 ?_|refine Z06 ?_|refine Z07 ?_|refine Z08 ?_|refine Z09 ?_|refine Z10 ?_|refine Z11 ?_|refine Z12 ?_|refine Z13 ?_|refine Z14 ?_|refine Z15 ?_|refine Z17 ?_|refine Z18 ?_|refine Z19 ?_|refine Z22 ?_|refine Z23 ?_|refine Z24 ?_|refine Z25 ?_|refine Z26 ?_|refine Z27 ?_|refine Z28 ?_|refine Z29 ?_|refine Z30 ?_|refine Z31 ?_|refine Z32 ?_|refine Z67 ?_|refine Z70 ?_|refine Z81 fun _ => ?_|refine Z82 fun _ => ?_)
      refine Zec fun _ hw => post_of hw SubW.nil ⟨?_, rfl⟩
      rw [Nat.sub_self, List.replicate_zero, List.append_nil, he]
theorem preduce_spec {a : Nat} (ha : a < W ^ 6) : Spec Try.prog 59 [LV .u64 (D 6 a)] NoPre [] (IsV (LV .u64 (D 6 (a % p)))) := by
  refine mk_spec Try.func59 rfl rfl rfl fun w _ => ?_
  have hla := D_len 6 a
  repeat (first|(refine st_alloc (v := LV .u64 (List.replicate 6 0)) (by rfl) (by rfl) fun _ => ?_)|refine Z03 ?_|refine Z04 ?_|refine Z05 ?_|refine Z06 ?_|refine Z07 ?_|refine Z08 ?_|refine Z09 ?_|refine Z10 ?_|refine Z11 ?_|refine Z12 ?_|refine Z13 ?_|refine Z14 ?_|refine Z24 ?_|refine Z25 ?_|refine Z26 ?_|refine Z27 ?_|refine Z28 ?_|refine Z29 ?_|refine Z30 ?_|refine Z31 ?_|refine Z32 ?_|refine Z67 ?_|refine Z77 ?_|refine Z78 ?_|refine Z79 ?_|refine Z81 fun _ => ?_|refine Z82 fun _ => ?_)
  rename_i b1 b2
  refine st_loop (ι := Nat) (fun x => x < W ^ 6 ∧ x % p = a % p) (fun _ => [(1, pt b1 0), (2, pt b2 0)])
    (fun x => [.blk b1 (LV .u64 (D 6 x)) 24, .blk b2 (LV .u64 (List.replicate 6 0)) 24]) (fun x => x) a ⟨ha, rfl⟩ (by repeat (first | apply subL.nil | refine subL.cons (by rfl) ?_)) (by repeat (first | apply SubW.nil | refine SubW.cons (by repeat first|apply Find.here|apply Find.there) ?_)) ?_
  rintro x ⟨hx, hxa⟩
  have hlx := D_len 6 x
  by_cases h : x < p
  · have hv : lessv 6 p x 0 = x := by unfold lessv; rw [if_pos (by omega)]
    repeat (first|(refine st_alloc (v := LV .u64 (List.replicate 6 0)) (by rfl) (by rfl) fun _ => ?_)|((refine st_callV (by rfl) (by rfl) (by rfl) (pless_spec hx (Nat.zero_le 1)) (fun _ _ => trivial) (by rfl) ?_; rw [hv]))|(rw [decide_eq_true (p := D 6 x = D 6 x) rfl])|refine Z03 ?_|refine Z04 ?_|refine Z05 ?_|refine Z06 ?_|refine Z07 ?_|refine Z08 ?_|refine Z09 ?_|refine Z10 ?_|refine Z11 ?_|refine Z12 ?_|refine Z13 ?_|refine Z14 ?_|refine Z24 ?_|refine Z25 ?_|refine Z26 ?_|refine Z27 ?_|refine Z28 ?_|refine Z29 ?_|refine Z30 ?_|refine Z31 ?_|refine Z32 ?_|refine Z67 ?_|refine Z77 ?_|refine Z78 ?_|refine Z79 ?_|refine Z81 fun _ => ?_|refine Z82 fun _ => ?_)
    refine Zec fun _ hw => post_of hw SubW.nil ⟨?_, rfl⟩
    rw [← hxa, Nat.mod_eq_of_lt h]
  · have hv : lessv 6 p x 0 = x - p := by unfold lessv; rw [if_neg (by omega), Nat.zero_mul, Nat.add_zero]
    have hl2 := D_len 6 (x - p)
    have hrp := p_pos
    have hne : decide (D 6 (x - p) = D 6 x) = false := decide_eq_false (by rw [D6_eq (by omega) hx]; omega)
    repeat (first|(refine st_alloc (v := LV .u64 (List.replicate 6 0)) (by rfl) (by rfl) fun _ => ?_)|((refine st_callV (by rfl) (by rfl) (by rfl) (pless_spec hx (Nat.zero_le 1)) (fun _ _ => trivial) (by rfl) ?_; rw [hv]))|(rw [hne])|refine Z03 ?_|refine Z04 ?_|refine Z05 ?_|refine Z06 ?_|refine Z07 ?_|refine Z08 ?_|refine Z09 ?_|refine Z10 ?_|refine Z11 ?_|refine Z12 ?_|refine Z13 ?_|refine Z14 ?_|refine Z24 ?_|refine Z25 ?_|refine Z26 ?_|refine Z27 ?_|refine Z28 ?_|refine Z29 ?_|refine Z30 ?_|refine Z31 ?_|refine Z32 ?_|refine Z67 ?_|refine Z77 ?_|refine Z78 ?_|refine Z79 ?_|refine Z81 fun _ => ?_|refine Z82 fun _ => ?_)
    exact st_round (x - p) ⟨by omega, by rw [← hxa, ← Nat.mod_eq_sub_mod (by omega)]⟩ (by omega) (by repeat (first | apply subL.nil | refine subL.cons (by rfl) ?_)) (by repeat (first | apply SubW.nil | refine SubW.cons (by repeat first|apply Find.here|apply Find.there) ?_))
set_option maxHeartbeats 2000000 in
theorem padd_spec {a b : Nat} (ha : a < W ^ 6) (hb : b < W ^ 6) : Spec Try.prog 24 [LV .u64 (D 6 a), LV .u64 (D 6 b)] NoPre [] (IsV (LV .u64 (D 6 ((a + b) % p)))) := by
  refine mk_spec Try.func24 rfl rfl rfl fun w _ => ?_
  have hl0 := fun x => D_len 6 x
  have hm : (a % p + b % p) % p = (a + b) % p := (Nat.add_mod _ _ _).symm
  have hA := Nat.mod_lt a p_pos
  have hB := Nat.mod_lt b p_pos
  repeat (first|(refine st_alloc (v := LV .u64 (List.replicate 6 0)) (by rfl) (by rfl) fun _ => ?_)|refine Z01 ?_|refine Z02 ?_|refine Z03 ?_|refine Z04 ?_|refine Z05 ?_|refine Z06 ?_|refine Z07 ?_|refine Z08 ?_|refine Z09 ?_|refine Z10 ?_|refine Z11 ?_|refine Z12 ?_|refine Z13 ?_|refine Z14 ?_|refine Z15 ?_|refine Z17 ?_|refine Z18 ?_|refine Z19 ?_|refine Z22 ?_|refine Z23 ?_|refine Z24 ?_|refine Z25 ?_|refine Z26 ?_|refine Z27 ?_|refine Z28 ?_|refine Z29 ?_|refine Z30 ?_|refine Z31 ?_|refine Z32 ?_|refine Z67 ?_|refine Z70 ?_|refine Z81 fun _ => ?_|refine Z82 fun _ => ?_)
  refine st_draw1 (by rfl) ?_
  repeat (first|refine Zqf (by intro _ _ _;(first|refine Z01 ?_|refine Z02 ?_|refine Z15 ?_|refine Z17 ?_|refine Z18 ?_|refine Z19 ?_|refine Z22 ?_|refine Z23 ?_|refine Z70 ?_);exact Zq) ?_|refine Zqp (by intro _ _ _;refine st_callV (by rfl) (by rfl) (by rfl) (preduce_spec ha) (fun _ _ => trivial) (by rfl) ?_;exact Zq) ?_|refine Zqp (by intro _ _ _;refine st_callV (by rfl) (by rfl) (by rfl) (preduce_spec hb) (fun _ _ => trivial) (by rfl) ?_;exact Zq) ?_|refine Zqp (by intro _ _ _;(first|refine Z24 ?_|refine Z25 ?_|refine Z26 ?_|refine Z27 ?_|refine Z28 ?_|refine Z67 ?_|refine Z23 ?_);exact Zq) ?_|refine Zqe (by intro _ _ _;(first|refine Z29 ?_|refine Z30 ?_|refine Z31 ?_|refine Z32 ?_);exact Zqq) ?_|refine Zqn ?_)
  refine Zq0 ?_ (by kernel_rfl)
  generalize a % p = A at *
  generalize b % p = B at *
  repeat (first|refine Z01 ?_|refine Z02 ?_|refine Z03 ?_|refine Z04 ?_|refine Z05 ?_|refine Z06 ?_|refine Z07 ?_|refine Z08 ?_|refine Z09 ?_|refine Z10 ?_|refine Z11 ?_|refine Z12 ?_|refine Z13 ?_|refine Z14 ?_|refine Z15 ?_|refine Z17 ?_|refine Z18 ?_|refine Z19 ?_|refine Z22 ?_|refine Z23 ?_|refine Z24 ?_|refine Z25 ?_|refine Z26 ?_|refine Z27 ?_|refine Z28 ?_|refine Z29 ?_|refine Z30 ?_|refine Z31 ?_|refine Z32 ?_|refine Z67 ?_|refine Z70 ?_|refine Z81 fun _ => ?_|refine Z82 fun _ => ?_)
  rename_i b2 b3 b4
  refine st_loop (ι := Nat) (fun i => i ≤ 6) (fun i => [(2, pt b2 0), (3, pt b3 0), (4, pt b4 0), (5, N .u64 (crun addg (D 6 A) (D 6 B) i).2), (11, N .i64 i)])
    (fun i => [.blk b2 (LV .u64 ((crun addg (D 6 A) (D 6 B) i).1 ++ (D 6 A).drop i)) 24, .blk b3 (LV .u64 (D 6 B)) 24, .blk b4 (LV .u64 (List.replicate 6 0)) 24]) (fun i => 6 - i) 0 (by omega) (by rw [crun_0]; exact (by repeat (first | apply subL.nil | refine subL.cons (by rfl) ?_))) (by rw [crun_0]; exact (by repeat (first | apply SubW.nil | refine SubW.cons (by repeat first|apply Find.here|apply Find.there) ?_))) ?_
  intro i hi
  have hc1 := crun_addD_le 6 A B i
  have hl := crun_len addg (D 6 A) (D 6 B) i
  have hla := hl0 A
  have hol : ((crun addg (D 6 A) (D 6 B) i).1 ++ (D 6 A).drop i).length = 6 := by simp; omega
  have hdg := drop_get (xs := D 6 A) hl
  by_cases h : i < 6
  · repeat (first|(refine st_cmp (r := true) (by rfl) (by rfl) (cmpN_t (by first | (simp only [cmpP]; done) | (simp only [cmpP]; omega))) (by rfl) ?_)|refine Z01 ?_|refine Z02 ?_|refine Z03 ?_|refine Z04 ?_|refine Z05 ?_|refine Z06 ?_|refine Z07 ?_|refine Z08 ?_|refine Z09 ?_|refine Z10 ?_|refine Z11 ?_|refine Z12 ?_|refine Z13 ?_|refine Z14 ?_|refine Z15 ?_|refine Z17 ?_|refine Z18 ?_|refine Z19 ?_|refine Z22 ?_|refine Z23 ?_|refine Z24 ?_|refine Z25 ?_|refine Z26 ?_|refine Z27 ?_|refine Z28 ?_|refine Z29 ?_|refine Z30 ?_|refine Z31 ?_|refine Z32 ?_|refine Z67 ?_|refine Z70 ?_|refine Z81 fun _ => ?_|refine Z82 fun _ => ?_)
    refine st_draw1 (by rfl) ?_
    repeat (first|refine Zqf (by intro _ _ _;(first|(refine st_callX (by rfl) (by rfl) (by rfl) (add64X _ _ _ hc1) (by rfl) ?_)|refine Z01 ?_|refine Z02 ?_|refine Z15 ?_|refine Z17 ?_|refine Z18 ?_|refine Z19 ?_|refine Z22 ?_|refine Z23 ?_|refine Z70 ?_);exact Zq) ?_|refine Zqp (by intro _ _ _;(first|refine Z24 ?_|refine Z25 ?_|refine Z26 ?_|refine Z27 ?_|refine Z28 ?_|refine Z67 ?_|refine Z23 ?_);exact Zq) ?_|refine Zqe (by intro _ _ _;(first|refine Z29 ?_|refine Z30 ?_|refine Z31 ?_|refine Z32 ?_);exact Zqq) ?_|refine Zqn ?_)
    refine Zq0 ?_ (by kernel_rfl)
    rw [hdg, ← addg_fst, ← addg_snd, ← crun_snd, crun_drop addg (D 6 A) (D 6 B) i (by omega)]
    repeat (first|refine Z01 ?_|refine Z02 ?_|refine Z03 ?_|refine Z04 ?_|refine Z05 ?_|refine Z06 ?_|refine Z07 ?_|refine Z08 ?_|refine Z09 ?_|refine Z10 ?_|refine Z11 ?_|refine Z12 ?_|refine Z13 ?_|refine Z14 ?_|refine Z15 ?_|refine Z17 ?_|refine Z18 ?_|refine Z19 ?_|refine Z22 ?_|refine Z23 ?_|refine Z24 ?_|refine Z25 ?_|refine Z26 ?_|refine Z27 ?_|refine Z28 ?_|refine Z29 ?_|refine Z30 ?_|refine Z31 ?_|refine Z32 ?_|refine Z67 ?_|refine Z70 ?_|refine Z81 fun _ => ?_|refine Z82 fun _ => ?_)
    exact st_round (i + 1) (by omega) (by omega) (by repeat (first | apply subL.nil | refine subL.cons (by rfl) ?_)) (by repeat (first | apply SubW.nil | refine SubW.cons (by repeat first|apply Find.here|apply Find.there) ?_))
  · have hie : i = 6 := by omega
    subst hie
    have hrl := p_lt
    have hdr : (D 6 A).drop 6 = [] := List.drop_eq_nil_of_le (by omega)
    rw [crun_addD (by omega) (by omega), hdr, List.append_nil] at *
    simp only at *
    have hS : (A + B) / W ^ 6 ≤ 1 := by
      have : (A + B) / W ^ 6 < 2 := Nat.div_lt_of_lt_mul (by omega)
      omega
    have he := lessv_sum (k := 6) (m := p) (S := A + B) (by omega) p_lt
    have hD : D 6 (A + B) = D 6 ((A + B) % W ^ 6) := (D_mod _ _).symm
    rw [hD]
    repeat (first|(refine st_cmp (r := false) (by rfl) (by rfl) (cmpN_f (by first | (simp only [cmpQ]; done) | (simp only [cmpQ]; omega))) (by rfl) ?_)|((refine st_callV (by rfl) (by rfl) (by rfl) (pless_spec (Nat.mod_lt _ (W_pow_pos 6)) hS) (fun _ _ => trivial) (by rfl) ?_; rw [he]))|refine Z01 ?_|refine Z02 ?_|refine Z03 ?_|refine Z04 ?_|refine Z05 ?_|refine Z06 ?_|refine Z07 ?_|refine Z08 ?_|refine Z09 ?_|refine Z10 ?_|refine Z11 ?_|refine Z12 ?_|refine Z13 ?_|refine Z14 ?_|refine Z15 ?_|refine Z17 ?_|refine Z18 ?_|refine Z19 ?_|refine Z22 ?_|refine Z23 ?_|refine Z24 ?_|refine Z25 ?_|refine Z26 ?_|refine Z27 ?_|refine Z28 ?_|refine Z29 ?_|refine Z30 ?_|refine Z31 ?_|refine Z32 ?_|refine Z67 ?_|refine Z70 ?_|refine Z81 fun _ => ?_|refine Z82 fun _ => ?_)
    refine Zec fun _ hw => post_of hw SubW.nil ⟨?_, rfl⟩
    rw [hm]
end Go.Proofs.Ytbpmbdlgmmabcaa.L
namespace Go.Proofs.Ytbpmbdlgmmabcaa.Num
theorem mod_pq {a b p q : Nat} (h : a < p) : (a + p * b) % (p * q) = a + p * (b % q) := by
  rw [Nat.mod_mul, Nat.add_mul_mod_self_left, Nat.mod_eq_of_lt h, Nat.add_mul_div_left _ _ (Nat.lt_of_le_of_lt (Nat.zero_le _) h), Nat.div_eq_of_lt h, Nat.zero_add]
theorem shift_word {w : Nat} (hw : w ≤ 63) (X i : Nat) :
    ((X / W ^ i % W) >>> w + (X / W ^ (i + 1) % W) <<< (64 - w) % 18446744073709551616) % 18446744073709551616 = X / 2 ^ w / W ^ i % W := by
  have e1 : X / 2 ^ w / W ^ i = X / W ^ i / 2 ^ w := by rw [Nat.div_div_eq_div_mul, Nat.mul_comm, ← Nat.div_div_eq_div_mul]
  have e2 : X / W ^ (i + 1) = X / W ^ i / W := by rw [Nat.pow_succ, Nat.div_div_eq_div_mul]
  rw [e1, e2, Nat.shiftRight_eq_div_pow, Nat.shiftLeft_eq]
  generalize X / W ^ i = Y
  have hW : W = 2 ^ w * 2 ^ (64 - w) := by rw [← Nat.pow_add, W_2, show w + (64 - w) = 64 by omega]
  have hW' : (18446744073709551616 : Nat) = 2 ^ (64 - w) * 2 ^ w := by rw [← Nat.pow_add, show 64 - w + w = 64 by omega]
  have hY := Nat.mod_add_div Y W
  have ha := Nat.two_pow_pos w
  have hb := Nat.two_pow_pos (64 - w)
  have h3 : Y / W % W * 2 ^ (64 - w) % 18446744073709551616 = 2 ^ (64 - w) * (Y / W % 2 ^ w) := by
    rw [hW', Nat.mul_comm (Y / W % W), Nat.mul_mod_mul_left, hW, Nat.mod_mul_right_mod]
  have h4 : Y / 2 ^ w = Y % W / 2 ^ w + 2 ^ (64 - w) * (Y / W) := by
    conv => lhs; rw [← hY]
    rw [hW, Nat.mul_assoc, Nat.add_mul_div_left _ _ ha, ← hW]
  have h5 : Y % W / 2 ^ w < 2 ^ (64 - w) := by
    refine Nat.div_lt_of_lt_mul ?_
    rw [← hW]; exact Nat.mod_lt _ W_pos
  have h6 : Y / 2 ^ w % W = Y % W / 2 ^ w + 2 ^ (64 - w) * (Y / W % 2 ^ w) := by
    rw [h4]
    have := mod_pq (b := Y / W) (q := 2 ^ w) h5
    rwa [Nat.mul_comm (2 ^ (64 - w)) (2 ^ w), ← hW] at this
  rw [h3, h6]
  refine Nat.mod_eq_of_lt ?_
  have h7 : Y / W % 2 ^ w < 2 ^ w := Nat.mod_lt _ ha
  have h8 := Nat.mul_le_mul_left (2 ^ (64 - w)) (show Y / W % 2 ^ w + 1 ≤ 2 ^ w from h7)
  rw [← hW', Nat.mul_add] at h8
  omega
end Go.Proofs.Ytbpmbdlgmmabcaa.Num
namespace Go.Proofs.Ytbpmbdlgmmabcaa.L
open Go
section
variable {P : Program} {c : Cx} {n : Nat} {l : Sl} {W : List Res} {ops : Array Oper} {Q : Exit → Act → World → Prop} {rest : List Oper}
variable {d : Nat} {T : TypeId} {pos : String} {after : Array Edge}
theorem st_doV {o : Oper} {W' : List Res} (hd : o.dst = none) (hg : o.guard = none)
    (h : ∀ a w, SatA n l a → SatW c W w → ∃ v w', (execOp a.eval o).run P w = .ok (.value v) w' ∧ SatW c W' w')
    (hk : Go c n l W' (wpList P ops Q rest)) : Go c n l W (wpList P ops Q (o :: rest)) := by
  intro a w ha hw
  obtain ⟨v, w', hr, hw'⟩ := h a w ha hw
  refine wpList_plain hg fun K hK => ?_
  show o.upon P a K Q ((execOp a.eval o).run P w)
  rw [hr]
  show K (a.put o.dst v) w'
  rw [hd]
  exact hK _ _ (hk _ _ ha hw')
theorem st_clear {x : Operand} {b m lo hi : Nat} {kk : IntKind} {cs : List Nat} {t E U : TypeId} {R : List Res} (hx : ev l x = some (subA b m lo hi)) (hf : Find W (.blk b (LV kk cs) U) R)
    (ht : P.underlying t = some (.slice E)) (hz : zrOf P E = some (N kk 0)) (hm : cs.length = m) (h1 : lo ≤ hi) (h2 : hi ≤ m)
    (hk : Go c n l (.blk b (LV kk (cs.take lo ++ List.replicate (hi - lo) 0 ++ cs.drop hi)) U :: R) (wpList P ops Q rest)) :
    Go c n l W (wpList P ops Q (⟨none, .call { callee := .builtin .clear, args := #[x], argTypes := #[t] }, T, pos, after, none⟩ :: rest)) :=
  st_doV rfl rfl (W' := .blk b (LV kk (cs.take lo ++ List.replicate (hi - lo) 0 ++ cs.drop hi)) U :: R)
    (fun a w ha hw => by
      have hw := hw.perm hf.perm
      have hh : w.heap[b]? = some (.cells (cs.map (N kk)).toArray U (0, 0)) := hw.holds _ (List.mem_cons_self ..)
      by_cases he : hi - lo = 0
      · have e1 : cs.take lo ++ List.replicate (hi - lo) 0 ++ cs.drop hi = cs := by
          rw [he, List.replicate_zero, List.append_nil, show hi = lo by omega, List.take_append_drop]
        rw [e1]
        refine ⟨.tuple #[], w, ?_, hw⟩
        simp [execOp, ha.ev hx, resolve, invoke, builtin, Builtin.clear_, run_underlying ht, subA, he]
      · have hml : ¬ m = lo := by omega
        have hzc : (Builtin.zeroCells (N kk 0).cells (hi - lo)).toList = List.replicate (hi - lo) (N kk 0) := by
          apply List.ext_getElem
          · simp [Builtin.zeroCells, Value.cells]
          · intro j h1' h2'
            simp [Builtin.zeroCells, Value.cells, Nat.mod_one]
        have hst := run_storeCells_blk (P := P) (off := lo) (vs := List.replicate (hi - lo) (N kk 0)) hh (by simp; omega) (fun v hv => by rw [List.eq_of_mem_replicate hv]; rfl)
        have e2 : (cs.map (N kk)).take lo ++ List.replicate (hi - lo) (N kk 0) ++ (cs.map (N kk)).drop (lo + (List.replicate (hi - lo) (N kk 0)).length) = (cs.take lo ++ List.replicate (hi - lo) 0 ++ cs.drop hi).map (N kk) := by
          rw [List.length_replicate, show lo + (hi - lo) = hi by omega]
          simp [List.map_append, List.map_take, List.map_drop]
        rw [e2] at hst
        refine ⟨.tuple #[], w.setRow b ((cs.take lo ++ List.replicate (hi - lo) 0 ++ cs.drop hi).map (N kk)).toArray, ?_, satW_setRow hw (r' := .blk b (LV kk (cs.take lo ++ List.replicate (hi - lo) 0 ++ cs.drop hi)) U) rfl rfl hh (fun w' h => by simp only [Res.holds, LV, Value.cells]; rw [h])⟩
        have hn0 : hi - lo ≠ 0 := he
        obtain ⟨k, hk⟩ : ∃ k, hi - lo = k + 1 := ⟨hi - lo - 1, by omega⟩
        rw [hk] at hst hzc
        simp [execOp, ha.ev hx, resolve, invoke, builtin, Builtin.clear_, run_underlying ht, subA, if_neg hml, hk, run_zero hz, hzc, hst]) hk
end
end Go.Proofs.Ytbpmbdlgmmabcaa.L
namespace Go.Proofs.Ytbpmbdlgmmabcaa.L
open Go Go.Proofs
set_option maxRecDepth 100000
attribute [local irreducible] Code.wp wpList Af bodyPost L.Go
open Num
attribute [local simp] D_len
theorem mont_inner {T x M A VP V' Pk w c c' mk : Nat} (h1 : V' + A * Pk = VP + A * w) (h2 : w + 18446744073709551616 * c' = Pk + x * mk + c) (h3 : VP + A * c = T + x * (M % A)) :
    V' + A * 18446744073709551616 * c' = T + x * (M % A + A * mk) := by
  have h4 : A * (w + 18446744073709551616 * c') = A * (Pk + x * mk + c) := by rw [h2]
  rw [Nat.mul_add, Nat.mul_add, Nat.mul_add, Nat.mul_left_comm A x mk] at h4
  rw [Nat.mul_assoc, Nat.mul_add x]
  omega
theorem mont_top {P : List Nat} {c Z : Nat} (hl : P.length = 8) (hP : Lt 18446744073709551616 P) (hV : V P + W ^ 6 * c = Z) (hZ : Z < W ^ 8) :
    (P.set 6 ((P.getD 6 0 + c) % 18446744073709551616)).set 7 ((P.getD 7 0 + (P.getD 6 0 + c) / 18446744073709551616) % 18446744073709551616) = D 8 Z := by
  match P, hl with
  | [a0, a1, a2, a3, a4, a5, a6, a7], _ =>
    have h6 := hP.getD (by decide) 6
    have h7 := hP.getD (by decide) 7
    simp only [List.getD_cons_succ, List.getD_cons_zero, List.set_cons_succ, List.set_cons_zero] at h6 h7 ⊢
    have e : V [a0, a1, a2, a3, a4, a5, a6, a7] = V [a0, a1, a2, a3, a4, a5] + W ^ 6 * (a6 + W * a7) := by
      have := V_append [a0, a1, a2, a3, a4, a5] [a6, a7]
      simp only [List.cons_append, List.nil_append, List.length_cons, List.length_nil] at this
      rw [this, show V [a6, a7] = a6 + W * a7 by rw [V_def, val_cons, ← V_def, V_one]]
    have hlo : Lt 18446744073709551616 [a0, a1, a2, a3, a4, a5] := fun y hy => hP y (by simp at hy; rcases hy with h | h | h | h | h | h <;> simp [h])
    have hW : W = 18446744073709551616 := rfl
    have hs : a6 + c + W * a7 < W * W := by
      have h8 : W ^ 8 = W ^ 6 * (W * W) := by rw [show 8 = 6 + 2 from rfl, Nat.pow_add, Nat.pow_two]
      have h9 : W ^ 6 * (a6 + c + W * a7) < W ^ 6 * (W * W) := by
        rw [← h8]
        have : W ^ 6 * (a6 + c + W * a7) = W ^ 6 * (a6 + W * a7) + W ^ 6 * c := by rw [← Nat.mul_add]; congr 1; omega
        omega
      exact Nat.lt_of_mul_lt_mul_left h9
    have h7' : a7 + (a6 + c) / 18446744073709551616 < 18446744073709551616 := by
      rw [hW] at hs; omega
    rw [Nat.mod_eq_of_lt h7']
    refine D_of_V (fun y hy => ?_) rfl ?_
    · simp at hy
      rcases hy with rfl | rfl | rfl | rfl | rfl | rfl | rfl | rfl
      · exact hP _ (by simp)
      · exact hP _ (by simp)
      · exact hP _ (by simp)
      · exact hP _ (by simp)
      · exact hP _ (by simp)
      · exact hP _ (by simp)
      · exact Nat.mod_lt _ (by decide)
      · exact h7'
    · have e2 : V [a0, a1, a2, a3, a4, a5, (a6 + c) % 18446744073709551616, a7 + (a6 + c) / 18446744073709551616] = V [a0, a1, a2, a3, a4, a5] + W ^ 6 * ((a6 + c) % 18446744073709551616 + W * (a7 + (a6 + c) / 18446744073709551616)) := by
        have := V_append [a0, a1, a2, a3, a4, a5] [(a6 + c) % 18446744073709551616, a7 + (a6 + c) / 18446744073709551616]
        simp only [List.cons_append, List.nil_append, List.length_cons, List.length_nil] at this
        rw [this, show V [(a6 + c) % 18446744073709551616, a7 + (a6 + c) / 18446744073709551616] = (a6 + c) % 18446744073709551616 + W * (a7 + (a6 + c) / 18446744073709551616) by rw [V_def, val_cons, ← V_def, V_one]]
      rw [e2, ← hV, e, Nat.add_assoc, ← Nat.mul_add]
      congr 2
      rw [hW]; omega
theorem D8_shift (X : Nat) (h : X < W ^ 8) : (D 8 X).drop 1 ++ [0] = D 8 (X / W) := by
  refine D_of_V (fun y hy => ?_) (by simp) ?_
  · rcases List.mem_append.1 hy with hy | hy
    · exact D_lt _ _ y (List.mem_of_mem_drop hy)
    · simp at hy; subst hy; decide
  · rw [V_append, V_drop (D_lt _ _), V_one, Nat.mul_zero, Nat.add_zero, V_D' h, Nat.pow_one]
set_option maxHeartbeats 4000000 in
theorem pstep_spec (x T M sh bt bm : Nat) (hx : x < 18446744073709551616) (hM : M < W ^ 6) (hT : T + x * M < W ^ 8) (hs : sh ≤ 1) :
    Spec Try.prog 102 [N .u64 x, pt bm 0, N .i64 sh, pt bt 0] NoPre [.blk bt (LV .u64 (D 8 T)) 84, .blk bm (LV .u64 (D 6 M)) 24]
      (fun v Wr => v = .tuple #[] ∧ Wr = [.blk bt (LV .u64 (D 8 ((T + x * M) / W ^ sh))) 84, .blk bm (LV .u64 (D 6 M)) 24]) := by
  refine mk_spec Try.func102 rfl rfl rfl fun w _ => ?_
  have hlm := D_len 6 M
  have hTW : T < W ^ 8 := by omega
  repeat (first|refine Z01 ?_|refine Z02 ?_|refine Z03 ?_|refine Z04 ?_|refine Z05 ?_|refine Z06 ?_|refine Z07 ?_|refine Z08 ?_|refine Z09 ?_|refine Z10 ?_|refine Z11 ?_|refine Z12 ?_|refine Z13 ?_|refine Z14 ?_|refine Z15 ?_|refine Z16 ?_|refine Z17 ?_|refine Z18 ?_|refine Z19 ?_|refine Z22 ?_|refine Z23 ?_|refine Z24 ?_|refine Z25 ?_|refine Z26 ?_|refine Z27 ?_|refine Z28 ?_|refine Z29 ?_|refine Z30 ?_|refine Z31 ?_|refine Z32 ?_|refine Z33 ?_|refine Z46 ?_|refine Z47 ?_|refine Z62 ?_|refine Z63 ?_|refine Z64 ?_|refine Z67 ?_|refine Z70 ?_|refine Z71 ?_|refine Z75 ?_|refine Z76 ?_)
  refine st_loop (ι := Nat × List Nat × Nat) (fun q => q.1 ≤ 6 ∧ q.2.1.length = 8 ∧ Lt 18446744073709551616 q.2.1 ∧ q.2.2 < 18446744073709551616 ∧ V q.2.1 + W ^ q.1 * q.2.2 = T + x * (M % W ^ q.1))
    (fun q => [(0, N .u64 x), (2, N .i64 sh), (3, pt bt 0), (7, N .u64 q.2.2), (14, pt bm 0), (15, N .i64 q.1)])
    (fun q => [.blk bt (LV .u64 q.2.1) 84, .blk bm (LV .u64 (D 6 M)) 24]) (fun q => 6 - q.1) (0, D 8 T, 0) ⟨by simp, D_len _ _, D_lt _ _, by simp, by simp only [Nat.pow_zero, Nat.mod_one, Nat.mul_zero, Nat.add_zero]; exact V_D' hTW⟩ (by repeat (first | apply subL.nil | refine subL.cons (by rfl) ?_)) (by repeat (first | apply SubW.nil | refine SubW.cons (by repeat first|apply Find.here|apply Find.there) ?_)) ?_
  rintro ⟨k, P, c⟩ ⟨hk, hPl, hPb, hc, hP⟩
  simp only at hk hPl hPb hc hP ⊢
  by_cases hk' : k < 6
  · have hyk := (D_lt 6 M).getD (by decide) k
    have hyv := D_getD' hM k
    have hpb := hPb.getD (by decide) k
    obtain ⟨hw1, hw2⟩ := mul_word hpb hc (mul_bound hx hyk)
    repeat (first|(refine st_cmp (r := true) (by rfl) (by rfl) (cmpN_t (by first | (simp only [cmpP]; done) | (simp only [cmpP]; omega))) (by rfl) ?_)|refine Z01 ?_|refine Z02 ?_|refine Z03 ?_|refine Z04 ?_|refine Z05 ?_|refine Z06 ?_|refine Z07 ?_|refine Z08 ?_|refine Z09 ?_|refine Z10 ?_|refine Z11 ?_|refine Z12 ?_|refine Z13 ?_|refine Z14 ?_|refine Z15 ?_|refine Z16 ?_|refine Z17 ?_|refine Z18 ?_|refine Z19 ?_|refine Z22 ?_|refine Z23 ?_|refine Z24 ?_|refine Z25 ?_|refine Z26 ?_|refine Z27 ?_|refine Z28 ?_|refine Z29 ?_|refine Z30 ?_|refine Z31 ?_|refine Z32 ?_|refine Z33 ?_|refine Z46 ?_|refine Z47 ?_|refine Z62 ?_|refine Z63 ?_|refine Z64 ?_|refine Z67 ?_|refine Z70 ?_|refine Z71 ?_|refine Z75 ?_|refine Z76 ?_)
    refine st_draw1 (by rfl) ?_
    repeat (first|refine Zqf (by intro _ _ _;(first|refine Z01 ?_|refine Z02 ?_|refine Z15 ?_|refine Z16 ?_|refine Z17 ?_|refine Z18 ?_|refine Z19 ?_|refine Z22 ?_|refine Z23 ?_|refine Z33 ?_|refine Z46 ?_|refine Z47 ?_|refine Z62 ?_|refine Z63 ?_|refine Z64 ?_|refine Z70 ?_|refine Z71 ?_);exact Zq) ?_|refine Zqp (by intro _ _ _;(first|refine Z24 ?_|refine Z25 ?_|refine Z26 ?_|refine Z27 ?_|refine Z28 ?_|refine Z67 ?_|refine Z23 ?_|refine Z62 ?_);exact Zq) ?_|refine Zqe (by intro _ _ _;(first|refine Z29 ?_|refine Z30 ?_|refine Z31 ?_|refine Z32 ?_);exact Zqq) ?_|refine Zqd (by intro _ _ _;(first|refine Z75 ?_|refine Z76 ?_);exact Zq) ?_|refine Zqn ?_)
    refine Zq0 ?_ (by kernel_rfl)
    repeat (first|(refine st_callV (by rfl) (by rfl) (by rfl) (mul64_spec x ((D 6 M).getD k 0) hx hyk) (fun _ _ => trivial) (by rfl) ?_)|(refine st_callX (by rfl) (by rfl) (by rfl) (add64X0 _ _) (by rfl) ?_)|refine Z01 ?_|refine Z02 ?_|refine Z03 ?_|refine Z04 ?_|refine Z05 ?_|refine Z06 ?_|refine Z07 ?_|refine Z08 ?_|refine Z09 ?_|refine Z10 ?_|refine Z11 ?_|refine Z12 ?_|refine Z13 ?_|refine Z14 ?_|refine Z15 ?_|refine Z16 ?_|refine Z17 ?_|refine Z18 ?_|refine Z19 ?_|refine Z22 ?_|refine Z23 ?_|refine Z24 ?_|refine Z25 ?_|refine Z26 ?_|refine Z27 ?_|refine Z28 ?_|refine Z29 ?_|refine Z30 ?_|refine Z31 ?_|refine Z32 ?_|refine Z33 ?_|refine Z46 ?_|refine Z47 ?_|refine Z62 ?_|refine Z63 ?_|refine Z64 ?_|refine Z67 ?_|refine Z70 ?_|refine Z71 ?_|refine Z75 ?_|refine Z76 ?_)
    refine st_round (k + 1, P.set k _, _) ⟨by simp only; omega, by simp only [List.length_set]; exact hPl, hPb.set (Nat.mod_lt _ (by decide)) _, hw2, ?_⟩ (by simp only; omega) (by repeat (first | apply subL.nil | refine subL.cons (by rfl) ?_)) (by repeat (first | apply SubW.nil | refine SubW.cons (by repeat first|apply Find.here|apply Find.there) ?_))
    simp only
    have hvs := V_set hPb k ((P.getD k 0 + (x * (D 6 M).getD k 0 % 18446744073709551616 + c) % 18446744073709551616) % 18446744073709551616) (by omega)
    rw [W_mod_succ, ← hyv, Nat.pow_succ]
    exact mont_inner hvs hw1 hP
  · have hke : k = 6 := by omega
    subst hke
    rw [Nat.mod_eq_of_lt hM] at hP
    have htop := mont_top hPl hPb hP hT
    have hg7 : (P.set 6 ((P.getD 6 0 + c) % 18446744073709551616)).getD 7 0 = P.getD 7 0 := by
      rw [List.getD_eq_getElem?_getD, List.getElem?_set_ne (by decide), ← List.getD_eq_getElem?_getD]
    have hl8 := D_len 8 (T + x * M)
    repeat (first|(refine st_cmp (r := false) (by rfl) (by rfl) (cmpN_f (by first | (simp only [cmpQ]; done) | (simp only [cmpQ]; omega))) (by rfl) ?_)|(refine st_callX (by rfl) (by rfl) (by rfl) (add64X0 _ _) (by rfl) ?_)|(rw [hg7])|(rw [htop])|refine Z01 ?_|refine Z02 ?_|refine Z03 ?_|refine Z04 ?_|refine Z05 ?_|refine Z06 ?_|refine Z07 ?_|refine Z08 ?_|refine Z09 ?_|refine Z10 ?_|refine Z11 ?_|refine Z12 ?_|refine Z13 ?_|refine Z14 ?_|refine Z15 ?_|refine Z16 ?_|refine Z17 ?_|refine Z18 ?_|refine Z19 ?_|refine Z22 ?_|refine Z23 ?_|refine Z24 ?_|refine Z25 ?_|refine Z26 ?_|refine Z27 ?_|refine Z28 ?_|refine Z29 ?_|refine Z30 ?_|refine Z31 ?_|refine Z32 ?_|refine Z33 ?_|refine Z46 ?_|refine Z47 ?_|refine Z62 ?_|refine Z63 ?_|refine Z64 ?_|refine Z67 ?_|refine Z70 ?_|refine Z71 ?_|refine Z75 ?_|refine Z76 ?_)
    obtain ⟨Z, hZ⟩ : ∃ Z, Z = T + x * M := ⟨_, rfl⟩
    rw [← hZ] at hl8 hT ⊢
    have h01 : sh = 0 ∨ sh = 1 := by omega
    rcases h01 with rfl | rfl
    · have e1 : List.take 0 (D 8 Z) ++ List.take (8 - 0) (List.drop 0 (List.take 8 (D 8 Z))) ++ List.drop (0 + min (List.drop 0 (List.take 8 (D 8 Z))).length (8 - 0)) (D 8 Z) = D 8 Z := by
        simp [hl8, List.take_of_length_le]
      have e2 : List.take 8 (D 8 Z) ++ List.replicate (8 - 8) 0 ++ List.drop 8 (D 8 Z) = D 8 Z := by
        simp [hl8, List.take_of_length_le]
      refine st_draw1 (by rfl) ?_
      repeat (first|refine Zqf (by intro _ _ _;(first|refine Z01 ?_|refine Z02 ?_|refine Z15 ?_|refine Z16 ?_|refine Z17 ?_|refine Z18 ?_|refine Z19 ?_|refine Z22 ?_|refine Z23 ?_|refine Z33 ?_|refine Z46 ?_|refine Z47 ?_|refine Z62 ?_|refine Z63 ?_|refine Z64 ?_|refine Z70 ?_|refine Z71 ?_);exact Zq) ?_|refine Zqp (by intro _ _ _;(first|refine Z24 ?_|refine Z25 ?_|refine Z26 ?_|refine Z27 ?_|refine Z28 ?_|refine Z67 ?_|refine Z23 ?_|refine Z62 ?_);exact Zq) ?_|refine Zqe (by intro _ _ _;(first|refine Z29 ?_|refine Z30 ?_|refine Z31 ?_|refine Z32 ?_);exact Zqq) ?_|refine Zqd (by intro _ _ _;(first|refine Z75 ?_|refine Z76 ?_);exact Zq) ?_|refine Zqn ?_)
      refine Zq0 ?_ (by kernel_rfl)
      rw [e1]
      repeat (first|(refine st_clear (by rfl) (by repeat first|apply Find.here|apply Find.there) (by rfl) (by rfl) hl8 (by omega) (by omega) ?_)|(rw [e2])|refine Z01 ?_|refine Z02 ?_|refine Z03 ?_|refine Z04 ?_|refine Z05 ?_|refine Z06 ?_|refine Z07 ?_|refine Z08 ?_|refine Z09 ?_|refine Z10 ?_|refine Z11 ?_|refine Z12 ?_|refine Z13 ?_|refine Z14 ?_|refine Z15 ?_|refine Z16 ?_|refine Z17 ?_|refine Z18 ?_|refine Z19 ?_|refine Z22 ?_|refine Z23 ?_|refine Z24 ?_|refine Z25 ?_|refine Z26 ?_|refine Z27 ?_|refine Z28 ?_|refine Z29 ?_|refine Z30 ?_|refine Z31 ?_|refine Z32 ?_|refine Z33 ?_|refine Z46 ?_|refine Z47 ?_|refine Z62 ?_|refine Z63 ?_|refine Z64 ?_|refine Z67 ?_|refine Z70 ?_|refine Z71 ?_|refine Z75 ?_|refine Z76 ?_)
      refine st_end0 (by rfl) fun _ hw => post_of hw (Wout := [.blk bt (LV .u64 (D 8 Z)) 84, .blk bm (LV .u64 (D 6 M)) 24]) (by exact (by repeat (first | apply SubW.nil | refine SubW.cons (by repeat first|apply Find.here|apply Find.there) ?_))) ⟨rfl, by rw [Nat.pow_zero, Nat.div_one]⟩
    · have hsh := D8_shift Z hT
      have a1 : (D 8 Z).take 8 = D 8 Z := List.take_of_length_le (by omega)
      have a2 : ((D 8 Z).drop 1).length = 7 := by rw [List.length_drop, hl8]
      have e1 : List.take 0 (D 8 Z) ++ List.take (8 - 0) (List.drop 1 (List.take 8 (D 8 Z))) ++ List.drop (0 + min (List.drop 1 (List.take 8 (D 8 Z))).length (8 - 0)) (D 8 Z) = (D 8 Z).drop 1 ++ (D 8 Z).drop 7 := by
        rw [a1, List.take_of_length_le (l := (D 8 Z).drop 1) (by omega), a2]; rfl
      have hl9 : ((D 8 Z).drop 1 ++ (D 8 Z).drop 7).length = 8 := by rw [List.length_append, a2, List.length_drop, hl8]
      have e2 : List.take 7 ((D 8 Z).drop 1 ++ (D 8 Z).drop 7) ++ List.replicate (8 - 7) 0 ++ List.drop 8 ((D 8 Z).drop 1 ++ (D 8 Z).drop 7) = D 8 (Z / W) := by
        rw [List.take_left' a2, List.drop_eq_nil_of_le (Nat.le_of_eq hl9), List.append_nil, ← hsh]; rfl
      refine st_draw1 (by rfl) ?_
      repeat (first|refine Zqf (by intro _ _ _;(first|refine Z01 ?_|refine Z02 ?_|refine Z15 ?_|refine Z16 ?_|refine Z17 ?_|refine Z18 ?_|refine Z19 ?_|refine Z22 ?_|refine Z23 ?_|refine Z33 ?_|refine Z46 ?_|refine Z47 ?_|refine Z62 ?_|refine Z63 ?_|refine Z64 ?_|refine Z70 ?_|refine Z71 ?_);exact Zq) ?_|refine Zqp (by intro _ _ _;(first|refine Z24 ?_|refine Z25 ?_|refine Z26 ?_|refine Z27 ?_|refine Z28 ?_|refine Z67 ?_|refine Z23 ?_|refine Z62 ?_);exact Zq) ?_|refine Zqe (by intro _ _ _;(first|refine Z29 ?_|refine Z30 ?_|refine Z31 ?_|refine Z32 ?_);exact Zqq) ?_|refine Zqd (by intro _ _ _;(first|refine Z75 ?_|refine Z76 ?_);exact Zq) ?_|refine Zqn ?_)
      refine Zq0 ?_ (by kernel_rfl)
      rw [e1]
      repeat (first|(refine st_clear (by rfl) (by repeat first|apply Find.here|apply Find.there) (by rfl) (by rfl) hl9 (by omega) (by omega) ?_)|(rw [e2])|refine Z01 ?_|refine Z02 ?_|refine Z03 ?_|refine Z04 ?_|refine Z05 ?_|refine Z06 ?_|refine Z07 ?_|refine Z08 ?_|refine Z09 ?_|refine Z10 ?_|refine Z11 ?_|refine Z12 ?_|refine Z13 ?_|refine Z14 ?_|refine Z15 ?_|refine Z16 ?_|refine Z17 ?_|refine Z18 ?_|refine Z19 ?_|refine Z22 ?_|refine Z23 ?_|refine Z24 ?_|refine Z25 ?_|refine Z26 ?_|refine Z27 ?_|refine Z28 ?_|refine Z29 ?_|refine Z30 ?_|refine Z31 ?_|refine Z32 ?_|refine Z33 ?_|refine Z46 ?_|refine Z47 ?_|refine Z62 ?_|refine Z63 ?_|refine Z64 ?_|refine Z67 ?_|refine Z70 ?_|refine Z71 ?_|refine Z75 ?_|refine Z76 ?_)
      refine st_end0 (by rfl) fun _ hw => post_of hw (Wout := [.blk bt (LV .u64 (D 8 (Z / W))) 84, .blk bm (LV .u64 (D 6 M)) 24]) (by exact (by repeat (first | apply SubW.nil | refine SubW.cons (by repeat first|apply Find.here|apply Find.there) ?_))) ⟨rfl, by rw [Nat.pow_one]⟩
def Ri : Nat := 3231460744492646417066832100176244795738767926513225105051837195607029917124509527734802654356338138714468589979680
theorem Ri_1 : W ^ 6 * Ri % p = 1 := by decide +kernel
theorem minus_p : 9940570264628428797 * p % 18446744073709551616 = 18446744073709551615 := by decide +kernel
theorem sq_lit : ([17644856173732828998, 754043588434789617, 10224657059481499349, 7488229067341005760, 11130996698012816685, 1267921511277847466] : List Nat) = D 6 (W ^ 12 % p) := by decide +kernel
attribute [irreducible] Ri
def redv (a b : Nat) : Nat := a * b * Ri % p
theorem redv_lt (a b : Nat) : redv a b < p := Nat.mod_lt _ p_pos
theorem redv_of {T a b : Nat} (h : T * W ^ 6 % p = a * b % p) : T % p = redv a b := by
  unfold redv
  rw [Nat.mul_mod, ← h, ← Nat.mul_mod, Nat.mul_assoc, Nat.mul_mod, Ri_1, Nat.mul_one, Nat.mod_mod]
theorem all_bits (u : Nat) : (u + u * 18446744073709551615 % 18446744073709551616) % 18446744073709551616 = 0 := by
  have e3 : u + u * 18446744073709551615 = u * 18446744073709551616 := by omega
  have e4 := Nat.add_mod_mod u (u * 18446744073709551615) 18446744073709551616
  rw [e3] at e4
  exact e4.trans (Nat.mul_mod_left _ _)
theorem round_dvd (T : Nat) : (T + T % 18446744073709551616 * 9940570264628428797 % 18446744073709551616 * p) % 18446744073709551616 = 0 := by
  have h := minus_p
  have e : T % 18446744073709551616 * 9940570264628428797 % 18446744073709551616 * p % 18446744073709551616 = T % 18446744073709551616 * 18446744073709551615 % 18446744073709551616 := by
    rw [Nat.mod_mul_mod, Nat.mul_assoc, Nat.mul_mod, h, Nat.mod_mod]
  rw [Nat.add_mod, e]
  exact all_bits _
theorem round_ok {T x b a i : Nat} (hT : T < 2 * p) (hx : x < 18446744073709551616) (hb : b < p) (h : T * W ^ i % p = a % W ^ i * b % p) (hxa : x = a / W ^ i % W) (m : Nat) (hm : m = (T + x * b) % 18446744073709551616 * 9940570264628428797 % 18446744073709551616) :
    (T + x * b + m * p) / W < 2 * p ∧ (T + x * b + m * p) / W * W ^ (i + 1) % p = a % W ^ (i + 1) * b % p := by
  have hm1 : m < 18446744073709551616 := by rw [hm]; exact Nat.mod_lt _ (by decide)
  have hd : W ∣ T + x * b + m * p := by rw [hm]; exact Nat.dvd_of_mod_eq_zero (round_dvd _)
  have h1 : x * b ≤ 18446744073709551615 * p := Nat.mul_le_mul (by omega) (Nat.le_of_lt hb)
  have h2 : m * p ≤ 18446744073709551615 * p := Nat.mul_le_mul (by omega) (Nat.le_refl _)
  constructor
  · refine Nat.div_lt_of_lt_mul ?_
    rw [show W = 18446744073709551616 from rfl]
    omega
  · have e : (T + x * b + m * p) / W * W ^ (i + 1) = (T + x * b + m * p) * W ^ i := by
      rw [Nat.pow_succ, Nat.mul_comm (W ^ i) W, ← Nat.mul_assoc, Nat.div_mul_cancel hd]
    rw [e, Nat.add_mul, Nat.mul_right_comm m p, Nat.add_mul_mod_self_right, Nat.add_mul, Nat.add_mod, h, ← Nat.add_mod, W_mod_succ, ← hxa, Nat.add_mul]
    congr 2
    rw [Nat.mul_right_comm, Nat.mul_comm x]
theorem psq_spec : Spec Try.prog 64 [] NoPre [] (IsV (LV .u64 (D 6 (W ^ 12 % p)))) := by
  refine mk_spec Try.func64 rfl rfl rfl fun w _ => ?_
  repeat (first|(refine st_alloc (v := LV .u64 (List.replicate 6 0)) (by rfl) (by rfl) fun _ => ?_)|(refine st_buildP (kk := .u64) (vs := [17644856173732828998, 754043588434789617, 10224657059481499349, 7488229067341005760, 11130996698012816685, 1267921511277847466]) (by rfl) (by rfl) (by rfl) (by rfl) (by rfl) (by rfl) (by rfl) (by rfl) ?_)|refine Z03 ?_|refine Z04 ?_|refine Z05 ?_|refine Z06 ?_|refine Z07 ?_|refine Z08 ?_|refine Z09 ?_|refine Z10 ?_|refine Z11 ?_|refine Z12 ?_|refine Z13 ?_|refine Z14 ?_|refine Z29 ?_|refine Z30 ?_|refine Z31 ?_|refine Z32 ?_|refine Z65 ?_|refine Z82 fun _ => ?_)
  refine Zec fun _ hw => post_of hw SubW.nil ⟨?_, rfl⟩
  rw [← sq_lit]; rfl
set_option maxHeartbeats 4000000 in
theorem predd_spec {a b : Nat} (ha : a < W ^ 6) (hb : b < p) : Spec Try.prog 63 [LV .u64 (D 6 a), LV .u64 (D 6 b)] NoPre [] (IsV (LV .u64 (D 6 (redv a b)))) := by
  refine mk_spec Try.func63 rfl rfl rfl fun w _ => ?_
  have hla := D_len 6 a
  have hlb := D_len 6 b
  have hlp := D_len 6 p
  have hpl := p_lt
  have hp2 := p2_lt
  repeat (first|(refine st_alloc (v := LV .u64 (List.replicate 6 0)) (by rfl) (by rfl) fun _ => ?_)|(refine st_alloc (v := LV .u64 (List.replicate 8 0)) (by rfl) (by rfl) fun _ => ?_)|(refine st_callV (by rfl) (by rfl) (by rfl) (pP_spec) (fun _ _ => trivial) (by rfl) ?_)|refine Z01 ?_|refine Z02 ?_|refine Z03 ?_|refine Z04 ?_|refine Z05 ?_|refine Z06 ?_|refine Z07 ?_|refine Z08 ?_|refine Z09 ?_|refine Z10 ?_|refine Z11 ?_|refine Z12 ?_|refine Z13 ?_|refine Z14 ?_|refine Z15 ?_|refine Z17 ?_|refine Z18 ?_|refine Z22 ?_|refine Z23 ?_|refine Z24 ?_|refine Z25 ?_|refine Z26 ?_|refine Z27 ?_|refine Z28 ?_|refine Z29 ?_|refine Z30 ?_|refine Z31 ?_|refine Z32 ?_|refine Z35 ?_|refine Z48 ?_|refine Z57 ?_|refine Z62 ?_|refine Z63 ?_|refine Z64 ?_|refine Z66 ?_|refine Z67 ?_|refine Z70 ?_|refine Z81 fun _ => ?_|refine Z82 fun _ => ?_)
  rename_i b2 b3 b4 b5 b6
  rw [show List.replicate 8 0 = D 8 0 from (D_zero 8).symm]
  refine st_loop (ι := Nat × Nat) (fun q => q.1 ≤ 6 ∧ q.2 < 2 * p ∧ q.2 * W ^ q.1 % p = a % W ^ q.1 * b % p)
    (fun q => [(3, pt b3 0), (4, pt b4 0), (5, pt b5 0), (6, pt b6 0), (7, .func (.func 102) #[] #[pt b6 0]), (12, LV .u64 (D 6 a)), (13, N .i64 q.1)])
    (fun q => [.blk b6 (LV .u64 (D 8 q.2)) 84, .blk b5 (LV .u64 (D 6 p)) 24, .blk b3 (LV .u64 (D 6 b)) 24, .blk b4 (LV .u64 (List.replicate 6 0)) 24]) (fun q => 6 - q.1) (0, 0) ⟨by simp, by have := p_pos; simp only; omega, by simp [Nat.mod_one]⟩ (by repeat (first | apply subL.nil | refine subL.cons (by rfl) ?_)) (by repeat (first | apply SubW.nil | refine SubW.cons (by repeat first|apply Find.here|apply Find.there) ?_)) ?_
  rintro ⟨i, T⟩ ⟨hi, hT, hq⟩
  simp only at hi hT hq ⊢
  have hT8 : T < W ^ 8 := Nat.lt_trans (Nat.lt_of_lt_of_le hT (by omega)) (Nat.lt_of_lt_of_le hp2 (W_le (by decide)))
  by_cases h : i < 6
  · have hxi := (D_lt 6 a).getD (by decide) i
    have hxv := D_getD' ha i
    generalize hx : (D 6 a).getD i 0 = x at hxi hxv
    obtain ⟨r1, r2⟩ := round_ok hT hxi hb hq hxv _ rfl
    have hW8 : W ^ 8 = 18446744073709551616 * 18446744073709551616 * W ^ 6 := by decide
    have h1 : x * b ≤ 18446744073709551615 * p := Nat.mul_le_mul (by omega) (Nat.le_of_lt hb)
    have t1 : T + x * b < W ^ 8 := by omega
    have hm1 : (T + x * b) % 18446744073709551616 * 9940570264628428797 % 18446744073709551616 < 18446744073709551616 := Nat.mod_lt _ (by decide)
    generalize hm : (T + x * b) % 18446744073709551616 * 9940570264628428797 % 18446744073709551616 = m at r1 r2 hm1
    have h2 : m * p ≤ 18446744073709551615 * p := Nat.mul_le_mul (by omega) (Nat.le_refl _)
    have t2 : T + x * b + m * p < W ^ 8 := by omega
    have hg : (D 8 (T + x * b)).getD 0 0 = (T + x * b) % 18446744073709551616 := by rw [D_getD' t1, Nat.pow_zero, Nat.div_one]; rfl
    have hl8 := D_len 8 (T + x * b)
    repeat (first|(refine st_cmp (r := true) (by rfl) (by rfl) (cmpN_t (by first | (simp only [cmpP]; done) | (simp only [cmpP]; omega))) (by rfl) ?_)|(rw [hx])|((refine st_call (by rfl) (by rfl) (by rfl) (pstep_spec x T b 0 b6 b3 hxi (Nat.lt_trans hb hpl) t1 (by decide)) (.cons (by repeat first|apply Find.here|apply Find.there) (.cons (by repeat first|apply Find.here|apply Find.there) .nil)) (fun _ _ => trivial) (by rfl) ?_; rintro _ _ ⟨rfl, rfl⟩; rw [Nat.pow_zero, Nat.div_one]))|(rw [hg])|(rw [hm])|((refine st_call (by rfl) (by rfl) (by rfl) (pstep_spec m (T + x * b) p 1 b6 b5 hm1 hpl t2 (by decide)) (.cons (by repeat first|apply Find.here|apply Find.there) (.cons (by repeat first|apply Find.here|apply Find.there) .nil)) (fun _ _ => trivial) (by rfl) ?_; rintro _ _ ⟨rfl, rfl⟩; rw [Nat.pow_one]))|refine Z01 ?_|refine Z02 ?_|refine Z03 ?_|refine Z04 ?_|refine Z05 ?_|refine Z06 ?_|refine Z07 ?_|refine Z08 ?_|refine Z09 ?_|refine Z10 ?_|refine Z11 ?_|refine Z12 ?_|refine Z13 ?_|refine Z14 ?_|refine Z15 ?_|refine Z17 ?_|refine Z18 ?_|refine Z22 ?_|refine Z23 ?_|refine Z24 ?_|refine Z25 ?_|refine Z26 ?_|refine Z27 ?_|refine Z28 ?_|refine Z29 ?_|refine Z30 ?_|refine Z31 ?_|refine Z32 ?_|refine Z35 ?_|refine Z48 ?_|refine Z57 ?_|refine Z62 ?_|refine Z63 ?_|refine Z64 ?_|refine Z66 ?_|refine Z67 ?_|refine Z70 ?_|refine Z81 fun _ => ?_|refine Z82 fun _ => ?_)
    exact st_round (i + 1, (T + x * b + m * p) / W) ⟨by simp only; omega, r1, r2⟩ (by simp only; omega) (by repeat (first | apply subL.nil | refine subL.cons (by rfl) ?_)) (by repeat (first | apply SubW.nil | refine SubW.cons (by repeat first|apply Find.here|apply Find.there) ?_))
  · have hie : i = 6 := by omega
    subst hie
    rw [Nat.mod_eq_of_lt ha] at hq
    have hv := redv_of hq
    have hT6 : T < W ^ 6 := by omega
    have hl8 := D_len 8 T
    have hg6 : (D 8 T).getD 6 0 = 0 := by rw [D_getD' hT8, Nat.div_eq_of_lt hT6, Nat.zero_mod]
    have htk : List.take 6 (List.drop 0 (List.take 6 (D 8 T))) = D 6 T := by
      rw [List.drop_zero, List.take_take, Nat.min_self, show (8 : Nat) = 6 + 2 from rfl, D_add, List.take_left' (D_len 6 T)]
    have hlv : lessv 6 p T 0 = redv a b := by
      rw [← hv]; unfold lessv
      rw [Nat.zero_mul, Nat.add_zero]
      by_cases hlt : T < p
      · rw [if_pos hlt, Nat.mod_eq_of_lt hlt]
      · rw [if_neg hlt, Nat.mod_eq_sub_mod (by omega), Nat.mod_eq_of_lt (by omega)]
    have hlr := D_len 6 (redv a b)
    repeat (first|(refine st_cmp (r := false) (by rfl) (by rfl) (cmpN_f (by first | (simp only [cmpQ]; done) | (simp only [cmpQ]; omega))) (by rfl) ?_)|refine Z01 ?_|refine Z02 ?_|refine Z03 ?_|refine Z04 ?_|refine Z05 ?_|refine Z06 ?_|refine Z07 ?_|refine Z08 ?_|refine Z09 ?_|refine Z10 ?_|refine Z11 ?_|refine Z12 ?_|refine Z13 ?_|refine Z14 ?_|refine Z15 ?_|refine Z17 ?_|refine Z18 ?_|refine Z22 ?_|refine Z23 ?_|refine Z24 ?_|refine Z25 ?_|refine Z26 ?_|refine Z27 ?_|refine Z28 ?_|refine Z29 ?_|refine Z30 ?_|refine Z31 ?_|refine Z32 ?_|refine Z35 ?_|refine Z48 ?_|refine Z57 ?_|refine Z62 ?_|refine Z63 ?_|refine Z64 ?_|refine Z66 ?_|refine Z67 ?_|refine Z70 ?_|refine Z81 fun _ => ?_|refine Z82 fun _ => ?_)
    refine st_draw1 (by rfl) ?_
    repeat (first|refine Zqf (by intro _ _ _;(first|refine Z01 ?_|refine Z02 ?_|refine Z15 ?_|refine Z17 ?_|refine Z18 ?_|refine Z22 ?_|refine Z23 ?_|refine Z35 ?_|refine Z48 ?_|refine Z57 ?_|refine Z62 ?_|refine Z63 ?_|refine Z64 ?_|refine Z66 ?_|refine Z70 ?_);exact Zq) ?_|refine Zqp (by intro _ _ _;(refine st_load_sptrN (ys := List.drop 0 (List.take 6 (D 8 T))) (by rfl) (by rfl) (by rfl) (RdW.arrN (by repeat first|apply Find.here|apply Find.there) (by omega) (by omega) hl8) (by rw [List.drop_zero, List.length_take]; omega) (by decide) (by rfl) ?_; rw [htk]);exact Zq) ?_|refine Zqp (by intro _ _ _;(refine st_load_N (by rfl) (by repeat first|apply Find.here|apply Find.there) (by omega) (by rfl) (by rfl) ?_; rw [hg6]);exact Zq) ?_|refine Zqp (by intro _ _ _;(refine st_callV (by rfl) (by rfl) (by rfl) (pless_spec hT6 (Nat.zero_le 1)) (fun _ _ => trivial) (by rfl) ?_; rw [hlv]);exact Zq) ?_|refine Zqp (by intro _ _ _;(first|refine Z24 ?_|refine Z25 ?_|refine Z26 ?_|refine Z27 ?_|refine Z28 ?_|refine Z67 ?_|refine Z23 ?_|refine Z62 ?_|refine Z66 ?_);exact Zq) ?_|refine Zqe (by intro _ _ _;(first|refine Z29 ?_|refine Z30 ?_|refine Z31 ?_|refine Z32 ?_);exact Zqq) ?_|refine Zqn ?_)
    refine Zq0 ?_ (by kernel_rfl)
    repeat (first|refine Z01 ?_|refine Z02 ?_|refine Z03 ?_|refine Z04 ?_|refine Z05 ?_|refine Z06 ?_|refine Z07 ?_|refine Z08 ?_|refine Z09 ?_|refine Z10 ?_|refine Z11 ?_|refine Z12 ?_|refine Z13 ?_|refine Z14 ?_|refine Z15 ?_|refine Z17 ?_|refine Z18 ?_|refine Z22 ?_|refine Z23 ?_|refine Z24 ?_|refine Z25 ?_|refine Z26 ?_|refine Z27 ?_|refine Z28 ?_|refine Z29 ?_|refine Z30 ?_|refine Z31 ?_|refine Z32 ?_|refine Z35 ?_|refine Z48 ?_|refine Z57 ?_|refine Z62 ?_|refine Z63 ?_|refine Z64 ?_|refine Z66 ?_|refine Z67 ?_|refine Z70 ?_|refine Z81 fun _ => ?_|refine Z82 fun _ => ?_)
    refine Zec fun _ hw => post_of hw SubW.nil ⟨?_, rfl⟩
    rfl
end Go.Proofs.Ytbpmbdlgmmabcaa.L
namespace Go.Proofs.Ytbpmbdlgmmabcaa.L
open Go Go.Proofs
set_option maxRecDepth 100000
attribute [local irreducible] Code.wp wpList Af bodyPost L.Go
open Num
attribute [local simp] D_len
theorem Ri_2 : Ri * (W ^ 12 % p) * Ri % p = 1 := by decide +kernel
theorem Ri_3 : (W ^ 12 % p) * Ri % p = W ^ 6 % p := by decide +kernel
theorem redv_mod (a b : Nat) : redv (a % p) (b % p) = redv a b := by
  unfold redv
  rw [Nat.mul_mod (a % p * (b % p)), ← Nat.mul_mod a b, ← Nat.mul_mod]
theorem redv_l (a b : Nat) : redv (a % p) b = redv a b := by
  unfold redv
  rw [Nat.mul_assoc, Nat.mod_mul_mod, ← Nat.mul_assoc]
theorem redv_two (a b : Nat) : redv (redv a b) (W ^ 12 % p) = a * b % p := by
  show redv (a * b * Ri % p) (W ^ 12 % p) = _
  rw [redv_l]
  unfold redv
  have e : a * b * Ri * (W ^ 12 % p) * Ri = a * b * (Ri * (W ^ 12 % p) * Ri) := by
    generalize W ^ 12 % p = s
    simp only [Nat.mul_assoc]
  rw [e, Nat.mul_mod, Ri_2, Nat.mul_one, Nat.mod_mod]
theorem redv_pt (a b : Nat) : redv a b < W ^ 6 := Nat.lt_trans (redv_lt a b) p_lt
theorem sq_lt : W ^ 12 % p < p := Nat.mod_lt _ p_pos
theorem pmul_spec {a b : Nat} (ha : a < W ^ 6) (hb : b < W ^ 6) : Spec Try.prog 25 [LV .u64 (D 6 a), LV .u64 (D 6 b)] NoPre [] (IsV (LV .u64 (D 6 (a * b % p)))) := by
  refine mk_spec Try.func25 rfl rfl rfl fun w _ => ?_
  have hl0 := fun x => D_len 6 x
  have e1 := redv_mod a b
  have e2 := redv_two a b
  repeat (first|(refine st_alloc (v := LV .u64 (List.replicate 6 0)) (by rfl) (by rfl) fun _ => ?_)|refine Z03 ?_|refine Z04 ?_|refine Z05 ?_|refine Z06 ?_|refine Z07 ?_|refine Z08 ?_|refine Z09 ?_|refine Z10 ?_|refine Z11 ?_|refine Z12 ?_|refine Z13 ?_|refine Z14 ?_|refine Z24 ?_|refine Z25 ?_|refine Z26 ?_|refine Z27 ?_|refine Z28 ?_|refine Z29 ?_|refine Z30 ?_|refine Z31 ?_|refine Z32 ?_|refine Z67 ?_|refine Z81 fun _ => ?_|refine Z82 fun _ => ?_)
  refine st_draw1 (by rfl) ?_
  repeat (first|refine Zqf (by intro _ _ _;(first|contradiction);exact Zq) ?_|refine Zqp (by intro _ _ _;refine st_callV (by rfl) (by rfl) (by rfl) (preduce_spec ha) (fun _ _ => trivial) (by rfl) ?_;exact Zq) ?_|refine Zqp (by intro _ _ _;refine st_callV (by rfl) (by rfl) (by rfl) (preduce_spec hb) (fun _ _ => trivial) (by rfl) ?_;exact Zq) ?_|refine Zqp (by intro _ _ _;(refine st_callV (by rfl) (by rfl) (by rfl) (predd_spec (mod_p a) (Nat.mod_lt b p_pos)) (fun _ _ => trivial) (by rfl) ?_; rw [e1]);exact Zq) ?_|refine Zqp (by intro _ _ _;refine st_callV (by rfl) (by rfl) (by rfl) (psq_spec) (fun _ _ => trivial) (by rfl) ?_;exact Zq) ?_|refine Zqp (by intro _ _ _;(refine st_callV (by rfl) (by rfl) (by rfl) (predd_spec (redv_pt a b) sq_lt) (fun _ _ => trivial) (by rfl) ?_; rw [e2]);exact Zq) ?_|refine Zqp (by intro _ _ _;(first|refine Z24 ?_|refine Z25 ?_|refine Z26 ?_|refine Z27 ?_|refine Z28 ?_|refine Z67 ?_);exact Zq) ?_|refine Zqe (by intro _ _ _;(first|refine Z29 ?_|refine Z30 ?_|refine Z31 ?_|refine Z32 ?_);exact Zqq) ?_|refine Zqn ?_)
  refine Zq0 ?_ (by kernel_rfl)
  repeat (first|refine Z03 ?_|refine Z04 ?_|refine Z05 ?_|refine Z06 ?_|refine Z07 ?_|refine Z08 ?_|refine Z09 ?_|refine Z10 ?_|refine Z11 ?_|refine Z12 ?_|refine Z13 ?_|refine Z14 ?_|refine Z24 ?_|refine Z25 ?_|refine Z26 ?_|refine Z27 ?_|refine Z28 ?_|refine Z29 ?_|refine Z30 ?_|refine Z31 ?_|refine Z32 ?_|refine Z67 ?_|refine Z81 fun _ => ?_|refine Z82 fun _ => ?_)
  refine Zec fun _ hw => post_of hw SubW.nil ⟨?_, rfl⟩
  rfl
set_option maxHeartbeats 2000000 in
theorem pneg_spec {a : Nat} (ha : a < W ^ 6) : Spec Try.prog 52 [LV .u64 (D 6 a)] NoPre [] (IsV (LV .u64 (D 6 ((p - a % p) % p)))) := by
  refine mk_spec Try.func52 rfl rfl rfl fun w _ => ?_
  have hl0 := fun x => D_len 6 x
  have hA := Nat.mod_lt a p_pos
  have hlp := hl0 p
  repeat (first|(refine st_alloc (v := LV .u64 (List.replicate 6 0)) (by rfl) (by rfl) fun _ => ?_)|(refine st_callV (by rfl) (by rfl) (by rfl) (preduce_spec ha) (fun _ _ => trivial) (by rfl) ?_)|(refine st_callV (by rfl) (by rfl) (by rfl) (pP_spec) (fun _ _ => trivial) (by rfl) ?_)|refine Z01 ?_|refine Z02 ?_|refine Z03 ?_|refine Z04 ?_|refine Z05 ?_|refine Z06 ?_|refine Z07 ?_|refine Z08 ?_|refine Z09 ?_|refine Z10 ?_|refine Z11 ?_|refine Z12 ?_|refine Z13 ?_|refine Z14 ?_|refine Z15 ?_|refine Z17 ?_|refine Z18 ?_|refine Z19 ?_|refine Z22 ?_|refine Z23 ?_|refine Z24 ?_|refine Z25 ?_|refine Z26 ?_|refine Z27 ?_|refine Z28 ?_|refine Z29 ?_|refine Z30 ?_|refine Z31 ?_|refine Z32 ?_|refine Z67 ?_|refine Z70 ?_|refine Z81 fun _ => ?_|refine Z82 fun _ => ?_)
  generalize a % p = A at *
  have hpl := p_lt
  have hAl : A < W ^ 6 := by omega
  have hla := hl0 A
  rename_i b1 b2 b3
  refine st_loop (ι := Nat) (fun i => i ≤ 6) (fun i => [(1, pt b1 0), (2, pt b2 0), (3, pt b3 0), (4, N .u64 (crun subg (D 6 p) (D 6 A) i).2), (9, N .i64 i)])
    (fun i => [.blk b3 (LV .u64 ((crun subg (D 6 p) (D 6 A) i).1 ++ (D 6 p).drop i)) 24, .blk b1 (LV .u64 (D 6 A)) 24, .blk b2 (LV .u64 (List.replicate 6 0)) 24]) (fun i => 6 - i) 0 (by omega) (by rw [crun_0]; exact (by repeat (first | apply subL.nil | refine subL.cons (by rfl) ?_))) (by rw [crun_0]; exact (by repeat (first | apply SubW.nil | refine SubW.cons (by repeat first|apply Find.here|apply Find.there) ?_))) ?_
  intro i hi
  have hc1 := crun_subD_le 6 p A i
  have hl := crun_len subg (D 6 p) (D 6 A) i
  have hol : ((crun subg (D 6 p) (D 6 A) i).1 ++ (D 6 p).drop i).length = 6 := by simp; omega
  have hdg := drop_get (xs := D 6 p) hl
  by_cases h : i < 6
  · repeat (first|(refine st_cmp (r := true) (by rfl) (by rfl) (cmpN_t (by first | (simp only [cmpP]; done) | (simp only [cmpP]; omega))) (by rfl) ?_)|refine Z01 ?_|refine Z02 ?_|refine Z03 ?_|refine Z04 ?_|refine Z05 ?_|refine Z06 ?_|refine Z07 ?_|refine Z08 ?_|refine Z09 ?_|refine Z10 ?_|refine Z11 ?_|refine Z12 ?_|refine Z13 ?_|refine Z14 ?_|refine Z15 ?_|refine Z17 ?_|refine Z18 ?_|refine Z19 ?_|refine Z22 ?_|refine Z23 ?_|refine Z24 ?_|refine Z25 ?_|refine Z26 ?_|refine Z27 ?_|refine Z28 ?_|refine Z29 ?_|refine Z30 ?_|refine Z31 ?_|refine Z32 ?_|refine Z67 ?_|refine Z70 ?_|refine Z81 fun _ => ?_|refine Z82 fun _ => ?_)
    refine st_draw1 (by rfl) ?_
    repeat (first|refine Zqf (by intro _ _ _;(first|(refine st_callX (by rfl) (by rfl) (by rfl) (sub64X _ _ _ hc1) (by rfl) ?_)|refine Z01 ?_|refine Z02 ?_|refine Z15 ?_|refine Z17 ?_|refine Z18 ?_|refine Z19 ?_|refine Z22 ?_|refine Z23 ?_|refine Z70 ?_);exact Zq) ?_|refine Zqp (by intro _ _ _;(first|refine Z24 ?_|refine Z25 ?_|refine Z26 ?_|refine Z27 ?_|refine Z28 ?_|refine Z67 ?_|refine Z23 ?_);exact Zq) ?_|refine Zqe (by intro _ _ _;(first|refine Z29 ?_|refine Z30 ?_|refine Z31 ?_|refine Z32 ?_);exact Zqq) ?_|refine Zqn ?_)
    refine Zq0 ?_ (by kernel_rfl)
    rw [hdg, ← subg_fst, ← subg_snd, ← crun_snd, crun_drop subg (D 6 p) (D 6 A) i (by omega)]
    repeat (first|refine Z01 ?_|refine Z02 ?_|refine Z03 ?_|refine Z04 ?_|refine Z05 ?_|refine Z06 ?_|refine Z07 ?_|refine Z08 ?_|refine Z09 ?_|refine Z10 ?_|refine Z11 ?_|refine Z12 ?_|refine Z13 ?_|refine Z14 ?_|refine Z15 ?_|refine Z17 ?_|refine Z18 ?_|refine Z19 ?_|refine Z22 ?_|refine Z23 ?_|refine Z24 ?_|refine Z25 ?_|refine Z26 ?_|refine Z27 ?_|refine Z28 ?_|refine Z29 ?_|refine Z30 ?_|refine Z31 ?_|refine Z32 ?_|refine Z67 ?_|refine Z70 ?_|refine Z81 fun _ => ?_|refine Z82 fun _ => ?_)
    exact st_round (i + 1) (by omega) (by omega) (by repeat (first | apply subL.nil | refine subL.cons (by rfl) ?_)) (by repeat (first | apply SubW.nil | refine SubW.cons (by repeat first|apply Find.here|apply Find.there) ?_))
  · have hie : i = 6 := by omega
    subst hie
    have hdr : (D 6 p).drop 6 = [] := List.drop_eq_nil_of_le (by omega)
    rw [crun_subD hpl hAl, hdr, List.append_nil, D_sbn (Nat.le_of_lt hA)] at *
    simp only at *
    have hv : lessv 6 p (p - A) 0 = (p - A) % p := by
      unfold lessv
      rw [Nat.zero_mul, Nat.add_zero]
      rcases Nat.eq_zero_or_pos A with h0 | h0
      · subst h0; rw [Nat.sub_zero, if_neg (by omega), Nat.sub_self, Nat.mod_self]
      · rw [if_pos (by omega), Nat.mod_eq_of_lt (by omega)]
    have hl3 := hl0 ((p - A) % p)
    repeat (first|(refine st_cmp (r := false) (by rfl) (by rfl) (cmpN_f (by first | (simp only [cmpQ]; done) | (simp only [cmpQ]; omega))) (by rfl) ?_)|((refine st_callV (by rfl) (by rfl) (by rfl) (pless_spec (a := p - A) (by omega) (Nat.zero_le 1)) (fun _ _ => trivial) (by rfl) ?_; rw [hv]))|refine Z01 ?_|refine Z02 ?_|refine Z03 ?_|refine Z04 ?_|refine Z05 ?_|refine Z06 ?_|refine Z07 ?_|refine Z08 ?_|refine Z09 ?_|refine Z10 ?_|refine Z11 ?_|refine Z12 ?_|refine Z13 ?_|refine Z14 ?_|refine Z15 ?_|refine Z17 ?_|refine Z18 ?_|refine Z19 ?_|refine Z22 ?_|refine Z23 ?_|refine Z24 ?_|refine Z25 ?_|refine Z26 ?_|refine Z27 ?_|refine Z28 ?_|refine Z29 ?_|refine Z30 ?_|refine Z31 ?_|refine Z32 ?_|refine Z67 ?_|refine Z70 ?_|refine Z81 fun _ => ?_|refine Z82 fun _ => ?_)
    refine Zec fun _ hw => post_of hw SubW.nil ⟨?_, rfl⟩
    rfl
theorem psub_spec {a b : Nat} (ha : a < W ^ 6) (hb : b < W ^ 6) : Spec Try.prog 54 [LV .u64 (D 6 a), LV .u64 (D 6 b)] NoPre [] (IsV (LV .u64 (D 6 ((a + (p - b % p) % p) % p)))) := by
  refine mk_spec Try.func54 rfl rfl rfl fun w _ => ?_
  have hl0 := fun x => D_len 6 x
  repeat (first|(refine st_alloc (v := LV .u64 (List.replicate 6 0)) (by rfl) (by rfl) fun _ => ?_)|refine Z03 ?_|refine Z04 ?_|refine Z05 ?_|refine Z06 ?_|refine Z07 ?_|refine Z08 ?_|refine Z09 ?_|refine Z10 ?_|refine Z11 ?_|refine Z12 ?_|refine Z13 ?_|refine Z14 ?_|refine Z24 ?_|refine Z25 ?_|refine Z26 ?_|refine Z27 ?_|refine Z28 ?_|refine Z29 ?_|refine Z30 ?_|refine Z31 ?_|refine Z32 ?_|refine Z67 ?_|refine Z81 fun _ => ?_|refine Z82 fun _ => ?_)
  refine st_draw1 (by rfl) ?_
  repeat (first|refine Zqf (by intro _ _ _;(first|contradiction);exact Zq) ?_|refine Zqp (by intro _ _ _;refine st_callV (by rfl) (by rfl) (by rfl) (pneg_spec hb) (fun _ _ => trivial) (by rfl) ?_;exact Zq) ?_|refine Zqp (by intro _ _ _;refine st_callV (by rfl) (by rfl) (by rfl) (padd_spec ha (mod_p (p - b % p))) (fun _ _ => trivial) (by rfl) ?_;exact Zq) ?_|refine Zqp (by intro _ _ _;(first|refine Z24 ?_|refine Z25 ?_|refine Z26 ?_|refine Z27 ?_|refine Z28 ?_|refine Z67 ?_);exact Zq) ?_|refine Zqe (by intro _ _ _;(first|refine Z29 ?_|refine Z30 ?_|refine Z31 ?_|refine Z32 ?_);exact Zqq) ?_|refine Zqn ?_)
  refine Zq0 ?_ (by kernel_rfl)
  repeat (first|refine Z03 ?_|refine Z04 ?_|refine Z05 ?_|refine Z06 ?_|refine Z07 ?_|refine Z08 ?_|refine Z09 ?_|refine Z10 ?_|refine Z11 ?_|refine Z12 ?_|refine Z13 ?_|refine Z14 ?_|refine Z24 ?_|refine Z25 ?_|refine Z26 ?_|refine Z27 ?_|refine Z28 ?_|refine Z29 ?_|refine Z30 ?_|refine Z31 ?_|refine Z32 ?_|refine Z67 ?_|refine Z81 fun _ => ?_|refine Z82 fun _ => ?_)
  refine Zec fun _ hw => post_of hw SubW.nil ⟨?_, rfl⟩
  rfl
set_option maxHeartbeats 2000000 in
theorem minusOf_spec {a b : Nat} (ha : a < W ^ 6) (hb : b ≤ a) : Spec Try.prog 101 [LV .u64 (D 6 a), LV .u64 (D 6 b)] NoPre [] (IsV (LV .u64 (D 6 (a - b)))) := by
  refine mk_spec Try.func101 rfl rfl rfl fun w _ => ?_
  have hl0 := fun x => D_len 6 x
  have hla := hl0 a
  repeat (first|(refine st_alloc (v := LV .u64 (List.replicate 6 0)) (by rfl) (by rfl) fun _ => ?_)|refine Z01 ?_|refine Z02 ?_|refine Z03 ?_|refine Z04 ?_|refine Z05 ?_|refine Z06 ?_|refine Z07 ?_|refine Z08 ?_|refine Z09 ?_|refine Z10 ?_|refine Z11 ?_|refine Z12 ?_|refine Z13 ?_|refine Z14 ?_|refine Z15 ?_|refine Z17 ?_|refine Z18 ?_|refine Z19 ?_|refine Z22 ?_|refine Z23 ?_|refine Z24 ?_|refine Z25 ?_|refine Z26 ?_|refine Z27 ?_|refine Z28 ?_|refine Z29 ?_|refine Z30 ?_|refine Z31 ?_|refine Z32 ?_|refine Z67 ?_|refine Z70 ?_|refine Z81 fun _ => ?_|refine Z82 fun _ => ?_)
  rename_i b2 b3 b4
  refine st_loop (ι := Nat) (fun i => i ≤ 6) (fun i => [(2, pt b2 0), (3, pt b3 0), (4, pt b4 0), (5, N .u64 (crun subg (D 6 a) (D 6 b) i).2), (7, N .i64 i)])
    (fun i => [.blk b2 (LV .u64 ((crun subg (D 6 a) (D 6 b) i).1 ++ (D 6 a).drop i)) 24, .blk b3 (LV .u64 (D 6 b)) 24, .blk b4 (LV .u64 (List.replicate 6 0)) 24]) (fun i => 6 - i) 0 (by omega) (by rw [crun_0]; exact (by repeat (first | apply subL.nil | refine subL.cons (by rfl) ?_))) (by rw [crun_0]; exact (by repeat (first | apply SubW.nil | refine SubW.cons (by repeat first|apply Find.here|apply Find.there) ?_))) ?_
  intro i hi
  have hc1 := crun_subD_le 6 a b i
  have hl := crun_len subg (D 6 a) (D 6 b) i
  have hol : ((crun subg (D 6 a) (D 6 b) i).1 ++ (D 6 a).drop i).length = 6 := by simp; omega
  have hdg := drop_get (xs := D 6 a) hl
  by_cases h : i < 6
  · repeat (first|(refine st_cmp (r := true) (by rfl) (by rfl) (cmpN_t (by first | (simp only [cmpP]; done) | (simp only [cmpP]; omega))) (by rfl) ?_)|refine Z01 ?_|refine Z02 ?_|refine Z03 ?_|refine Z04 ?_|refine Z05 ?_|refine Z06 ?_|refine Z07 ?_|refine Z08 ?_|refine Z09 ?_|refine Z10 ?_|refine Z11 ?_|refine Z12 ?_|refine Z13 ?_|refine Z14 ?_|refine Z15 ?_|refine Z17 ?_|refine Z18 ?_|refine Z19 ?_|refine Z22 ?_|refine Z23 ?_|refine Z24 ?_|refine Z25 ?_|refine Z26 ?_|refine Z27 ?_|refine Z28 ?_|refine Z29 ?_|refine Z30 ?_|refine Z31 ?_|refine Z32 ?_|refine Z67 ?_|refine Z70 ?_|refine Z81 fun _ => ?_|refine Z82 fun _ => ?_)
    refine st_draw1 (by rfl) ?_
    repeat (first|refine Zqf (by intro _ _ _;(first|(refine st_callX (by rfl) (by rfl) (by rfl) (sub64X _ _ _ hc1) (by rfl) ?_)|refine Z01 ?_|refine Z02 ?_|refine Z15 ?_|refine Z17 ?_|refine Z18 ?_|refine Z19 ?_|refine Z22 ?_|refine Z23 ?_|refine Z70 ?_);exact Zq) ?_|refine Zqp (by intro _ _ _;(first|refine Z24 ?_|refine Z25 ?_|refine Z26 ?_|refine Z27 ?_|refine Z28 ?_|refine Z67 ?_|refine Z23 ?_);exact Zq) ?_|refine Zqe (by intro _ _ _;(first|refine Z29 ?_|refine Z30 ?_|refine Z31 ?_|refine Z32 ?_);exact Zqq) ?_|refine Zqn ?_)
    refine Zq0 ?_ (by kernel_rfl)
    rw [hdg, ← subg_fst, ← subg_snd, ← crun_snd, crun_drop subg (D 6 a) (D 6 b) i (by omega)]
    repeat (first|refine Z01 ?_|refine Z02 ?_|refine Z03 ?_|refine Z04 ?_|refine Z05 ?_|refine Z06 ?_|refine Z07 ?_|refine Z08 ?_|refine Z09 ?_|refine Z10 ?_|refine Z11 ?_|refine Z12 ?_|refine Z13 ?_|refine Z14 ?_|refine Z15 ?_|refine Z17 ?_|refine Z18 ?_|refine Z19 ?_|refine Z22 ?_|refine Z23 ?_|refine Z24 ?_|refine Z25 ?_|refine Z26 ?_|refine Z27 ?_|refine Z28 ?_|refine Z29 ?_|refine Z30 ?_|refine Z31 ?_|refine Z32 ?_|refine Z67 ?_|refine Z70 ?_|refine Z81 fun _ => ?_|refine Z82 fun _ => ?_)
    exact st_round (i + 1) (by omega) (by omega) (by repeat (first | apply subL.nil | refine subL.cons (by rfl) ?_)) (by repeat (first | apply SubW.nil | refine SubW.cons (by repeat first|apply Find.here|apply Find.there) ?_))
  · have hie : i = 6 := by omega
    subst hie
    have hdr : (D 6 a).drop 6 = [] := List.drop_eq_nil_of_le (by omega)
    rw [crun_subD ha (Nat.lt_of_le_of_lt hb ha), hdr, List.append_nil, D_sbn hb] at *
    simp only at *
    have hl3 := hl0 (a - b)
    repeat (first|(refine st_cmp (r := false) (by rfl) (by rfl) (cmpN_f (by first | (simp only [cmpQ]; done) | (simp only [cmpQ]; omega))) (by rfl) ?_)|refine Z01 ?_|refine Z02 ?_|refine Z03 ?_|refine Z04 ?_|refine Z05 ?_|refine Z06 ?_|refine Z07 ?_|refine Z08 ?_|refine Z09 ?_|refine Z10 ?_|refine Z11 ?_|refine Z12 ?_|refine Z13 ?_|refine Z14 ?_|refine Z15 ?_|refine Z17 ?_|refine Z18 ?_|refine Z19 ?_|refine Z22 ?_|refine Z23 ?_|refine Z24 ?_|refine Z25 ?_|refine Z26 ?_|refine Z27 ?_|refine Z28 ?_|refine Z29 ?_|refine Z30 ?_|refine Z31 ?_|refine Z32 ?_|refine Z67 ?_|refine Z70 ?_|refine Z81 fun _ => ?_|refine Z82 fun _ => ?_)
    refine Zec fun _ hw => post_of hw SubW.nil ⟨?_, rfl⟩
    rfl
theorem one6 : ([1] ++ List.replicate (6 - [1].length) 0 : List Nat) = D 6 1 := by decide +kernel
theorem zero6 : ([] ++ List.replicate (6 - ([] : List Nat).length) 0 : List Nat) = D 6 0 := by rw [D_zero]; rfl
theorem pw_sq (a x : Nat) : redv (a ^ x * W ^ 6 % p) (a ^ x * W ^ 6 % p) = a ^ (2 * x) * W ^ 6 % p := by
  rw [redv_mod]
  unfold redv
  have e : a ^ x * W ^ 6 * (a ^ x * W ^ 6) * Ri = a ^ (2 * x) * W ^ 6 * (W ^ 6 * Ri) := by
    rw [Nat.two_mul, Nat.pow_add]
    generalize a ^ x = y; generalize W ^ 6 = z
    simp only [Nat.mul_assoc, Nat.mul_left_comm]
  rw [e, Nat.mul_mod, Ri_1, Nat.mul_one, Nat.mod_mod]
theorem pw_mul (a x : Nat) : redv (a ^ x * W ^ 6 % p) (a * W ^ 6 % p) = a ^ (x + 1) * W ^ 6 % p := by
  rw [redv_mod]
  unfold redv
  have e : a ^ x * W ^ 6 * (a * W ^ 6) * Ri = a ^ (x + 1) * W ^ 6 * (W ^ 6 * Ri) := by
    rw [Nat.pow_succ a x]
    generalize a ^ x = y; generalize W ^ 6 = z
    simp only [Nat.mul_assoc, Nat.mul_left_comm]
  rw [e, Nat.mul_mod, Ri_1, Nat.mul_one, Nat.mod_mod]
theorem pw_base (a : Nat) : redv (a % p) (W ^ 12 % p) = a * W ^ 6 % p := by
  rw [redv_l]
  unfold redv
  rw [Nat.mul_assoc, Nat.mul_mod, Ri_3, ← Nat.mul_mod]
theorem pw_one' : redv 1 (W ^ 12 % p) = 1 * W ^ 6 % p := by decide +kernel
theorem pw_end (y : Nat) : redv (y * W ^ 6 % p) 1 = y % p := by
  rw [redv_l]
  unfold redv
  rw [Nat.mul_one, Nat.mul_assoc, Nat.mul_mod, Ri_1, Nat.mul_one, Nat.mod_mod]
theorem bit_and6 {ys : List Nat} (hy : Lt 18446744073709551616 ys) (i : Nat) : (ys.getD (i / 64) 0 >>> (i % 64) % 18446744073709551616 &&& 1 % 18446744073709551616) = V ys / 2 ^ i % 2 := by
  rw [show 1 % 18446744073709551616 = 1 from rfl, Nat.and_one_is_mod, Nat.mod_mod_of_dvd _ (by decide), V_getD hy]
  exact word_bit _ _
set_option maxHeartbeats 4000000 in
theorem ppow_spec {a : Nat} (ha : a < W ^ 6) (s : Value) (xs : List Nat) (hx : Lt 18446744073709551616 xs) (hl : xs.length < 65536) :
    Spec Try.prog 97 [LV .u64 (D 6 a), s] (fun w => Rd w s (xs.map (N .u64))) [] (IsV (LV .u64 (D 6 (a ^ V xs % p)))) := by
  refine mk_spec Try.func97 rfl rfl rfl fun w hr => ?_
  have hr := RdC.mk0 hr
  have hl0 := fun x => D_len 6 x
  have e1 := pw_base a
  have h1W : 1 < W ^ 6 := by decide
  have h1p : 1 < p := p_prime.1
  have hz : V xs / 2 ^ (64 * xs.length) = 0 := Nat.div_eq_of_lt (by rw [Nat.pow_mul, ← W_2]; exact V_lt hx)
  repeat (first|(refine st_alloc (v := LV .u64 (List.replicate 6 0)) (by rfl) (by rfl) fun _ => ?_)|(refine st_callV (by rfl) (by rfl) (by rfl) (preduce_spec ha) (fun _ _ => trivial) (by rfl) ?_)|(refine st_callV (by rfl) (by rfl) (by rfl) (psq_spec) (fun _ _ => trivial) (by rfl) ?_)|((refine st_callV (by rfl) (by rfl) (by rfl) (predd_spec (mod_p a) sq_lt) (fun _ _ => trivial) (by rfl) ?_; rw [e1]))|((refine st_buildP (kk := .u64) (vs := [1]) (by rfl) (by rfl) (by rfl) (by rfl) (by rfl) (by rfl) (by rfl) (by rfl) ?_; rw [one6]))|((refine st_callV (by rfl) (by rfl) (by rfl) (predd_spec h1W sq_lt) (fun _ _ => trivial) (by rfl) ?_; rw [pw_one']))|refine Z01 ?_|refine Z02 ?_|refine Z03 ?_|refine Z04 ?_|refine Z05 ?_|refine Z06 ?_|refine Z07 ?_|refine Z08 ?_|refine Z09 ?_|refine Z10 ?_|refine Z11 ?_|refine Z12 ?_|refine Z13 ?_|refine Z14 ?_|refine Z16 ?_|refine Z17 ?_|refine Z18 ?_|refine Z20 ?_|refine Z21 ?_|refine Z22 ?_|refine Z23 ?_|refine Z24 ?_|refine Z25 ?_|refine Z26 ?_|refine Z27 ?_|refine Z28 ?_|refine Z29 ?_|refine Z30 ?_|refine Z31 ?_|refine Z32 ?_|refine Z36 ?_|refine Z37 ?_|refine Z38 ?_|refine Z40 ?_|refine Z42 ?_|refine Z58 ?_|refine Z59 ?_|refine Z65 ?_|refine Z67 ?_|refine Z71 ?_|refine Z81 fun _ => ?_|refine Z82 fun _ => ?_)
  rename_i b2 b4 b5 b6
  refine st_loop (ι := Nat) (fun j => j ≤ 64 * xs.length) (fun j => [(1, s), (4, pt b4 0), (5, pt b5 0), (6, pt b6 0), (7, .int .i64 ((j : Int) - 1))])
    (fun j => [.blk b6 (LV .u64 (D 6 (a ^ (V xs / 2 ^ j) * W ^ 6 % p))) 24, .blk b5 (LV .u64 (D 6 (a * W ^ 6 % p))) 24, .blk b4 (LV .u64 (List.replicate 6 0)) 24]) (fun j => j) (64 * xs.length) (Nat.le_refl _) (by repeat (first | apply subL.nil | refine subL.cons (by rfl) ?_)) (by rw [hz, Nat.pow_zero]; exact (by repeat (first | apply SubW.nil | refine SubW.cons (by repeat first|apply Find.here|apply Find.there) ?_))) ?_
  intro j hj
  have hl6 := fun x => hl0 (a ^ x * W ^ 6 % p)
  have hlb := hl0 (a * W ^ 6 % p)
  repeat (first|refine Z01 ?_|refine Z02 ?_|refine Z03 ?_|refine Z04 ?_|refine Z05 ?_|refine Z06 ?_|refine Z07 ?_|refine Z08 ?_|refine Z09 ?_|refine Z10 ?_|refine Z11 ?_|refine Z12 ?_|refine Z13 ?_|refine Z14 ?_|refine Z16 ?_|refine Z17 ?_|refine Z18 ?_|refine Z20 ?_|refine Z21 ?_|refine Z22 ?_|refine Z23 ?_|refine Z24 ?_|refine Z25 ?_|refine Z26 ?_|refine Z27 ?_|refine Z28 ?_|refine Z29 ?_|refine Z30 ?_|refine Z31 ?_|refine Z32 ?_|refine Z36 ?_|refine Z37 ?_|refine Z38 ?_|refine Z40 ?_|refine Z42 ?_|refine Z58 ?_|refine Z59 ?_|refine Z65 ?_|refine Z67 ?_|refine Z71 ?_|refine Z81 fun _ => ?_|refine Z82 fun _ => ?_)
  refine st_cond (by rfl) (fun h => ?_) (fun h => ?_)
  · have h0 : (0 : Int) ≤ (j : Int) - 1 := h
    obtain ⟨i, rfl⟩ : ∃ i, j = i + 1 := ⟨j - 1, by omega⟩
    rw [show ((i + 1 : Nat) : Int) - 1 = Int.ofNat i by simp]
    have hst := bit_step (V xs) i
    have hbt := bit_and6 hx i
    generalize V xs / 2 ^ (i + 1) = x at hst ⊢
    have hla := hl6 x
    have hla2 := hl6 (2 * x)
    have hla3 := hl6 (2 * x + 1)
    have q1 := pw_sq a x
    have q2 := pw_mul a (2 * x)
    repeat (first|((refine st_callV (by rfl) (by rfl) (by rfl) (predd_spec (a := a ^ x * W ^ 6 % p) (b := a ^ x * W ^ 6 % p) (mod_p _) (Nat.mod_lt _ p_pos)) (fun _ _ => trivial) (by rfl) ?_; rw [q1]))|(refine st_shr (by rfl) (by rfl) (show i % 64 ≤ 64 by omega) (by rfl) ?_)|(rw [hbt])|refine Z01 ?_|refine Z02 ?_|refine Z03 ?_|refine Z04 ?_|refine Z05 ?_|refine Z06 ?_|refine Z07 ?_|refine Z08 ?_|refine Z09 ?_|refine Z10 ?_|refine Z11 ?_|refine Z12 ?_|refine Z13 ?_|refine Z14 ?_|refine Z16 ?_|refine Z17 ?_|refine Z18 ?_|refine Z20 ?_|refine Z21 ?_|refine Z22 ?_|refine Z23 ?_|refine Z24 ?_|refine Z25 ?_|refine Z26 ?_|refine Z27 ?_|refine Z28 ?_|refine Z29 ?_|refine Z30 ?_|refine Z31 ?_|refine Z32 ?_|refine Z36 ?_|refine Z37 ?_|refine Z38 ?_|refine Z40 ?_|refine Z42 ?_|refine Z58 ?_|refine Z59 ?_|refine Z65 ?_|refine Z67 ?_|refine Z71 ?_|refine Z81 fun _ => ?_|refine Z82 fun _ => ?_)
    refine st_cond (by rfl) (fun hb => ?_) (fun hb => ?_)
    · have hx1 : V xs / 2 ^ i = 2 * x + 1 := by omega
      repeat (first|((refine st_callV (by rfl) (by rfl) (by rfl) (predd_spec (a := a ^ (2 * x) * W ^ 6 % p) (b := a * W ^ 6 % p) (mod_p _) (Nat.mod_lt _ p_pos)) (fun _ _ => trivial) (by rfl) ?_; rw [q2]))|refine Z01 ?_|refine Z02 ?_|refine Z03 ?_|refine Z04 ?_|refine Z05 ?_|refine Z06 ?_|refine Z07 ?_|refine Z08 ?_|refine Z09 ?_|refine Z10 ?_|refine Z11 ?_|refine Z12 ?_|refine Z13 ?_|refine Z14 ?_|refine Z16 ?_|refine Z17 ?_|refine Z18 ?_|refine Z20 ?_|refine Z21 ?_|refine Z22 ?_|refine Z23 ?_|refine Z24 ?_|refine Z25 ?_|refine Z26 ?_|refine Z27 ?_|refine Z28 ?_|refine Z29 ?_|refine Z30 ?_|refine Z31 ?_|refine Z32 ?_|refine Z36 ?_|refine Z37 ?_|refine Z38 ?_|refine Z40 ?_|refine Z42 ?_|refine Z58 ?_|refine Z59 ?_|refine Z65 ?_|refine Z67 ?_|refine Z71 ?_|refine Z81 fun _ => ?_|refine Z82 fun _ => ?_)
      refine st_round i (by omega) (by omega) ?_ (by rw [hx1]; exact (by repeat (first | apply SubW.nil | refine SubW.cons (by repeat first|apply Find.here|apply Find.there) ?_)))
      rw [show ((i : Int) - 1) = Int.ofNat i - Int.ofNat 1 from rfl]
      exact (by repeat (first | apply subL.nil | refine subL.cons (by rfl) ?_))
    · have hx1 : V xs / 2 ^ i = 2 * x := by omega
      repeat (first|refine Z01 ?_|refine Z02 ?_|refine Z03 ?_|refine Z04 ?_|refine Z05 ?_|refine Z06 ?_|refine Z07 ?_|refine Z08 ?_|refine Z09 ?_|refine Z10 ?_|refine Z11 ?_|refine Z12 ?_|refine Z13 ?_|refine Z14 ?_|refine Z16 ?_|refine Z17 ?_|refine Z18 ?_|refine Z20 ?_|refine Z21 ?_|refine Z22 ?_|refine Z23 ?_|refine Z24 ?_|refine Z25 ?_|refine Z26 ?_|refine Z27 ?_|refine Z28 ?_|refine Z29 ?_|refine Z30 ?_|refine Z31 ?_|refine Z32 ?_|refine Z36 ?_|refine Z37 ?_|refine Z38 ?_|refine Z40 ?_|refine Z42 ?_|refine Z58 ?_|refine Z59 ?_|refine Z65 ?_|refine Z67 ?_|refine Z71 ?_|refine Z81 fun _ => ?_|refine Z82 fun _ => ?_)
      refine st_round i (by omega) (by omega) ?_ (by rw [hx1]; exact (by repeat (first | apply SubW.nil | refine SubW.cons (by repeat first|apply Find.here|apply Find.there) ?_)))
      rw [show ((i : Int) - 1) = Int.ofNat i - Int.ofNat 1 from rfl]
      exact (by repeat (first | apply subL.nil | refine subL.cons (by rfl) ?_))
  · have hp0 : ¬ (0 : Int) ≤ (j : Int) - 1 := h
    have hj0 : j = 0 := by omega
    subst hj0
    have hle := hl0 (a ^ V xs % p)
    have q3 := pw_end (a ^ V xs)
    rw [Nat.pow_zero, Nat.div_one]
    repeat (first|((refine st_buildP (kk := .u64) (vs := [1]) (by rfl) (by rfl) (by rfl) (by rfl) (by rfl) (by rfl) (by rfl) (by rfl) ?_; rw [one6]))|((refine st_callV (by rfl) (by rfl) (by rfl) (predd_spec (a := a ^ V xs * W ^ 6 % p) (mod_p _) h1p) (fun _ _ => trivial) (by rfl) ?_; rw [q3]))|refine Z01 ?_|refine Z02 ?_|refine Z03 ?_|refine Z04 ?_|refine Z05 ?_|refine Z06 ?_|refine Z07 ?_|refine Z08 ?_|refine Z09 ?_|refine Z10 ?_|refine Z11 ?_|refine Z12 ?_|refine Z13 ?_|refine Z14 ?_|refine Z16 ?_|refine Z17 ?_|refine Z18 ?_|refine Z20 ?_|refine Z21 ?_|refine Z22 ?_|refine Z23 ?_|refine Z24 ?_|refine Z25 ?_|refine Z26 ?_|refine Z27 ?_|refine Z28 ?_|refine Z29 ?_|refine Z30 ?_|refine Z31 ?_|refine Z32 ?_|refine Z36 ?_|refine Z37 ?_|refine Z38 ?_|refine Z40 ?_|refine Z42 ?_|refine Z58 ?_|refine Z59 ?_|refine Z65 ?_|refine Z67 ?_|refine Z71 ?_|refine Z81 fun _ => ?_|refine Z82 fun _ => ?_)
    refine Zec fun _ hw => post_of hw SubW.nil ⟨?_, rfl⟩
    rfl
end Go.Proofs.Ytbpmbdlgmmabcaa.L
namespace Go.Proofs.Ytbpmbdlgmmabcaa.L
open Go Go.Proofs
set_option maxRecDepth 100000
attribute [local irreducible] Code.wp wpList Af bodyPost L.Go
open Num
attribute [local simp] D_len
theorem or_half (X i : Nat) : ((X / W ^ i % W) >>> 1 % 18446744073709551616 ||| (X / W ^ (i + 1) % W) <<< 63 % 18446744073709551616 % 18446744073709551616) = X / 2 / W ^ i % W := by
  have h := shift_word (w := 1) (by decide) X i
  rw [Nat.pow_one, show 64 - 1 = 63 from rfl] at h
  rw [← h]
  have hx : X / W ^ i % W < W := Nat.mod_lt _ W_pos
  generalize X / W ^ i % W = x at *
  generalize X / W ^ (i + 1) % W = y
  have e1 : x >>> 1 = x / 2 := by rw [Nat.shiftRight_eq_div_pow]
  have e2 : y <<< 63 % 18446744073709551616 = 2 ^ 63 * (y % 2) := by rw [Nat.shiftLeft_eq]; omega
  have hW : W = 18446744073709551616 := rfl
  rw [e1, e2, Nat.mod_eq_of_lt (a := x / 2) (by omega), Nat.mod_eq_of_lt (a := 2 ^ 63 * (y % 2)) (by omega), Nat.or_comm, ← Nat.two_pow_add_eq_or_of_lt (by omega), Nat.mod_eq_of_lt (a := x / 2 + 2 ^ 63 * (y % 2)) (by omega), Nat.add_comm]
set_option maxHeartbeats 4000000 in
theorem half_spec (a h ba : Nat) (ha : a < W ^ 6) (hh : h ≤ 1) :
    Spec Try.prog 131 [pt ba 0, N .u64 h] NoPre [.blk ba (LV .u64 (D 6 a)) 24] (fun v Wr => v = .tuple #[] ∧ Wr = [.blk ba (LV .u64 (D 6 ((a + h * W ^ 6) / 2))) 24]) := by
  refine mk_spec Try.func131 rfl rfl rfl fun w _ => ?_
  obtain ⟨X, hX⟩ : ∃ X, X = a + h * W ^ 6 := ⟨_, rfl⟩
  have hDX : D 6 a = D 6 X := by rw [hX, ← D_mod 6 (a + h * W ^ 6), Nat.add_mul_mod_self_right, D_mod]
  have hX6 : X / W ^ 6 % W = h := by
    rw [hX, Nat.add_mul_div_right _ _ (W_pow_pos 6), Nat.div_eq_of_lt ha, Nat.zero_add, Nat.mod_eq_of_lt (by have : W = 18446744073709551616 := rfl; omega)]
  rw [← hX, hDX]
  have hdx := D_len 6 X
  have hg : ∀ j, j < 6 → (D 6 X).getD j 0 = X / W ^ j % W := fun j hj => D_getD 6 X j hj
  repeat (first|refine Z01 ?_|refine Z02 ?_|refine Z03 ?_|refine Z04 ?_|refine Z05 ?_|refine Z06 ?_|refine Z07 ?_|refine Z08 ?_|refine Z09 ?_|refine Z10 ?_|refine Z11 ?_|refine Z12 ?_|refine Z13 ?_|refine Z14 ?_|refine Z15 ?_|refine Z17 ?_|refine Z18 ?_|refine Z22 ?_|refine Z23 ?_|refine Z24 ?_|refine Z25 ?_|refine Z26 ?_|refine Z27 ?_|refine Z28 ?_|refine Z29 ?_|refine Z30 ?_|refine Z31 ?_|refine Z32 ?_|refine Z41 ?_|refine Z42 ?_|refine Z43 ?_|refine Z46 ?_|refine Z47 ?_|refine Z67 ?_|refine Z70 ?_)
  refine st_loop (ι := Nat) (fun i => i ≤ 5) (fun i => [(0, pt ba 0), (1, N .u64 h), (5, N .i64 i)]) (fun i => [.blk ba (LV .u64 (D i (X / 2) ++ (D 6 X).drop i)) 24]) (fun i => 5 - i) 0 (by omega) (by repeat (first | apply subL.nil | refine subL.cons (by rfl) ?_)) (by rw [D_0, List.nil_append, List.drop_zero]; exact (by repeat (first | apply SubW.nil | refine SubW.cons (by repeat first|apply Find.here|apply Find.there) ?_))) ?_
  intro i hi
  have hdl := D_len i (X / 2)
  have hpl : (D i (X / 2) ++ (D 6 X).drop i).length = 6 := by rw [List.length_append, hdl, List.length_drop, hdx]; omega
  have hg0 := (drop_get (xs := D 6 X) hdl).trans (hg i (by omega))
  by_cases h5 : i < 5
  · have hg1 := (drop_get1 (xs := D 6 X) hdl).trans (hg (i + 1) (by omega))
    repeat (first|(refine st_cmp (r := true) (by rfl) (by rfl) (cmpN_t (by first | (simp only [cmpP]; done) | (simp only [cmpP]; omega))) (by rfl) ?_)|refine Z01 ?_|refine Z02 ?_|refine Z03 ?_|refine Z04 ?_|refine Z05 ?_|refine Z06 ?_|refine Z07 ?_|refine Z08 ?_|refine Z09 ?_|refine Z10 ?_|refine Z11 ?_|refine Z12 ?_|refine Z13 ?_|refine Z14 ?_|refine Z15 ?_|refine Z17 ?_|refine Z18 ?_|refine Z22 ?_|refine Z23 ?_|refine Z24 ?_|refine Z25 ?_|refine Z26 ?_|refine Z27 ?_|refine Z28 ?_|refine Z29 ?_|refine Z30 ?_|refine Z31 ?_|refine Z32 ?_|refine Z41 ?_|refine Z42 ?_|refine Z43 ?_|refine Z46 ?_|refine Z47 ?_|refine Z67 ?_|refine Z70 ?_)
    refine st_draw1 (by rfl) ?_
    repeat (first|refine Zqf (by intro _ _ _;(first|(refine st_shr (by rfl) (by rfl) (show 1 ≤ 64 by decide) (by rfl) ?_)|refine Z01 ?_|refine Z02 ?_|refine Z15 ?_|refine Z17 ?_|refine Z18 ?_|refine Z22 ?_|refine Z23 ?_|refine Z41 ?_|refine Z42 ?_|refine Z43 ?_|refine Z46 ?_|refine Z47 ?_|refine Z70 ?_);exact Zq) ?_|refine Zqp (by intro _ _ _;(first|refine Z24 ?_|refine Z25 ?_|refine Z26 ?_|refine Z27 ?_|refine Z28 ?_|refine Z67 ?_|refine Z23 ?_);exact Zq) ?_|refine Zqe (by intro _ _ _;(first|refine Z29 ?_|refine Z30 ?_|refine Z31 ?_|refine Z32 ?_);exact Zqq) ?_|refine Zqn ?_)
    refine Zq0 ?_ (by kernel_rfl)
    rw [hg0, hg1, or_half, drop_set hdl (by omega), ← D_snoc]
    repeat (first|refine Z01 ?_|refine Z02 ?_|refine Z03 ?_|refine Z04 ?_|refine Z05 ?_|refine Z06 ?_|refine Z07 ?_|refine Z08 ?_|refine Z09 ?_|refine Z10 ?_|refine Z11 ?_|refine Z12 ?_|refine Z13 ?_|refine Z14 ?_|refine Z15 ?_|refine Z17 ?_|refine Z18 ?_|refine Z22 ?_|refine Z23 ?_|refine Z24 ?_|refine Z25 ?_|refine Z26 ?_|refine Z27 ?_|refine Z28 ?_|refine Z29 ?_|refine Z30 ?_|refine Z31 ?_|refine Z32 ?_|refine Z41 ?_|refine Z42 ?_|refine Z43 ?_|refine Z46 ?_|refine Z47 ?_|refine Z67 ?_|refine Z70 ?_)
    exact st_round (i + 1) (by omega) (by omega) (by repeat (first | apply subL.nil | refine subL.cons (by rfl) ?_)) (by repeat (first | apply SubW.nil | refine SubW.cons (by repeat first|apply Find.here|apply Find.there) ?_))
  · have hie : i = 5 := by omega
    subst hie
    have ho := or_half X 5
    rw [show (5 + 1 : Nat) = 6 from rfl, hX6] at ho
    repeat (first|(refine st_cmp (r := false) (by rfl) (by rfl) (cmpN_f (by first | (simp only [cmpQ]; done) | (simp only [cmpQ]; omega))) (by rfl) ?_)|refine Z01 ?_|refine Z02 ?_|refine Z03 ?_|refine Z04 ?_|refine Z05 ?_|refine Z06 ?_|refine Z07 ?_|refine Z08 ?_|refine Z09 ?_|refine Z10 ?_|refine Z11 ?_|refine Z12 ?_|refine Z13 ?_|refine Z14 ?_|refine Z15 ?_|refine Z17 ?_|refine Z18 ?_|refine Z22 ?_|refine Z23 ?_|refine Z24 ?_|refine Z25 ?_|refine Z26 ?_|refine Z27 ?_|refine Z28 ?_|refine Z29 ?_|refine Z30 ?_|refine Z31 ?_|refine Z32 ?_|refine Z41 ?_|refine Z42 ?_|refine Z43 ?_|refine Z46 ?_|refine Z47 ?_|refine Z67 ?_|refine Z70 ?_)
    refine st_draw1 (by rfl) ?_
    repeat (first|refine Zqf (by intro _ _ _;(first|(refine st_shr (by rfl) (by rfl) (show 1 ≤ 64 by decide) (by rfl) ?_)|refine Z01 ?_|refine Z02 ?_|refine Z15 ?_|refine Z17 ?_|refine Z18 ?_|refine Z22 ?_|refine Z23 ?_|refine Z41 ?_|refine Z42 ?_|refine Z43 ?_|refine Z46 ?_|refine Z47 ?_|refine Z70 ?_);exact Zq) ?_|refine Zqp (by intro _ _ _;(first|refine Z24 ?_|refine Z25 ?_|refine Z26 ?_|refine Z27 ?_|refine Z28 ?_|refine Z67 ?_|refine Z23 ?_);exact Zq) ?_|refine Zqe (by intro _ _ _;(first|refine Z29 ?_|refine Z30 ?_|refine Z31 ?_|refine Z32 ?_);exact Zqq) ?_|refine Zqn ?_)
    refine Zq0 ?_ (by kernel_rfl)
    rw [hg0, ho, drop_set hdl (by omega), ← D_snoc, List.drop_eq_nil_of_le (by omega), List.append_nil]
    repeat (first|refine Z01 ?_|refine Z02 ?_|refine Z03 ?_|refine Z04 ?_|refine Z05 ?_|refine Z06 ?_|refine Z07 ?_|refine Z08 ?_|refine Z09 ?_|refine Z10 ?_|refine Z11 ?_|refine Z12 ?_|refine Z13 ?_|refine Z14 ?_|refine Z15 ?_|refine Z17 ?_|refine Z18 ?_|refine Z22 ?_|refine Z23 ?_|refine Z24 ?_|refine Z25 ?_|refine Z26 ?_|refine Z27 ?_|refine Z28 ?_|refine Z29 ?_|refine Z30 ?_|refine Z31 ?_|refine Z32 ?_|refine Z41 ?_|refine Z42 ?_|refine Z43 ?_|refine Z46 ?_|refine Z47 ?_|refine Z67 ?_|refine Z70 ?_)
    refine st_end0 (by rfl) fun _ hw => post_of hw (Wout := [.blk ba (LV .u64 (D 6 (X / 2))) 24]) (by exact (by repeat (first | apply SubW.nil | refine SubW.cons (by repeat first|apply Find.here|apply Find.there) ?_))) ⟨rfl, rfl⟩
theorem low_bit {u : Nat} (hu : u < W ^ 6) : ((D 6 u).getD 0 0 % 18446744073709551616 &&& 1 % 18446744073709551616) = u % 2 := by
  rw [D_getD' hu, Nat.pow_zero, Nat.div_one, show 1 % 18446744073709551616 = 1 from rfl, Nat.and_one_is_mod, show W = 18446744073709551616 from rfl]
  omega
theorem p_odd : p % 2 = 1 := by decide +kernel
theorem halve {A x u : Nat} (h : A * (2 * x) % p = 2 * u % p) : A * x % p = u % p := by
  rw [Nat.mul_left_comm] at h
  have h2 : ¬ p ∣ 2 := fun hd => by
    have := Nat.le_of_dvd (by decide) hd
    have := p_odd
    have := p_prime.1
    have h3 : p = 2 := by omega
    omega
  rcases Nat.le_total (A * x) u with hle | hle
  · exact (Pr.cancel p_prime h2 hle (by rw [Nat.mul_comm u, Nat.mul_comm (A * x)]; exact h.symm)).symm
  · exact Pr.cancel p_prime h2 hle (by rw [Nat.mul_comm u, Nat.mul_comm (A * x)]; exact h)
set_option maxHeartbeats 8000000 in
theorem even_spec (U X A bu bx : Nat) (hU : 0 < U) (hUW : U < W ^ 6) (hX : X < p) (hA : A * X % p = U % p) :
    Spec Try.prog 99 [pt bu 0, pt bx 0] NoPre [.blk bu (LV .u64 (D 6 U)) 24, .blk bx (LV .u64 (D 6 X)) 24]
      (fun v Wr => v = .tuple #[] ∧ ∃ u x, Wr = [.blk bu (LV .u64 (D 6 u)) 24, .blk bx (LV .u64 (D 6 x)) 24] ∧ u ∣ U ∧ u % 2 = 1 ∧ x < p ∧ A * x % p = u % p) := by
  refine mk_spec Try.func99 rfl rfl rfl fun w _ => ?_
  have hpl := p_lt
  have hp2 := p2_lt
  have hpo := p_odd
  have hl0 := fun x => D_len 6 x
  repeat (first|refine Z01 ?_|refine Z02 ?_|refine Z03 ?_|refine Z04 ?_|refine Z05 ?_|refine Z06 ?_|refine Z07 ?_|refine Z08 ?_|refine Z09 ?_|refine Z10 ?_|refine Z11 ?_|refine Z12 ?_|refine Z13 ?_|refine Z14 ?_|refine Z15 ?_|refine Z17 ?_|refine Z18 ?_|refine Z19 ?_|refine Z22 ?_|refine Z23 ?_|refine Z24 ?_|refine Z25 ?_|refine Z26 ?_|refine Z27 ?_|refine Z28 ?_|refine Z29 ?_|refine Z30 ?_|refine Z31 ?_|refine Z32 ?_|refine Z40 ?_|refine Z46 ?_|refine Z47 ?_|refine Z67 ?_|refine Z70 ?_|refine Z82 fun _ => ?_)
  refine st_loop (ι := Nat × Nat) (fun q => 0 < q.1 ∧ q.1 ∣ U ∧ q.2 < p ∧ A * q.2 % p = q.1 % p) (fun _ => [(0, pt bu 0), (1, pt bx 0)]) (fun q => [.blk bu (LV .u64 (D 6 q.1)) 24, .blk bx (LV .u64 (D 6 q.2)) 24]) (fun q => q.1) (U, X) ⟨hU, Nat.dvd_refl U, hX, hA⟩ (by repeat (first | apply subL.nil | refine subL.cons (by rfl) ?_)) (by repeat (first | apply SubW.nil | refine SubW.cons (by repeat first|apply Find.here|apply Find.there) ?_)) ?_
  rintro ⟨u, x⟩ ⟨h1, h2, h3, h4⟩
  simp only at h1 h2 h3 h4 ⊢
  have huU := Nat.le_of_dvd hU h2
  have huW : u < W ^ 6 := by omega
  have hxW : x < W ^ 6 := by omega
  have hb1 := low_bit huW
  have hb2 := low_bit hxW
  have hlu := hl0 u
  have hlx := hl0 x
  repeat (first|(rw [hb1])|refine Z01 ?_|refine Z02 ?_|refine Z03 ?_|refine Z04 ?_|refine Z05 ?_|refine Z06 ?_|refine Z07 ?_|refine Z08 ?_|refine Z09 ?_|refine Z10 ?_|refine Z11 ?_|refine Z12 ?_|refine Z13 ?_|refine Z14 ?_|refine Z15 ?_|refine Z17 ?_|refine Z18 ?_|refine Z19 ?_|refine Z22 ?_|refine Z23 ?_|refine Z24 ?_|refine Z25 ?_|refine Z26 ?_|refine Z27 ?_|refine Z28 ?_|refine Z29 ?_|refine Z30 ?_|refine Z31 ?_|refine Z32 ?_|refine Z40 ?_|refine Z46 ?_|refine Z47 ?_|refine Z67 ?_|refine Z70 ?_|refine Z82 fun _ => ?_)
  refine st_cond (by rfl) (fun he => ?_) (fun he => ?_)
  · obtain ⟨y, rfl⟩ : ∃ y, u = 2 * y := ⟨u / 2, by omega⟩
    have hy : (2 * y + 0 * W ^ 6) / 2 = y := by rw [Nat.zero_mul]; omega
    have hly := hl0 y
    have hdv : y ∣ U := Nat.dvd_trans (Nat.dvd_mul_left y 2) h2
    repeat (first|((refine st_call (by rfl) (by rfl) (by rfl) (half_spec (2 * y) 0 bu huW (Nat.zero_le 1)) (.cons (by repeat first|apply Find.here|apply Find.there) .nil) (fun _ _ => trivial) (by rfl) ?_; rintro _ _ ⟨rfl, rfl⟩; rw [hy]))|(rw [hb2])|refine Z01 ?_|refine Z02 ?_|refine Z03 ?_|refine Z04 ?_|refine Z05 ?_|refine Z06 ?_|refine Z07 ?_|refine Z08 ?_|refine Z09 ?_|refine Z10 ?_|refine Z11 ?_|refine Z12 ?_|refine Z13 ?_|refine Z14 ?_|refine Z15 ?_|refine Z17 ?_|refine Z18 ?_|refine Z19 ?_|refine Z22 ?_|refine Z23 ?_|refine Z24 ?_|refine Z25 ?_|refine Z26 ?_|refine Z27 ?_|refine Z28 ?_|refine Z29 ?_|refine Z30 ?_|refine Z31 ?_|refine Z32 ?_|refine Z40 ?_|refine Z46 ?_|refine Z47 ?_|refine Z67 ?_|refine Z70 ?_|refine Z82 fun _ => ?_)
    refine st_cond (by rfl) (fun hx => ?_) (fun hx => ?_)
    · obtain ⟨z, rfl⟩ : ∃ z, x = 2 * z := ⟨x / 2, by omega⟩
      have hz : (2 * z + 0 * W ^ 6) / 2 = z := by rw [Nat.zero_mul]; omega
      have hm := halve h4
      repeat (first|((refine st_call (by rfl) (by rfl) (by rfl) (half_spec (2 * z) 0 bx hxW (Nat.zero_le 1)) (.cons (by repeat first|apply Find.here|apply Find.there) .nil) (fun _ _ => trivial) (by rfl) ?_; rintro _ _ ⟨rfl, rfl⟩; rw [hz]))|refine Z01 ?_|refine Z02 ?_|refine Z03 ?_|refine Z04 ?_|refine Z05 ?_|refine Z06 ?_|refine Z07 ?_|refine Z08 ?_|refine Z09 ?_|refine Z10 ?_|refine Z11 ?_|refine Z12 ?_|refine Z13 ?_|refine Z14 ?_|refine Z15 ?_|refine Z17 ?_|refine Z18 ?_|refine Z19 ?_|refine Z22 ?_|refine Z23 ?_|refine Z24 ?_|refine Z25 ?_|refine Z26 ?_|refine Z27 ?_|refine Z28 ?_|refine Z29 ?_|refine Z30 ?_|refine Z31 ?_|refine Z32 ?_|refine Z40 ?_|refine Z46 ?_|refine Z47 ?_|refine Z67 ?_|refine Z70 ?_|refine Z82 fun _ => ?_)
      exact st_round (y, z) ⟨by omega, hdv, by omega, hm⟩ (by simp only; omega) (by repeat (first | apply subL.nil | refine subL.cons (by rfl) ?_)) (by repeat (first | apply SubW.nil | refine SubW.cons (by repeat first|apply Find.here|apply Find.there) ?_))
    · have hlp := hl0 p
      have hm : A * ((x + p) / 2) % p = y % p := by
        refine halve ?_
        rw [show 2 * ((x + p) / 2) = x + p by omega, Nat.mul_add, Nat.add_mul_mod_self_right]
        exact h4
      have hs : (x + p) / 2 < p := by omega
      clear h4 hb1 hb2 h2 huU
      repeat (first|(refine st_callV (by rfl) (by rfl) (by rfl) (pP_spec) (fun _ _ => trivial) (by rfl) ?_)|(refine st_alloc (v := LV .u64 (List.replicate 6 0)) (by rfl) (by rfl) fun _ => ?_)|refine Z01 ?_|refine Z02 ?_|refine Z03 ?_|refine Z04 ?_|refine Z05 ?_|refine Z06 ?_|refine Z07 ?_|refine Z08 ?_|refine Z09 ?_|refine Z10 ?_|refine Z11 ?_|refine Z12 ?_|refine Z13 ?_|refine Z14 ?_|refine Z15 ?_|refine Z17 ?_|refine Z18 ?_|refine Z19 ?_|refine Z22 ?_|refine Z23 ?_|refine Z24 ?_|refine Z25 ?_|refine Z26 ?_|refine Z27 ?_|refine Z28 ?_|refine Z29 ?_|refine Z30 ?_|refine Z31 ?_|refine Z32 ?_|refine Z40 ?_|refine Z46 ?_|refine Z47 ?_|refine Z67 ?_|refine Z70 ?_|refine Z82 fun _ => ?_)
      rename_i b4
      refine st_loop (ι := Nat) (fun i => i ≤ 6) (fun i => [(0, pt bu 0), (1, pt bx 0), (4, pt b4 0), (5, N .u64 (crun addg (D 6 x) (D 6 p) i).2), (24, N .i64 i)])
        (fun i => [.blk bx (LV .u64 ((crun addg (D 6 x) (D 6 p) i).1 ++ (D 6 x).drop i)) 24, .blk bu (LV .u64 (D 6 y)) 24, .blk b4 (LV .u64 (D 6 p)) 24]) (fun i => 6 - i) 0 (by omega) (by rw [crun_0]; exact (by repeat (first | apply subL.nil | refine subL.cons (by rfl) ?_))) (by rw [crun_0]; exact (by repeat (first | apply SubW.nil | refine SubW.cons (by repeat first|apply Find.here|apply Find.there) ?_))) ?_
      intro i hi
      have hc1 := crun_addD_le 6 x p i
      have hl := crun_len addg (D 6 x) (D 6 p) i
      have hol : ((crun addg (D 6 x) (D 6 p) i).1 ++ (D 6 x).drop i).length = 6 := by simp; omega
      have hdg := drop_get (xs := D 6 x) hl
      by_cases h : i < 6
      · repeat (first|(refine st_cmp (r := true) (by rfl) (by rfl) (cmpN_t (by first | (simp only [cmpP]; done) | (simp only [cmpP]; omega))) (by rfl) ?_)|refine Z01 ?_|refine Z02 ?_|refine Z03 ?_|refine Z04 ?_|refine Z05 ?_|refine Z06 ?_|refine Z07 ?_|refine Z08 ?_|refine Z09 ?_|refine Z10 ?_|refine Z11 ?_|refine Z12 ?_|refine Z13 ?_|refine Z14 ?_|refine Z15 ?_|refine Z17 ?_|refine Z18 ?_|refine Z19 ?_|refine Z22 ?_|refine Z23 ?_|refine Z24 ?_|refine Z25 ?_|refine Z26 ?_|refine Z27 ?_|refine Z28 ?_|refine Z29 ?_|refine Z30 ?_|refine Z31 ?_|refine Z32 ?_|refine Z40 ?_|refine Z46 ?_|refine Z47 ?_|refine Z67 ?_|refine Z70 ?_|refine Z82 fun _ => ?_)
        refine st_draw1 (by rfl) ?_
        repeat (first|refine Zqf (by intro _ _ _;(first|(refine st_callX (by rfl) (by rfl) (by rfl) (add64X _ _ _ hc1) (by rfl) ?_)|refine Z01 ?_|refine Z02 ?_|refine Z15 ?_|refine Z17 ?_|refine Z18 ?_|refine Z19 ?_|refine Z22 ?_|refine Z23 ?_|refine Z40 ?_|refine Z46 ?_|refine Z47 ?_|refine Z70 ?_);exact Zq) ?_|refine Zqp (by intro _ _ _;(first|refine Z24 ?_|refine Z25 ?_|refine Z26 ?_|refine Z27 ?_|refine Z28 ?_|refine Z67 ?_|refine Z23 ?_);exact Zq) ?_|refine Zqe (by intro _ _ _;(first|refine Z29 ?_|refine Z30 ?_|refine Z31 ?_|refine Z32 ?_);exact Zqq) ?_|refine Zqn ?_)
        refine Zq0 ?_ (by kernel_rfl)
        rw [hdg, ← addg_fst, ← addg_snd, ← crun_snd, crun_drop addg (D 6 x) (D 6 p) i (by omega)]
        repeat (first|refine Z01 ?_|refine Z02 ?_|refine Z03 ?_|refine Z04 ?_|refine Z05 ?_|refine Z06 ?_|refine Z07 ?_|refine Z08 ?_|refine Z09 ?_|refine Z10 ?_|refine Z11 ?_|refine Z12 ?_|refine Z13 ?_|refine Z14 ?_|refine Z15 ?_|refine Z17 ?_|refine Z18 ?_|refine Z19 ?_|refine Z22 ?_|refine Z23 ?_|refine Z24 ?_|refine Z25 ?_|refine Z26 ?_|refine Z27 ?_|refine Z28 ?_|refine Z29 ?_|refine Z30 ?_|refine Z31 ?_|refine Z32 ?_|refine Z40 ?_|refine Z46 ?_|refine Z47 ?_|refine Z67 ?_|refine Z70 ?_|refine Z82 fun _ => ?_)
        exact st_round (i + 1) (by omega) (by omega) (by repeat (first | apply subL.nil | refine subL.cons (by rfl) ?_)) (by repeat (first | apply SubW.nil | refine SubW.cons (by repeat first|apply Find.here|apply Find.there) ?_))
      · have hie : i = 6 := by omega
        subst hie
        have hdr : (D 6 x).drop 6 = [] := List.drop_eq_nil_of_le (by omega)
        have hxp : x + p < W ^ 6 := by omega
        have h0 : (x + p) / W ^ 6 = 0 := Nat.div_eq_of_lt hxp
        have hz : (x + p + 0 * W ^ 6) / 2 = (x + p) / 2 := by rw [Nat.zero_mul, Nat.add_zero]
        rw [crun_addD hxW hpl, hdr, List.append_nil] at *
        simp only [h0] at *
        have hlz := hl0 ((x + p) / 2)
        repeat (first|(refine st_cmp (r := false) (by rfl) (by rfl) (cmpN_f (by first | (simp only [cmpQ]; done) | (simp only [cmpQ]; omega))) (by rfl) ?_)|((refine st_call (by rfl) (by rfl) (by rfl) (half_spec (x + p) 0 bx hxp (Nat.zero_le 1)) (.cons (by repeat first|apply Find.here|apply Find.there) .nil) (fun _ _ => trivial) (by rfl) ?_; rintro _ _ ⟨rfl, rfl⟩; rw [hz]))|refine Z01 ?_|refine Z02 ?_|refine Z03 ?_|refine Z04 ?_|refine Z05 ?_|refine Z06 ?_|refine Z07 ?_|refine Z08 ?_|refine Z09 ?_|refine Z10 ?_|refine Z11 ?_|refine Z12 ?_|refine Z13 ?_|refine Z14 ?_|refine Z15 ?_|refine Z17 ?_|refine Z18 ?_|refine Z19 ?_|refine Z22 ?_|refine Z23 ?_|refine Z24 ?_|refine Z25 ?_|refine Z26 ?_|refine Z27 ?_|refine Z28 ?_|refine Z29 ?_|refine Z30 ?_|refine Z31 ?_|refine Z32 ?_|refine Z40 ?_|refine Z46 ?_|refine Z47 ?_|refine Z67 ?_|refine Z70 ?_|refine Z82 fun _ => ?_)
        exact st_round (y, (x + p) / 2) ⟨by omega, hdv, hs, hm⟩ (by simp only; omega) (by repeat (first | apply subL.nil | refine subL.cons (by rfl) ?_)) (by repeat (first | apply SubW.nil | refine SubW.cons (by repeat first|apply Find.here|apply Find.there) ?_))
  · repeat (first|refine Z01 ?_|refine Z02 ?_|refine Z03 ?_|refine Z04 ?_|refine Z05 ?_|refine Z06 ?_|refine Z07 ?_|refine Z08 ?_|refine Z09 ?_|refine Z10 ?_|refine Z11 ?_|refine Z12 ?_|refine Z13 ?_|refine Z14 ?_|refine Z15 ?_|refine Z17 ?_|refine Z18 ?_|refine Z19 ?_|refine Z22 ?_|refine Z23 ?_|refine Z24 ?_|refine Z25 ?_|refine Z26 ?_|refine Z27 ?_|refine Z28 ?_|refine Z29 ?_|refine Z30 ?_|refine Z31 ?_|refine Z32 ?_|refine Z40 ?_|refine Z46 ?_|refine Z47 ?_|refine Z67 ?_|refine Z70 ?_|refine Z82 fun _ => ?_)
    refine st_end0 (by rfl) fun _ hw => post_of hw (Wout := [.blk bu (LV .u64 (D 6 u)) 24, .blk bx (LV .u64 (D 6 x)) 24]) (by exact (by repeat (first | apply SubW.nil | refine SubW.cons (by repeat first|apply Find.here|apply Find.there) ?_))) ⟨rfl, u, x, rfl, h2, by omega, h3, h4⟩
end Go.Proofs.Ytbpmbdlgmmabcaa.L
namespace Go.Proofs.Ytbpmbdlgmmabcaa.L
open Go Go.Proofs
set_option maxRecDepth 100000
attribute [local irreducible] Code.wp wpList Af bodyPost L.Go
open Num
attribute [local simp] D_len
instance nzp : NeZero p := ⟨Nat.ne_of_gt p_pos⟩
theorem inv_val {a r : Nat} (h : a * r % p = 1) : r % p = a ^ (p - 2) % p := by
  have hk : Kf.κ p a * Kf.κ p r = 1 := by
    rw [← Kf.κ_mul, ← Kf.κ_1, Kf.κ_eq, h, Nat.mod_eq_of_lt p_prime.1]
  have h2 := Kf.inv_unique p_prime hk
  rw [Kf.inv, ← Kf.κ_pow, Kf.κ_eq] at h2
  exact h2.symm
theorem sub_val {A x y u v : Nat} (hx : A * x % p = u % p) (hy : A * y % p = v % p) (h : v ≤ u) : A * ((x + (p - y % p) % p) % p) % p = (u - v) % p := by
  have e1 : Kf.κ p A * Kf.κ p x = Kf.κ p u := by rw [← Kf.κ_mul, Kf.κ_eq]; exact hx
  have e2 : Kf.κ p A * Kf.κ p y = Kf.κ p v := by rw [← Kf.κ_mul, Kf.κ_eq]; exact hy
  rw [← Kf.κ_eq, Kf.κ_mul, Kf.κ_mod, Kf.κ_add, Kf.κ_mod, Kf.κ_neg (Nat.le_of_lt (Nat.mod_lt _ p_pos)), Kf.κ_mod, Kf.κ_sub h]
  grind
theorem gcd_dvd {a b c d : Nat} (h : Nat.gcd a b = 1) (hc : c ∣ a) (hd : d ∣ b) : Nat.gcd c d = 1 :=
  Nat.eq_one_of_dvd_one (h ▸ Nat.dvd_gcd (Nat.dvd_trans (Nat.gcd_dvd_left c d) hc) (Nat.dvd_trans (Nat.gcd_dvd_right c d) hd))
theorem gcd_subl {a b : Nat} (h : Nat.gcd a b = 1) (hle : b ≤ a) : Nat.gcd (a - b) b = 1 :=
  Nat.eq_one_of_dvd_one (h ▸ Nat.dvd_gcd (by
    have := Nat.dvd_add (Nat.gcd_dvd_left (a - b) b) (Nat.gcd_dvd_right (a - b) b)
    rwa [Nat.sub_add_cancel hle] at this) (Nat.gcd_dvd_right _ _))
theorem gcd_subr {a b : Nat} (h : Nat.gcd a b = 1) (hle : a ≤ b) : Nat.gcd a (b - a) = 1 := by
  rw [Nat.gcd_comm] at h ⊢
  exact gcd_subl h hle
theorem gcd_p {A : Nat} (h0 : 0 < A) (hA : A < p) : Nat.gcd A p = 1 := by
  rcases p_prime.2 _ (Nat.gcd_dvd_right A p) with h | h
  · exact h
  · have := Nat.le_of_dvd h0 (h ▸ Nat.gcd_dvd_left A p)
    omega
set_option maxHeartbeats 8000000 in
theorem pinv_spec {a : Nat} (ha : a < W ^ 6) : Spec Try.prog 58 [LV .u64 (D 6 a)] NoPre [] (IsV (LV .u64 (D 6 (a ^ (p - 2) % p)))) := by
  refine mk_spec Try.func58 rfl rfl rfl fun w _ => ?_
  have hpl := p_lt
  have hp0 := p_pos
  have hp1 := p_prime.1
  have hl0 := fun x => D_len 6 x
  have hlp := hl0 p
  have hAp := Nat.mod_lt a p_pos
  have hz0 := D6_eq (mod_p a) (show 0 < W ^ 6 by decide)
  repeat (first|(refine st_alloc (v := LV .u64 (List.replicate 6 0)) (by rfl) (by rfl) fun _ => ?_)|(refine st_callV (by rfl) (by rfl) (by rfl) (preduce_spec ha) (fun _ _ => trivial) (by rfl) ?_)|(refine st_callV (by rfl) (by rfl) (by rfl) (pP_spec) (fun _ _ => trivial) (by rfl) ?_)|((refine st_buildP (kk := .u64) (vs := [1]) (by rfl) (by rfl) (by rfl) (by rfl) (by rfl) (by rfl) (by rfl) (by rfl) ?_; rw [one6]))|((refine st_buildP (kk := .u64) (vs := []) (by rfl) (by rfl) (by rfl) (by rfl) (by rfl) (by rfl) (by rfl) (by rfl) ?_; rw [zero6]))|refine Z02 ?_|refine Z03 ?_|refine Z04 ?_|refine Z05 ?_|refine Z06 ?_|refine Z07 ?_|refine Z08 ?_|refine Z09 ?_|refine Z10 ?_|refine Z11 ?_|refine Z12 ?_|refine Z13 ?_|refine Z14 ?_|refine Z17 ?_|refine Z18 ?_|refine Z24 ?_|refine Z25 ?_|refine Z26 ?_|refine Z27 ?_|refine Z28 ?_|refine Z29 ?_|refine Z30 ?_|refine Z31 ?_|refine Z32 ?_|refine Z62 ?_|refine Z63 ?_|refine Z64 ?_|refine Z65 ?_|refine Z67 ?_|refine Z77 ?_|refine Z78 ?_|refine Z79 ?_|refine Z81 fun _ => ?_|refine Z82 fun _ => ?_)
  refine st_cond (by rfl) (fun hb => ?_) (fun hb => ?_)
  · rw [hz0] at hb
    have hv : a ^ (p - 2) % p = a % p := by
      rw [Nat.pow_mod, hb, Nat.zero_pow (by have := p_odd; omega), Nat.zero_mod]
    rw [← hv]
    rw [← hv] at hz0
    have hla := hl0 (a ^ (p - 2) % p)
    repeat (first|refine Z02 ?_|refine Z03 ?_|refine Z04 ?_|refine Z05 ?_|refine Z06 ?_|refine Z07 ?_|refine Z08 ?_|refine Z09 ?_|refine Z10 ?_|refine Z11 ?_|refine Z12 ?_|refine Z13 ?_|refine Z14 ?_|refine Z17 ?_|refine Z18 ?_|refine Z24 ?_|refine Z25 ?_|refine Z26 ?_|refine Z27 ?_|refine Z28 ?_|refine Z29 ?_|refine Z30 ?_|refine Z31 ?_|refine Z32 ?_|refine Z62 ?_|refine Z63 ?_|refine Z64 ?_|refine Z65 ?_|refine Z67 ?_|refine Z77 ?_|refine Z78 ?_|refine Z79 ?_|refine Z81 fun _ => ?_|refine Z82 fun _ => ?_)
    refine Zec fun _ hw => post_of hw SubW.nil ⟨?_, rfl⟩
    rfl
  · rw [hz0] at hb
    have hA0 : 0 < a % p := by omega
    have hg0 := gcd_p hA0 hAp
    have hi0 : a % p * 1 % p = (a % p) % p := by rw [Nat.mul_one]
    have hi1 : a % p * 0 % p = p % p := by rw [Nat.mul_zero, Nat.mod_self, Nat.zero_mod]
    have hval : ∀ r, r < p → a % p * r % p = 1 % p → r = a ^ (p - 2) % p := by
      intro r hr h
      rw [Nat.mod_mul_mod, Nat.mod_eq_of_lt hp1] at h
      rw [← inv_val h, Nat.mod_eq_of_lt hr]
    generalize a ^ (p - 2) % p = R at *
    generalize a % p = A at *
    clear hb hz0
    repeat (first|(refine st_alloc (v := LV .u64 (List.replicate 6 0)) (by rfl) (by rfl) fun _ => ?_)|refine Z02 ?_|refine Z03 ?_|refine Z04 ?_|refine Z05 ?_|refine Z06 ?_|refine Z07 ?_|refine Z08 ?_|refine Z09 ?_|refine Z10 ?_|refine Z11 ?_|refine Z12 ?_|refine Z13 ?_|refine Z14 ?_|refine Z17 ?_|refine Z18 ?_|refine Z24 ?_|refine Z25 ?_|refine Z26 ?_|refine Z27 ?_|refine Z28 ?_|refine Z29 ?_|refine Z30 ?_|refine Z31 ?_|refine Z32 ?_|refine Z62 ?_|refine Z63 ?_|refine Z64 ?_|refine Z65 ?_|refine Z67 ?_|refine Z77 ?_|refine Z78 ?_|refine Z79 ?_|refine Z81 fun _ => ?_|refine Z82 fun _ => ?_)
    rename_i b1 b2 b3 b4 b5 b6 b7
    refine st_loop (ι := (Nat × Nat) × (Nat × Nat)) (fun q => (0 < q.1.1 ∧ q.1.1 ≤ p ∧ q.2.1 < p ∧ A * q.2.1 % p = q.1.1 % p) ∧ (0 < q.1.2 ∧ q.1.2 ≤ p ∧ q.2.2 < p ∧ A * q.2.2 % p = q.1.2 % p) ∧ Nat.gcd q.1.1 q.1.2 = 1)
      (fun _ => [(2, pt b2 0), (3, pt b3 0), (4, pt b4 0), (5, pt b5 0), (6, pt b6 0), (7, pt b7 0)])
      (fun q => [.blk b2 (LV .u64 (List.replicate 6 0)) 24, .blk b3 (LV .u64 (D 6 q.1.1)) 24, .blk b4 (LV .u64 (D 6 q.1.2)) 24, .blk b5 (LV .u64 (D 6 q.2.1)) 24, .blk b6 (LV .u64 (D 6 q.2.2)) 24, .blk b7 (LV .u64 (D 6 1)) 24]) (fun q => q.1.1 + q.1.2) ((A, p), (1, 0))
      ⟨⟨hA0, Nat.le_of_lt hAp, hp1, hi0⟩, ⟨hp0, Nat.le_refl p, hp0, hi1⟩, hg0⟩ (by repeat (first | apply subL.nil | refine subL.cons (by rfl) ?_)) (by repeat (first | apply SubW.nil | refine SubW.cons (by repeat first|apply Find.here|apply Find.there) ?_)) ?_
    rintro ⟨⟨u, v⟩, ⟨x, y⟩⟩ ⟨⟨hu0, hu, hx, hux⟩, ⟨hv0, hv, hy, hvy⟩, hg⟩
    simp only at hu0 hu hx hux hv0 hv hy hvy hg ⊢
    have huW : u < W ^ 6 := by omega
    have hvW : v < W ^ 6 := by omega
    repeat (first|((refine st_call (by rfl) (by rfl) (by rfl) (even_spec u x A b3 b5 hu0 huW hx hux) (.cons (by repeat first|apply Find.here|apply Find.there) (.cons (by repeat first|apply Find.here|apply Find.there) .nil)) (fun _ _ => trivial) (by rfl) ?_; rintro _ _ ⟨rfl, u1, x1, rfl, hd1, ho1, hx1, hux1⟩))|((refine st_call (by rfl) (by rfl) (by rfl) (even_spec v y A b4 b6 hv0 hvW hy hvy) (.cons (by repeat first|apply Find.here|apply Find.there) (.cons (by repeat first|apply Find.here|apply Find.there) .nil)) (fun _ _ => trivial) (by rfl) ?_; rintro _ _ ⟨rfl, v1, y1, rfl, hd2, ho2, hy1, hvy1⟩))|refine Z02 ?_|refine Z03 ?_|refine Z04 ?_|refine Z05 ?_|refine Z06 ?_|refine Z07 ?_|refine Z08 ?_|refine Z09 ?_|refine Z10 ?_|refine Z11 ?_|refine Z12 ?_|refine Z13 ?_|refine Z14 ?_|refine Z17 ?_|refine Z18 ?_|refine Z24 ?_|refine Z25 ?_|refine Z26 ?_|refine Z27 ?_|refine Z28 ?_|refine Z29 ?_|refine Z30 ?_|refine Z31 ?_|refine Z32 ?_|refine Z62 ?_|refine Z63 ?_|refine Z64 ?_|refine Z65 ?_|refine Z67 ?_|refine Z77 ?_|refine Z78 ?_|refine Z79 ?_|refine Z81 fun _ => ?_|refine Z82 fun _ => ?_)
    have hg1 := gcd_dvd hg hd1 hd2
    have hu1 := Nat.le_of_dvd hu0 hd1
    have hv1 := Nat.le_of_dvd hv0 hd2
    have huW1 : u1 < W ^ 6 := by omega
    have hvW1 : v1 < W ^ 6 := by omega
    have hz1 := D6_eq huW1 (show 1 < W ^ 6 by decide)
    have hz2 := D6_eq hvW1 (show 1 < W ^ 6 by decide)
    clear hux hvy hd1 hd2 hg
    have hlx1 := hl0 x1
    have hly1 := hl0 y1
    have hlu1 := hl0 u1
    have hlv1 := hl0 v1
    refine st_cond (by rfl) (fun hb => ?_) (fun hb => ?_)
    · rw [hz1] at hb
      have hr := hval x1 hx1 (by rw [hux1, hb])
      repeat (first|refine Z02 ?_|refine Z03 ?_|refine Z04 ?_|refine Z05 ?_|refine Z06 ?_|refine Z07 ?_|refine Z08 ?_|refine Z09 ?_|refine Z10 ?_|refine Z11 ?_|refine Z12 ?_|refine Z13 ?_|refine Z14 ?_|refine Z17 ?_|refine Z18 ?_|refine Z24 ?_|refine Z25 ?_|refine Z26 ?_|refine Z27 ?_|refine Z28 ?_|refine Z29 ?_|refine Z30 ?_|refine Z31 ?_|refine Z32 ?_|refine Z62 ?_|refine Z63 ?_|refine Z64 ?_|refine Z65 ?_|refine Z67 ?_|refine Z77 ?_|refine Z78 ?_|refine Z79 ?_|refine Z81 fun _ => ?_|refine Z82 fun _ => ?_)
      refine Zec fun _ hw => post_of hw SubW.nil ⟨?_, rfl⟩
      rw [hr]
    rw [hz1] at hb
    repeat (first|refine Z02 ?_|refine Z03 ?_|refine Z04 ?_|refine Z05 ?_|refine Z06 ?_|refine Z07 ?_|refine Z08 ?_|refine Z09 ?_|refine Z10 ?_|refine Z11 ?_|refine Z12 ?_|refine Z13 ?_|refine Z14 ?_|refine Z17 ?_|refine Z18 ?_|refine Z24 ?_|refine Z25 ?_|refine Z26 ?_|refine Z27 ?_|refine Z28 ?_|refine Z29 ?_|refine Z30 ?_|refine Z31 ?_|refine Z32 ?_|refine Z62 ?_|refine Z63 ?_|refine Z64 ?_|refine Z65 ?_|refine Z67 ?_|refine Z77 ?_|refine Z78 ?_|refine Z79 ?_|refine Z81 fun _ => ?_|refine Z82 fun _ => ?_)
    refine st_cond (by rfl) (fun hb2 => ?_) (fun hb2 => ?_)
    · rw [hz2] at hb2
      have hr := hval y1 hy1 (by rw [hvy1, hb2])
      repeat (first|refine Z02 ?_|refine Z03 ?_|refine Z04 ?_|refine Z05 ?_|refine Z06 ?_|refine Z07 ?_|refine Z08 ?_|refine Z09 ?_|refine Z10 ?_|refine Z11 ?_|refine Z12 ?_|refine Z13 ?_|refine Z14 ?_|refine Z17 ?_|refine Z18 ?_|refine Z24 ?_|refine Z25 ?_|refine Z26 ?_|refine Z27 ?_|refine Z28 ?_|refine Z29 ?_|refine Z30 ?_|refine Z31 ?_|refine Z32 ?_|refine Z62 ?_|refine Z63 ?_|refine Z64 ?_|refine Z65 ?_|refine Z67 ?_|refine Z77 ?_|refine Z78 ?_|refine Z79 ?_|refine Z81 fun _ => ?_|refine Z82 fun _ => ?_)
      refine Zec fun _ hw => post_of hw SubW.nil ⟨?_, rfl⟩
      rw [hr]
    rw [hz2] at hb2
    have hne : u1 ≠ v1 := by
      rintro rfl
      rw [Nat.gcd_self] at hg1
      exact hb hg1
    have hp1 := D_lt 6 u1
    have hp2 := D_lt 6 v1
    by_cases hlt : u1 < v1
    · have q1 : 0 < u1 := by omega
      have q2 : u1 ≤ p := by omega
      have q3 : 0 < v1 - u1 := by omega
      have q4 : v1 - u1 ≤ p := by omega
      have ho : ord3 (V (D 6 u1)) (V (D 6 v1)) = -1 := by rw [V_D' huW1, V_D' hvW1]; exact ord3_lt hlt
      repeat (first|refine Z02 ?_|refine Z03 ?_|refine Z04 ?_|refine Z05 ?_|refine Z06 ?_|refine Z07 ?_|refine Z08 ?_|refine Z09 ?_|refine Z10 ?_|refine Z11 ?_|refine Z12 ?_|refine Z13 ?_|refine Z14 ?_|refine Z17 ?_|refine Z18 ?_|refine Z24 ?_|refine Z25 ?_|refine Z26 ?_|refine Z27 ?_|refine Z28 ?_|refine Z29 ?_|refine Z30 ?_|refine Z31 ?_|refine Z32 ?_|refine Z62 ?_|refine Z63 ?_|refine Z64 ?_|refine Z65 ?_|refine Z67 ?_|refine Z77 ?_|refine Z78 ?_|refine Z79 ?_|refine Z81 fun _ => ?_|refine Z82 fun _ => ?_)
      refine st_draw1 (by rfl) ?_
      repeat (first|refine Zqf (by intro _ _ _;(first|refine Z02 ?_|refine Z17 ?_|refine Z18 ?_|refine Z62 ?_|refine Z63 ?_|refine Z64 ?_|refine Z65 ?_|refine Z77 ?_|refine Z78 ?_|refine Z79 ?_);exact Zq) ?_|refine Zqp (by intro _ _ _;(refine st_callV (by rfl) (by rfl) (by rfl) (cmp_spec _ _ (D 6 u1) (D 6 v1) hp1 hp2 (by omega) (by omega)) (fun w hw => ⟨RdW.arrAll (m := 6) (by repeat first|apply Find.here|apply Find.there) hlu1 w hw, RdW.arrAll (m := 6) (by repeat first|apply Find.here|apply Find.there) hlv1 w hw⟩) (by rfl) ?_; rw [ho]);exact Zq) ?_|refine Zqp (by intro _ _ _;(first|refine Z24 ?_|refine Z25 ?_|refine Z26 ?_|refine Z27 ?_|refine Z28 ?_|refine Z67 ?_|refine Z62 ?_);exact Zq) ?_|refine Zqe (by intro _ _ _;(first|refine Z29 ?_|refine Z30 ?_|refine Z31 ?_|refine Z32 ?_);exact Zqq) ?_|refine Zqn ?_)
      refine Zq0 ?_ (by kernel_rfl)
      rw [show decide (Int.ofNat 0 ≤ -1) = false from by decide]
      repeat (first|refine Z02 ?_|refine Z03 ?_|refine Z04 ?_|refine Z05 ?_|refine Z06 ?_|refine Z07 ?_|refine Z08 ?_|refine Z09 ?_|refine Z10 ?_|refine Z11 ?_|refine Z12 ?_|refine Z13 ?_|refine Z14 ?_|refine Z17 ?_|refine Z18 ?_|refine Z24 ?_|refine Z25 ?_|refine Z26 ?_|refine Z27 ?_|refine Z28 ?_|refine Z29 ?_|refine Z30 ?_|refine Z31 ?_|refine Z32 ?_|refine Z62 ?_|refine Z63 ?_|refine Z64 ?_|refine Z65 ?_|refine Z67 ?_|refine Z77 ?_|refine Z78 ?_|refine Z79 ?_|refine Z81 fun _ => ?_|refine Z82 fun _ => ?_)
      refine st_draw1 (by rfl) ?_
      repeat (first|refine Zqf (by intro _ _ _;(first|refine Z02 ?_|refine Z17 ?_|refine Z18 ?_|refine Z62 ?_|refine Z63 ?_|refine Z64 ?_|refine Z65 ?_|refine Z77 ?_|refine Z78 ?_|refine Z79 ?_);exact Zq) ?_|refine Zqp (by intro _ _ _;refine st_callV (by rfl) (by rfl) (by rfl) (minusOf_spec hvW1 (Nat.le_of_lt hlt)) (fun _ _ => trivial) (by rfl) ?_;exact Zq) ?_|refine Zqp (by intro _ _ _;refine st_callV (by rfl) (by rfl) (by rfl) (psub_spec (Nat.lt_trans hy1 hpl) (Nat.lt_trans hx1 hpl)) (fun _ _ => trivial) (by rfl) ?_;exact Zq) ?_|refine Zqp (by intro _ _ _;(first|refine Z24 ?_|refine Z25 ?_|refine Z26 ?_|refine Z27 ?_|refine Z28 ?_|refine Z67 ?_|refine Z62 ?_);exact Zq) ?_|refine Zqe (by intro _ _ _;(first|refine Z29 ?_|refine Z30 ?_|refine Z31 ?_|refine Z32 ?_);exact Zqq) ?_|refine Zqn ?_)
      refine Zq0 ?_ (by kernel_rfl)
      repeat (first|refine Z02 ?_|refine Z03 ?_|refine Z04 ?_|refine Z05 ?_|refine Z06 ?_|refine Z07 ?_|refine Z08 ?_|refine Z09 ?_|refine Z10 ?_|refine Z11 ?_|refine Z12 ?_|refine Z13 ?_|refine Z14 ?_|refine Z17 ?_|refine Z18 ?_|refine Z24 ?_|refine Z25 ?_|refine Z26 ?_|refine Z27 ?_|refine Z28 ?_|refine Z29 ?_|refine Z30 ?_|refine Z31 ?_|refine Z32 ?_|refine Z62 ?_|refine Z63 ?_|refine Z64 ?_|refine Z65 ?_|refine Z67 ?_|refine Z77 ?_|refine Z78 ?_|refine Z79 ?_|refine Z81 fun _ => ?_|refine Z82 fun _ => ?_)
      exact st_round ((u1, v1 - u1), (x1, (y1 + (p - x1 % p) % p) % p)) ⟨⟨q1, q2, hx1, hux1⟩, ⟨q3, q4, Nat.mod_lt _ hp0, sub_val hvy1 hux1 (Nat.le_of_lt hlt)⟩, gcd_subr hg1 (Nat.le_of_lt hlt)⟩ (by simp only; omega) (by repeat (first | apply subL.nil | refine subL.cons (by rfl) ?_)) (by repeat (first | apply SubW.nil | refine SubW.cons (by repeat first|apply Find.here|apply Find.there) ?_))
    · have q1 : 0 < v1 := by omega
      have q2 : v1 ≤ p := by omega
      have q3 : 0 < u1 - v1 := by omega
      have q4 : u1 - v1 ≤ p := by omega
      have ho : ord3 (V (D 6 u1)) (V (D 6 v1)) = 1 := by rw [V_D' huW1, V_D' hvW1]; exact ord3_gt (by omega)
      repeat (first|refine Z02 ?_|refine Z03 ?_|refine Z04 ?_|refine Z05 ?_|refine Z06 ?_|refine Z07 ?_|refine Z08 ?_|refine Z09 ?_|refine Z10 ?_|refine Z11 ?_|refine Z12 ?_|refine Z13 ?_|refine Z14 ?_|refine Z17 ?_|refine Z18 ?_|refine Z24 ?_|refine Z25 ?_|refine Z26 ?_|refine Z27 ?_|refine Z28 ?_|refine Z29 ?_|refine Z30 ?_|refine Z31 ?_|refine Z32 ?_|refine Z62 ?_|refine Z63 ?_|refine Z64 ?_|refine Z65 ?_|refine Z67 ?_|refine Z77 ?_|refine Z78 ?_|refine Z79 ?_|refine Z81 fun _ => ?_|refine Z82 fun _ => ?_)
      refine st_draw1 (by rfl) ?_
      repeat (first|refine Zqf (by intro _ _ _;(first|refine Z02 ?_|refine Z17 ?_|refine Z18 ?_|refine Z62 ?_|refine Z63 ?_|refine Z64 ?_|refine Z65 ?_|refine Z77 ?_|refine Z78 ?_|refine Z79 ?_);exact Zq) ?_|refine Zqp (by intro _ _ _;(refine st_callV (by rfl) (by rfl) (by rfl) (cmp_spec _ _ (D 6 u1) (D 6 v1) hp1 hp2 (by omega) (by omega)) (fun w hw => ⟨RdW.arrAll (m := 6) (by repeat first|apply Find.here|apply Find.there) hlu1 w hw, RdW.arrAll (m := 6) (by repeat first|apply Find.here|apply Find.there) hlv1 w hw⟩) (by rfl) ?_; rw [ho]);exact Zq) ?_|refine Zqp (by intro _ _ _;(first|refine Z24 ?_|refine Z25 ?_|refine Z26 ?_|refine Z27 ?_|refine Z28 ?_|refine Z67 ?_|refine Z62 ?_);exact Zq) ?_|refine Zqe (by intro _ _ _;(first|refine Z29 ?_|refine Z30 ?_|refine Z31 ?_|refine Z32 ?_);exact Zqq) ?_|refine Zqn ?_)
      refine Zq0 ?_ (by kernel_rfl)
      rw [show decide ((0 : Nat) ≤ 1) = true from by decide]
      repeat (first|refine Z02 ?_|refine Z03 ?_|refine Z04 ?_|refine Z05 ?_|refine Z06 ?_|refine Z07 ?_|refine Z08 ?_|refine Z09 ?_|refine Z10 ?_|refine Z11 ?_|refine Z12 ?_|refine Z13 ?_|refine Z14 ?_|refine Z17 ?_|refine Z18 ?_|refine Z24 ?_|refine Z25 ?_|refine Z26 ?_|refine Z27 ?_|refine Z28 ?_|refine Z29 ?_|refine Z30 ?_|refine Z31 ?_|refine Z32 ?_|refine Z62 ?_|refine Z63 ?_|refine Z64 ?_|refine Z65 ?_|refine Z67 ?_|refine Z77 ?_|refine Z78 ?_|refine Z79 ?_|refine Z81 fun _ => ?_|refine Z82 fun _ => ?_)
      refine st_draw1 (by rfl) ?_
      repeat (first|refine Zqf (by intro _ _ _;(first|refine Z02 ?_|refine Z17 ?_|refine Z18 ?_|refine Z62 ?_|refine Z63 ?_|refine Z64 ?_|refine Z65 ?_|refine Z77 ?_|refine Z78 ?_|refine Z79 ?_);exact Zq) ?_|refine Zqp (by intro _ _ _;refine st_callV (by rfl) (by rfl) (by rfl) (minusOf_spec huW1 (Nat.le_of_not_lt hlt)) (fun _ _ => trivial) (by rfl) ?_;exact Zq) ?_|refine Zqp (by intro _ _ _;refine st_callV (by rfl) (by rfl) (by rfl) (psub_spec (Nat.lt_trans hx1 hpl) (Nat.lt_trans hy1 hpl)) (fun _ _ => trivial) (by rfl) ?_;exact Zq) ?_|refine Zqp (by intro _ _ _;(first|refine Z24 ?_|refine Z25 ?_|refine Z26 ?_|refine Z27 ?_|refine Z28 ?_|refine Z67 ?_|refine Z62 ?_);exact Zq) ?_|refine Zqe (by intro _ _ _;(first|refine Z29 ?_|refine Z30 ?_|refine Z31 ?_|refine Z32 ?_);exact Zqq) ?_|refine Zqn ?_)
      refine Zq0 ?_ (by kernel_rfl)
      repeat (first|refine Z02 ?_|refine Z03 ?_|refine Z04 ?_|refine Z05 ?_|refine Z06 ?_|refine Z07 ?_|refine Z08 ?_|refine Z09 ?_|refine Z10 ?_|refine Z11 ?_|refine Z12 ?_|refine Z13 ?_|refine Z14 ?_|refine Z17 ?_|refine Z18 ?_|refine Z24 ?_|refine Z25 ?_|refine Z26 ?_|refine Z27 ?_|refine Z28 ?_|refine Z29 ?_|refine Z30 ?_|refine Z31 ?_|refine Z32 ?_|refine Z62 ?_|refine Z63 ?_|refine Z64 ?_|refine Z65 ?_|refine Z67 ?_|refine Z77 ?_|refine Z78 ?_|refine Z79 ?_|refine Z81 fun _ => ?_|refine Z82 fun _ => ?_)
      exact st_round ((u1 - v1, v1), ((x1 + (p - y1 % p) % p) % p, y1)) ⟨⟨q3, q4, Nat.mod_lt _ hp0, sub_val hux1 hvy1 (Nat.le_of_not_lt hlt)⟩, ⟨q1, q2, hy1, hvy1⟩, gcd_subl hg1 (Nat.le_of_not_lt hlt)⟩ (by simp only; omega) (by repeat (first | apply subL.nil | refine subL.cons (by rfl) ?_)) (by repeat (first | apply SubW.nil | refine SubW.cons (by repeat first|apply Find.here|apply Find.there) ?_))
end Go.Proofs.Ytbpmbdlgmmabcaa.L
namespace Go.Proofs.Ytbpmbdlgmmabcaa.L
open Go Go.Proofs
set_option maxRecDepth 100000
attribute [local irreducible] Code.wp wpList Af bodyPost L.Go
open Num
attribute [local simp] D_len
abbrev Fq := Fin p
abbrev kp (a : Nat) : Fq := Kf.κ p a
theorem kp_val (x : Fq) : kp x.val = x := Kf.κ_val x
theorem val_lt (x : Fq) : x.val < W ^ 6 := Nat.lt_trans x.isLt p_lt
theorem p_3 : Kf.P3 p := ⟨p_prime, by decide +kernel⟩
theorem kadd_eq (a b : Nat) : (a + b) % p = (kp a + kp b).val := by rw [← Kf.κ_add, Kf.val_κ]
theorem kmul_eq (a b : Nat) : a * b % p = (kp a * kp b).val := by rw [← Kf.κ_mul, Kf.val_κ]
theorem kneg_eq (a : Nat) : (p - a % p) % p = (- kp a).val := by rw [← Kf.val_κ (n := p), Kf.κ_neg (Nat.le_of_lt (Nat.mod_lt _ p_pos)), Kf.κ_mod]
theorem ksub_eq (a b : Nat) : (a + (p - b % p) % p) % p = (kp a - kp b).val := by
  rw [← Kf.val_κ (n := p), Kf.κ_add, Kf.κ_mod, Kf.κ_neg (Nat.le_of_lt (Nat.mod_lt _ p_pos)), Kf.κ_mod]
  exact congrArg Fin.val (by grind)
theorem kpow_eq (a e : Nat) : a ^ e % p = (kp a ^ e).val := by rw [← Kf.κ_pow, Kf.val_κ]
theorem kinv_eq (a : Nat) : a ^ (p - 2) % p = (Kf.inv (kp a)).val := by rw [kpow_eq]; rfl
theorem kred_spec {a : Nat} (ha : a < W ^ 6) : Spec Try.prog 59 [LV .u64 (D 6 a)] NoPre [] (IsV (LV .u64 (D 6 (kp a).val))) := preduce_spec ha
theorem kadd_spec {a b : Nat} (ha : a < W ^ 6) (hb : b < W ^ 6) : Spec Try.prog 24 [LV .u64 (D 6 a), LV .u64 (D 6 b)] NoPre [] (IsV (LV .u64 (D 6 (kp a + kp b).val))) := by
  rw [← kadd_eq]; exact padd_spec ha hb
theorem kmul_spec {a b : Nat} (ha : a < W ^ 6) (hb : b < W ^ 6) : Spec Try.prog 25 [LV .u64 (D 6 a), LV .u64 (D 6 b)] NoPre [] (IsV (LV .u64 (D 6 (kp a * kp b).val))) := by
  rw [← kmul_eq]; exact pmul_spec ha hb
theorem ksub_spec {a b : Nat} (ha : a < W ^ 6) (hb : b < W ^ 6) : Spec Try.prog 54 [LV .u64 (D 6 a), LV .u64 (D 6 b)] NoPre [] (IsV (LV .u64 (D 6 (kp a - kp b).val))) := by
  rw [← ksub_eq]; exact psub_spec ha hb
theorem kneg_spec {a : Nat} (ha : a < W ^ 6) : Spec Try.prog 52 [LV .u64 (D 6 a)] NoPre [] (IsV (LV .u64 (D 6 (- kp a).val))) := by
  rw [← kneg_eq]; exact pneg_spec ha
theorem kinv_spec {a : Nat} (ha : a < W ^ 6) : Spec Try.prog 58 [LV .u64 (D 6 a)] NoPre [] (IsV (LV .u64 (D 6 (Kf.inv (kp a)).val))) := by
  rw [← kinv_eq]; exact pinv_spec ha
theorem kpow_spec {a : Nat} (ha : a < W ^ 6) (s : Value) (xs : List Nat) (hx : Lt 18446744073709551616 xs) (hl : xs.length < 65536) :
    Spec Try.prog 97 [LV .u64 (D 6 a), s] (fun w => Rd w s (xs.map (N .u64))) [] (IsV (LV .u64 (D 6 (kp a ^ V xs).val))) := by
  rw [← kpow_eq]; exact ppow_spec ha s xs hx hl
theorem fadd_spec' (x y : Fq) : Spec Try.prog 24 [LV .u64 (D 6 x.val), LV .u64 (D 6 y.val)] NoPre [] (IsV (LV .u64 (D 6 (x + y).val))) := by
  have := kadd_spec (val_lt x) (val_lt y); rwa [kp_val, kp_val] at this
theorem fmul_spec' (x y : Fq) : Spec Try.prog 25 [LV .u64 (D 6 x.val), LV .u64 (D 6 y.val)] NoPre [] (IsV (LV .u64 (D 6 (x * y).val))) := by
  have := kmul_spec (val_lt x) (val_lt y); rwa [kp_val, kp_val] at this
theorem fsub_spec' (x y : Fq) : Spec Try.prog 54 [LV .u64 (D 6 x.val), LV .u64 (D 6 y.val)] NoPre [] (IsV (LV .u64 (D 6 (x - y).val))) := by
  have := ksub_spec (val_lt x) (val_lt y); rwa [kp_val, kp_val] at this
theorem fneg_spec' (x : Fq) : Spec Try.prog 52 [LV .u64 (D 6 x.val)] NoPre [] (IsV (LV .u64 (D 6 (-x).val))) := by
  have := kneg_spec (val_lt x); rwa [kp_val] at this
theorem finv_spec' (x : Fq) : Spec Try.prog 58 [LV .u64 (D 6 x.val)] NoPre [] (IsV (LV .u64 (D 6 (Kf.inv x).val))) := by
  have := kinv_spec (val_lt x); rwa [kp_val] at this
theorem D6_iff (x y : Fq) : (D 6 x.val = D 6 y.val) = (x = y) := by rw [D6_eq (val_lt x) (val_lt y)]; exact propext ⟨Fin.ext, fun h => h ▸ rfl⟩
theorem val_0 : (0 : Fq).val = 0 := rfl
theorem quarter_lit : ([17185665809301629611, 552535377879302143, 15693976698673184137, 15644892545385841839, 10576397981472451381, 468449654411884966] : List Nat) = D 6 ((p + 1) / 4) := by decide +kernel
theorem fsign_spec {a : Nat} (ha : a < W ^ 6) : Spec Try.prog 60 [LV .u64 (D 6 a)] NoPre [] (IsV (N .i64 (Kf.sg (kp a)))) := by
  refine mk_spec Try.func60 rfl rfl rfl fun w _ => ?_
  have hl0 := fun x => D_len 6 x
  have hla := hl0 (kp a).val
  have hb := low_bit (val_lt (kp a))
  repeat (first|(refine st_callV (by rfl) (by rfl) (by rfl) (kred_spec ha) (fun _ _ => trivial) (by rfl) ?_)|(rw [hb])|refine Z02 ?_|refine Z03 ?_|refine Z04 ?_|refine Z05 ?_|refine Z06 ?_|refine Z07 ?_|refine Z08 ?_|refine Z09 ?_|refine Z10 ?_|refine Z11 ?_|refine Z12 ?_|refine Z13 ?_|refine Z14 ?_|refine Z24 ?_|refine Z25 ?_|refine Z26 ?_|refine Z27 ?_|refine Z28 ?_|refine Z40 ?_|refine Z44 ?_|refine Z45 ?_|refine Z57 ?_|refine Z67 ?_|refine Z74 ?_|refine Z80 ?_|refine Z81 fun _ => ?_)
  refine Ze1 fun _ hw => post_of hw SubW.nil ⟨?_, rfl⟩
  rfl
theorem quarter_spec : Spec Try.prog 96 [] NoPre [] (IsV (LV .u64 (D 6 ((p + 1) / 4)))) := by
  refine mk_spec Try.func96 rfl rfl rfl fun w _ => ?_
  repeat (first|(refine st_alloc (v := LV .u64 (List.replicate 6 0)) (by rfl) (by rfl) fun _ => ?_)|(refine st_buildP (kk := .u64) (vs := [17185665809301629611, 552535377879302143, 15693976698673184137, 15644892545385841839, 10576397981472451381, 468449654411884966]) (by rfl) (by rfl) (by rfl) (by rfl) (by rfl) (by rfl) (by rfl) (by rfl) ?_)|refine Z03 ?_|refine Z04 ?_|refine Z05 ?_|refine Z06 ?_|refine Z07 ?_|refine Z08 ?_|refine Z09 ?_|refine Z10 ?_|refine Z11 ?_|refine Z12 ?_|refine Z13 ?_|refine Z14 ?_|refine Z29 ?_|refine Z30 ?_|refine Z31 ?_|refine Z32 ?_|refine Z65 ?_|refine Z82 fun _ => ?_)
  refine Zec fun _ hw => post_of hw SubW.nil ⟨?_, rfl⟩
  rw [← quarter_lit]; rfl
theorem evn_spec (x : Fq) : Spec Try.prog 98 [LV .u64 (D 6 x.val)] NoPre [] (IsV (LV .u64 (D 6 (Kf.evn x).val))) := by
  refine mk_spec Try.func98 rfl rfl rfl fun w _ => ?_
  have hl0 := fun x => D_len 6 x
  have hs := fsign_spec (val_lt x)
  rw [kp_val] at hs
  repeat (first|(refine st_alloc (v := LV .u64 (List.replicate 6 0)) (by rfl) (by rfl) fun _ => ?_)|(refine st_callV (by rfl) (by rfl) (by rfl) (hs) (fun _ _ => trivial) (by rfl) ?_)|refine Z03 ?_|refine Z04 ?_|refine Z05 ?_|refine Z06 ?_|refine Z07 ?_|refine Z08 ?_|refine Z09 ?_|refine Z10 ?_|refine Z11 ?_|refine Z12 ?_|refine Z13 ?_|refine Z14 ?_|refine Z17 ?_|refine Z18 ?_|refine Z24 ?_|refine Z25 ?_|refine Z26 ?_|refine Z27 ?_|refine Z28 ?_|refine Z29 ?_|refine Z30 ?_|refine Z31 ?_|refine Z32 ?_|refine Z67 ?_|refine Z81 fun _ => ?_|refine Z82 fun _ => ?_)
  refine st_cond (by rfl) (fun h => ?_) (fun h => ?_)
  · have he : Kf.evn x = -x := if_pos h
    repeat (first|(refine st_callV (by rfl) (by rfl) (by rfl) (fneg_spec' x) (fun _ _ => trivial) (by rfl) ?_)|refine Z03 ?_|refine Z04 ?_|refine Z05 ?_|refine Z06 ?_|refine Z07 ?_|refine Z08 ?_|refine Z09 ?_|refine Z10 ?_|refine Z11 ?_|refine Z12 ?_|refine Z13 ?_|refine Z14 ?_|refine Z17 ?_|refine Z18 ?_|refine Z24 ?_|refine Z25 ?_|refine Z26 ?_|refine Z27 ?_|refine Z28 ?_|refine Z29 ?_|refine Z30 ?_|refine Z31 ?_|refine Z32 ?_|refine Z67 ?_|refine Z81 fun _ => ?_|refine Z82 fun _ => ?_)
    refine Zec fun _ hw => post_of hw SubW.nil ⟨?_, rfl⟩
    rw [he]
  · have he : Kf.evn x = x := if_neg h
    repeat (first|refine Z03 ?_|refine Z04 ?_|refine Z05 ?_|refine Z06 ?_|refine Z07 ?_|refine Z08 ?_|refine Z09 ?_|refine Z10 ?_|refine Z11 ?_|refine Z12 ?_|refine Z13 ?_|refine Z14 ?_|refine Z17 ?_|refine Z18 ?_|refine Z24 ?_|refine Z25 ?_|refine Z26 ?_|refine Z27 ?_|refine Z28 ?_|refine Z29 ?_|refine Z30 ?_|refine Z31 ?_|refine Z32 ?_|refine Z67 ?_|refine Z81 fun _ => ?_|refine Z82 fun _ => ?_)
    refine Zec fun _ hw => post_of hw SubW.nil ⟨?_, rfl⟩
    rw [he]
theorem rt_eq (a : Nat) : kp a ^ V (D 6 ((p + 1) / 4)) = Kf.rt (kp a) := by
  rw [V_D' (by have := p_lt; omega)]; rfl
theorem fsqrt_spec {a : Nat} (ha : a < W ^ 6) : Spec Try.prog 55 [LV .u64 (D 6 a)] NoPre [] (IsV (.tuple [LV .u64 (D 6 (Kf.K2.fsq (kp a)).1.val), .bool (Kf.K2.fsq (kp a)).2].toArray)) := by
  refine mk_spec Try.func55 rfl rfl rfl fun w _ => ?_
  have hl0 := fun x => D_len 6 x
  have hlq := hl0 ((p + 1) / 4)
  have hpw := fun s => kpow_spec ha s (D 6 ((p + 1) / 4)) (D_lt _ _) (by omega)
  rw [rt_eq] at hpw
  repeat (first|(refine st_alloc (v := LV .u64 (List.replicate 6 0)) (by rfl) (by rfl) fun _ => ?_)|(refine st_callV (by rfl) (by rfl) (by rfl) (quarter_spec) (fun _ _ => trivial) (by rfl) ?_)|refine Z01 ?_|refine Z02 ?_|refine Z03 ?_|refine Z04 ?_|refine Z05 ?_|refine Z06 ?_|refine Z07 ?_|refine Z08 ?_|refine Z09 ?_|refine Z10 ?_|refine Z11 ?_|refine Z12 ?_|refine Z13 ?_|refine Z14 ?_|refine Z24 ?_|refine Z25 ?_|refine Z26 ?_|refine Z27 ?_|refine Z28 ?_|refine Z29 ?_|refine Z30 ?_|refine Z31 ?_|refine Z32 ?_|refine Z62 ?_|refine Z63 ?_|refine Z64 ?_|refine Z65 ?_|refine Z67 ?_|refine Z77 ?_|refine Z78 ?_|refine Z79 ?_|refine Z81 fun _ => ?_|refine Z82 fun _ => ?_)
  refine R.st_perm [0, 1, 2, 3, 4] (by rfl) ?_
  repeat (first|refine R.Zpf (by rfl) (by intro _ _ _;(first|refine Z01 ?_|refine Z02 ?_|refine Z62 ?_|refine Z63 ?_|refine Z64 ?_|refine Z65 ?_|refine Z77 ?_|refine Z78 ?_|refine Z79 ?_);exact Zq) ?_|refine R.Zpp (by rfl) (by intro _ _ _;(first|refine Z24 ?_|refine Z25 ?_|refine Z26 ?_|refine Z27 ?_|refine Z28 ?_|refine Z67 ?_|refine Z62 ?_);exact Zq) ?_|refine R.Zpp (by rfl) (by intro _ _ _;refine st_callV (by rfl) (by rfl) (by rfl) (hpw _) (RdW.arrAll (m := 6) (by repeat first|apply Find.here|apply Find.there) hlq) (by rfl) ?_;exact Zq) ?_|refine R.Zps (by rfl) (by intro _ _ _;(first|refine Z29 ?_|refine Z30 ?_|refine Z31 ?_|refine Z32 ?_);exact Zqq) ?_|refine R.Zpb (by rfl) (by intro _ _ _;refine st_alloc (v := LV .u64 (List.replicate 6 0)) (by rfl) (by rfl) fun _ => ?_;exact R.Zpbx) fun _ => ?_|refine R.Zpn (by rfl) (by intro _ _ _;(first|refine Z81 fun _ => ?_|refine Z82 fun _ => ?_);exact R.Zpx) fun _ => ?_|refine R.Zpo (by rfl) ?_)
  refine R.Zp0 ?_
  repeat (first|refine Z01 ?_|refine Z02 ?_|refine Z03 ?_|refine Z04 ?_|refine Z05 ?_|refine Z06 ?_|refine Z07 ?_|refine Z08 ?_|refine Z09 ?_|refine Z10 ?_|refine Z11 ?_|refine Z12 ?_|refine Z13 ?_|refine Z14 ?_|refine Z24 ?_|refine Z25 ?_|refine Z26 ?_|refine Z27 ?_|refine Z28 ?_|refine Z29 ?_|refine Z30 ?_|refine Z31 ?_|refine Z32 ?_|refine Z62 ?_|refine Z63 ?_|refine Z64 ?_|refine Z65 ?_|refine Z67 ?_|refine Z77 ?_|refine Z78 ?_|refine Z79 ?_|refine Z81 fun _ => ?_|refine Z82 fun _ => ?_)
  refine st_draw1 (by rfl) ?_
  repeat (first|refine Zqf (by intro _ _ _;(first|refine Z01 ?_|refine Z02 ?_|refine Z62 ?_|refine Z63 ?_|refine Z64 ?_|refine Z65 ?_|refine Z77 ?_|refine Z78 ?_|refine Z79 ?_);exact Zq) ?_|refine Zqp (by intro _ _ _;refine st_callV (by rfl) (by rfl) (by rfl) (fmul_spec' (Kf.rt (kp a)) (Kf.rt (kp a))) (fun _ _ => trivial) (by rfl) ?_;exact Zq) ?_|refine Zqp (by intro _ _ _;refine st_callV (by rfl) (by rfl) (by rfl) (kred_spec ha) (fun _ _ => trivial) (by rfl) ?_;exact Zq) ?_|refine Zqp (by intro _ _ _;(first|refine Z24 ?_|refine Z25 ?_|refine Z26 ?_|refine Z27 ?_|refine Z28 ?_|refine Z67 ?_|refine Z62 ?_);exact Zq) ?_|refine Zqe (by intro _ _ _;(first|refine Z29 ?_|refine Z30 ?_|refine Z31 ?_|refine Z32 ?_);exact Zqq) ?_|refine Zqn ?_)
  refine Zq0 ?_ (by kernel_rfl)
  repeat (first|refine Z01 ?_|refine Z02 ?_|refine Z03 ?_|refine Z04 ?_|refine Z05 ?_|refine Z06 ?_|refine Z07 ?_|refine Z08 ?_|refine Z09 ?_|refine Z10 ?_|refine Z11 ?_|refine Z12 ?_|refine Z13 ?_|refine Z14 ?_|refine Z24 ?_|refine Z25 ?_|refine Z26 ?_|refine Z27 ?_|refine Z28 ?_|refine Z29 ?_|refine Z30 ?_|refine Z31 ?_|refine Z32 ?_|refine Z62 ?_|refine Z63 ?_|refine Z64 ?_|refine Z65 ?_|refine Z67 ?_|refine Z77 ?_|refine Z78 ?_|refine Z79 ?_|refine Z81 fun _ => ?_|refine Z82 fun _ => ?_)
  by_cases h2 : Kf.rt (kp a) * Kf.rt (kp a) = kp a
  · have hq : Kf.K2.fsq (kp a) = (Kf.evn (Kf.rt (kp a)), true) := if_pos h2
    have hb : (!decide (D 6 (Kf.rt (kp a) * Kf.rt (kp a)).val = D 6 (kp a).val)) = false := by rw [h2]; simp
    rw [hq, hb]
    have hle := hl0 (Kf.evn (Kf.rt (kp a))).val
    repeat (first|(refine st_callV (by rfl) (by rfl) (by rfl) (evn_spec (Kf.rt (kp a))) (fun _ _ => trivial) (by rfl) ?_)|refine Z01 ?_|refine Z02 ?_|refine Z03 ?_|refine Z04 ?_|refine Z05 ?_|refine Z06 ?_|refine Z07 ?_|refine Z08 ?_|refine Z09 ?_|refine Z10 ?_|refine Z11 ?_|refine Z12 ?_|refine Z13 ?_|refine Z14 ?_|refine Z24 ?_|refine Z25 ?_|refine Z26 ?_|refine Z27 ?_|refine Z28 ?_|refine Z29 ?_|refine Z30 ?_|refine Z31 ?_|refine Z32 ?_|refine Z62 ?_|refine Z63 ?_|refine Z64 ?_|refine Z65 ?_|refine Z67 ?_|refine Z77 ?_|refine Z78 ?_|refine Z79 ?_|refine Z81 fun _ => ?_|refine Z82 fun _ => ?_)
    refine st_endc2_LV (by rfl) (by rfl) (by rfl) (by repeat first|apply Find.here|apply Find.there) (by rfl) (by rfl) (by first | with_reducible assumption | (simp [*]; done)) fun _ hw => post_of hw SubW.nil ⟨?_, rfl⟩
    rfl
  · have hq : Kf.K2.fsq (kp a) = (0, false) := if_neg h2
    have hb : (!decide (D 6 (Kf.rt (kp a) * Kf.rt (kp a)).val = D 6 (kp a).val)) = true := by simp [D6_iff, h2]
    rw [hq, hb]
    repeat (first|((refine st_buildP (kk := .u64) (vs := []) (by rfl) (by rfl) (by rfl) (by rfl) (by rfl) (by rfl) (by rfl) (by rfl) ?_; rw [zero6]))|refine Z01 ?_|refine Z02 ?_|refine Z03 ?_|refine Z04 ?_|refine Z05 ?_|refine Z06 ?_|refine Z07 ?_|refine Z08 ?_|refine Z09 ?_|refine Z10 ?_|refine Z11 ?_|refine Z12 ?_|refine Z13 ?_|refine Z14 ?_|refine Z24 ?_|refine Z25 ?_|refine Z26 ?_|refine Z27 ?_|refine Z28 ?_|refine Z29 ?_|refine Z30 ?_|refine Z31 ?_|refine Z32 ?_|refine Z62 ?_|refine Z63 ?_|refine Z64 ?_|refine Z65 ?_|refine Z67 ?_|refine Z77 ?_|refine Z78 ?_|refine Z79 ?_|refine Z81 fun _ => ?_|refine Z82 fun _ => ?_)
    refine st_endc2_LV (by rfl) (by rfl) (by rfl) (by repeat first|apply Find.here|apply Find.there) (by rfl) (by rfl) (by first | with_reducible assumption | (simp [*]; done)) fun _ hw => post_of hw SubW.nil ⟨?_, rfl⟩
    rfl
end Go.Proofs.Ytbpmbdlgmmabcaa.L
namespace Go.Proofs.Ytbpmbdlgmmabcaa.L
open Go Go.Proofs
set_option maxRecDepth 100000
attribute [local irreducible] Code.wp wpList Af bodyPost L.Go
open Num
attribute [local simp] D_len
abbrev F2 := Kf.K2 p
abbrev k2 (a b : Nat) : F2 := ⟨kp a, kp b⟩
abbrev E2 (x : F2) : List Nat := D 6 x.re.val ++ D 6 x.im.val
theorem k2_val (x : F2) : k2 x.re.val x.im.val = x := by unfold k2; rw [kp_val, kp_val]
theorem E2_len (x : F2) : (E2 x).length = 12 := by simp
theorem sred_spec {a b : Nat} (ha : a < W ^ 6) (hb : b < W ^ 6) : Spec Try.prog 20 [LV .u64 (D 6 a ++ D 6 b)] NoPre [] (IsV (LV .u64 (E2 (k2 a b)))) := by
  refine mk_spec Try.func20 rfl rfl rfl fun w _ => ?_
  have hl0 := fun x => D_len 6 x
  repeat (first|(refine st_alloc (v := LV .u64 (List.replicate 12 0)) (by rfl) (by rfl) fun _ => ?_)|refine Z03 ?_|refine Z04 ?_|refine Z05 ?_|refine Z06 ?_|refine Z07 ?_|refine Z08 ?_|refine Z09 ?_|refine Z10 ?_|refine Z11 ?_|refine Z12 ?_|refine Z13 ?_|refine Z14 ?_|refine Z24 ?_|refine Z25 ?_|refine Z26 ?_|refine Z27 ?_|refine Z28 ?_|refine Z29 ?_|refine Z30 ?_|refine Z31 ?_|refine Z32 ?_|refine Z65 ?_|refine Z67 ?_|refine Z81 fun _ => ?_|refine Z82 fun _ => ?_)
  refine st_draw1 (by rfl) ?_
  repeat (first|refine Zqf (by intro _ _ _;(first|(refine st_fld (by rfl) (by first | exact (show _ = some (0, 6) from rfl) | exact (show _ = some (6, 6) from rfl) | exact (show _ = some (0, 12) from rfl) | exact (show _ = some (12, 12) from rfl) | exact (show _ = some (24, 1) from rfl)) (by rfl) (by rfl) ?_)|(refine st_build2 (by rfl) (by rfl) (by rfl) (by rfl) (by simp; done) (by simp; done) (by rfl) ?_)|refine Z65 ?_);exact Zq) ?_|refine Zqp (by intro _ _ _;(refine st_ldp (by rfl) (by repeat first|apply Find.here|apply Find.there) (by rfl) (by rfl) (by first | (refine PartAt.l ?_; (simp; done)) | (refine PartAt.r ?_ ?_ <;> (simp; done)) | (refine PartAt.all ?_; (simp; done))) (by rfl) ?_);exact Zq) ?_|refine Zqp (by intro _ _ _;refine st_callV (by rfl) (by rfl) (by rfl) (kred_spec ha) (fun _ _ => trivial) (by rfl) ?_;exact Zq) ?_|refine Zqp (by intro _ _ _;refine st_callV (by rfl) (by rfl) (by rfl) (kred_spec hb) (fun _ _ => trivial) (by rfl) ?_;exact Zq) ?_|refine Zqp (by intro _ _ _;(first|refine Z24 ?_|refine Z25 ?_|refine Z26 ?_|refine Z27 ?_|refine Z28 ?_|refine Z67 ?_);exact Zq) ?_|refine Zqe (by intro _ _ _;(first|refine Z29 ?_|refine Z30 ?_|refine Z31 ?_|refine Z32 ?_);exact Zqq) ?_|refine Zqn ?_)
  refine Zq0 ?_ (by kernel_rfl)
  repeat (first|refine Z03 ?_|refine Z04 ?_|refine Z05 ?_|refine Z06 ?_|refine Z07 ?_|refine Z08 ?_|refine Z09 ?_|refine Z10 ?_|refine Z11 ?_|refine Z12 ?_|refine Z13 ?_|refine Z14 ?_|refine Z24 ?_|refine Z25 ?_|refine Z26 ?_|refine Z27 ?_|refine Z28 ?_|refine Z29 ?_|refine Z30 ?_|refine Z31 ?_|refine Z32 ?_|refine Z65 ?_|refine Z67 ?_|refine Z81 fun _ => ?_|refine Z82 fun _ => ?_)
  refine Zec fun _ hw => post_of hw SubW.nil ⟨?_, rfl⟩
  rfl
theorem sadd_spec {a b e f : Nat} (ha : a < W ^ 6) (hb : b < W ^ 6) (he : e < W ^ 6) (hf : f < W ^ 6) : Spec Try.prog 31 [LV .u64 (D 6 a ++ D 6 b), LV .u64 (D 6 e ++ D 6 f)] NoPre [] (IsV (LV .u64 (E2 (Kf.K2.add (k2 a b) (k2 e f))))) := by
  refine mk_spec Try.func31 rfl rfl rfl fun w _ => ?_
  have hl0 := fun x => D_len 6 x
  repeat (first|(refine st_alloc (v := LV .u64 (List.replicate 12 0)) (by rfl) (by rfl) fun _ => ?_)|refine Z03 ?_|refine Z04 ?_|refine Z05 ?_|refine Z06 ?_|refine Z07 ?_|refine Z08 ?_|refine Z09 ?_|refine Z10 ?_|refine Z11 ?_|refine Z12 ?_|refine Z13 ?_|refine Z14 ?_|refine Z24 ?_|refine Z25 ?_|refine Z26 ?_|refine Z27 ?_|refine Z28 ?_|refine Z29 ?_|refine Z30 ?_|refine Z31 ?_|refine Z32 ?_|refine Z65 ?_|refine Z67 ?_|refine Z81 fun _ => ?_|refine Z82 fun _ => ?_)
  refine st_draw1 (by rfl) ?_
  repeat (first|refine Zqf (by intro _ _ _;(first|(refine st_fld (by rfl) (by first | exact (show _ = some (0, 6) from rfl) | exact (show _ = some (6, 6) from rfl) | exact (show _ = some (0, 12) from rfl) | exact (show _ = some (12, 12) from rfl) | exact (show _ = some (24, 1) from rfl)) (by rfl) (by rfl) ?_)|(refine st_build2 (by rfl) (by rfl) (by rfl) (by rfl) (by simp; done) (by simp; done) (by rfl) ?_)|refine Z65 ?_);exact Zq) ?_|refine Zqp (by intro _ _ _;(refine st_ldp (by rfl) (by repeat first|apply Find.here|apply Find.there) (by rfl) (by rfl) (by first | (refine PartAt.l ?_; (simp; done)) | (refine PartAt.r ?_ ?_ <;> (simp; done)) | (refine PartAt.all ?_; (simp; done))) (by rfl) ?_);exact Zq) ?_|refine Zqp (by intro _ _ _;refine st_callV (by rfl) (by rfl) (by rfl) (kadd_spec ha he) (fun _ _ => trivial) (by rfl) ?_;exact Zq) ?_|refine Zqp (by intro _ _ _;refine st_callV (by rfl) (by rfl) (by rfl) (kadd_spec hb hf) (fun _ _ => trivial) (by rfl) ?_;exact Zq) ?_|refine Zqp (by intro _ _ _;(first|refine Z24 ?_|refine Z25 ?_|refine Z26 ?_|refine Z27 ?_|refine Z28 ?_|refine Z67 ?_);exact Zq) ?_|refine Zqe (by intro _ _ _;(first|refine Z29 ?_|refine Z30 ?_|refine Z31 ?_|refine Z32 ?_);exact Zqq) ?_|refine Zqn ?_)
  refine Zq0 ?_ (by kernel_rfl)
  repeat (first|refine Z03 ?_|refine Z04 ?_|refine Z05 ?_|refine Z06 ?_|refine Z07 ?_|refine Z08 ?_|refine Z09 ?_|refine Z10 ?_|refine Z11 ?_|refine Z12 ?_|refine Z13 ?_|refine Z14 ?_|refine Z24 ?_|refine Z25 ?_|refine Z26 ?_|refine Z27 ?_|refine Z28 ?_|refine Z29 ?_|refine Z30 ?_|refine Z31 ?_|refine Z32 ?_|refine Z65 ?_|refine Z67 ?_|refine Z81 fun _ => ?_|refine Z82 fun _ => ?_)
  refine Zec fun _ hw => post_of hw SubW.nil ⟨?_, rfl⟩
  rfl
theorem sneg_spec {a b : Nat} (ha : a < W ^ 6) (hb : b < W ^ 6) : Spec Try.prog 22 [LV .u64 (D 6 a ++ D 6 b)] NoPre [] (IsV (LV .u64 (E2 (Kf.K2.neg (k2 a b))))) := by
  refine mk_spec Try.func22 rfl rfl rfl fun w _ => ?_
  have hl0 := fun x => D_len 6 x
  repeat (first|(refine st_alloc (v := LV .u64 (List.replicate 12 0)) (by rfl) (by rfl) fun _ => ?_)|refine Z03 ?_|refine Z04 ?_|refine Z05 ?_|refine Z06 ?_|refine Z07 ?_|refine Z08 ?_|refine Z09 ?_|refine Z10 ?_|refine Z11 ?_|refine Z12 ?_|refine Z13 ?_|refine Z14 ?_|refine Z24 ?_|refine Z25 ?_|refine Z26 ?_|refine Z27 ?_|refine Z28 ?_|refine Z29 ?_|refine Z30 ?_|refine Z31 ?_|refine Z32 ?_|refine Z65 ?_|refine Z67 ?_|refine Z81 fun _ => ?_|refine Z82 fun _ => ?_)
  refine st_draw1 (by rfl) ?_
  repeat (first|refine Zqf (by intro _ _ _;(first|(refine st_fld (by rfl) (by first | exact (show _ = some (0, 6) from rfl) | exact (show _ = some (6, 6) from rfl) | exact (show _ = some (0, 12) from rfl) | exact (show _ = some (12, 12) from rfl) | exact (show _ = some (24, 1) from rfl)) (by rfl) (by rfl) ?_)|(refine st_build2 (by rfl) (by rfl) (by rfl) (by rfl) (by simp; done) (by simp; done) (by rfl) ?_)|refine Z65 ?_);exact Zq) ?_|refine Zqp (by intro _ _ _;(refine st_ldp (by rfl) (by repeat first|apply Find.here|apply Find.there) (by rfl) (by rfl) (by first | (refine PartAt.l ?_; (simp; done)) | (refine PartAt.r ?_ ?_ <;> (simp; done)) | (refine PartAt.all ?_; (simp; done))) (by rfl) ?_);exact Zq) ?_|refine Zqp (by intro _ _ _;refine st_callV (by rfl) (by rfl) (by rfl) (kneg_spec ha) (fun _ _ => trivial) (by rfl) ?_;exact Zq) ?_|refine Zqp (by intro _ _ _;refine st_callV (by rfl) (by rfl) (by rfl) (kneg_spec hb) (fun _ _ => trivial) (by rfl) ?_;exact Zq) ?_|refine Zqp (by intro _ _ _;(first|refine Z24 ?_|refine Z25 ?_|refine Z26 ?_|refine Z27 ?_|refine Z28 ?_|refine Z67 ?_);exact Zq) ?_|refine Zqe (by intro _ _ _;(first|refine Z29 ?_|refine Z30 ?_|refine Z31 ?_|refine Z32 ?_);exact Zqq) ?_|refine Zqn ?_)
  refine Zq0 ?_ (by kernel_rfl)
  repeat (first|refine Z03 ?_|refine Z04 ?_|refine Z05 ?_|refine Z06 ?_|refine Z07 ?_|refine Z08 ?_|refine Z09 ?_|refine Z10 ?_|refine Z11 ?_|refine Z12 ?_|refine Z13 ?_|refine Z14 ?_|refine Z24 ?_|refine Z25 ?_|refine Z26 ?_|refine Z27 ?_|refine Z28 ?_|refine Z29 ?_|refine Z30 ?_|refine Z31 ?_|refine Z32 ?_|refine Z65 ?_|refine Z67 ?_|refine Z81 fun _ => ?_|refine Z82 fun _ => ?_)
  refine Zec fun _ hw => post_of hw SubW.nil ⟨?_, rfl⟩
  rfl
theorem ssub_spec {a b e f : Nat} (ha : a < W ^ 6) (hb : b < W ^ 6) (he : e < W ^ 6) (hf : f < W ^ 6) : Spec Try.prog 81 [LV .u64 (D 6 a ++ D 6 b), LV .u64 (D 6 e ++ D 6 f)] NoPre [] (IsV (LV .u64 (E2 (Kf.K2.sub (k2 a b) (k2 e f))))) := by
  refine mk_spec Try.func81 rfl rfl rfl fun w _ => ?_
  have hl0 := fun x => D_len 6 x
  repeat (first|(refine st_alloc (v := LV .u64 (List.replicate 12 0)) (by rfl) (by rfl) fun _ => ?_)|refine Z03 ?_|refine Z04 ?_|refine Z05 ?_|refine Z06 ?_|refine Z07 ?_|refine Z08 ?_|refine Z09 ?_|refine Z10 ?_|refine Z11 ?_|refine Z12 ?_|refine Z13 ?_|refine Z14 ?_|refine Z24 ?_|refine Z25 ?_|refine Z26 ?_|refine Z27 ?_|refine Z28 ?_|refine Z29 ?_|refine Z30 ?_|refine Z31 ?_|refine Z32 ?_|refine Z65 ?_|refine Z67 ?_|refine Z81 fun _ => ?_|refine Z82 fun _ => ?_)
  refine st_draw1 (by rfl) ?_
  repeat (first|refine Zqf (by intro _ _ _;(first|(refine st_fld (by rfl) (by first | exact (show _ = some (0, 6) from rfl) | exact (show _ = some (6, 6) from rfl) | exact (show _ = some (0, 12) from rfl) | exact (show _ = some (12, 12) from rfl) | exact (show _ = some (24, 1) from rfl)) (by rfl) (by rfl) ?_)|(refine st_build2 (by rfl) (by rfl) (by rfl) (by rfl) (by simp; done) (by simp; done) (by rfl) ?_)|refine Z65 ?_);exact Zq) ?_|refine Zqp (by intro _ _ _;(refine st_ldp (by rfl) (by repeat first|apply Find.here|apply Find.there) (by rfl) (by rfl) (by first | (refine PartAt.l ?_; (simp; done)) | (refine PartAt.r ?_ ?_ <;> (simp; done)) | (refine PartAt.all ?_; (simp; done))) (by rfl) ?_);exact Zq) ?_|refine Zqp (by intro _ _ _;refine st_callV (by rfl) (by rfl) (by rfl) (ksub_spec ha he) (fun _ _ => trivial) (by rfl) ?_;exact Zq) ?_|refine Zqp (by intro _ _ _;refine st_callV (by rfl) (by rfl) (by rfl) (ksub_spec hb hf) (fun _ _ => trivial) (by rfl) ?_;exact Zq) ?_|refine Zqp (by intro _ _ _;(first|refine Z24 ?_|refine Z25 ?_|refine Z26 ?_|refine Z27 ?_|refine Z28 ?_|refine Z67 ?_);exact Zq) ?_|refine Zqe (by intro _ _ _;(first|refine Z29 ?_|refine Z30 ?_|refine Z31 ?_|refine Z32 ?_);exact Zqq) ?_|refine Zqn ?_)
  refine Zq0 ?_ (by kernel_rfl)
  repeat (first|refine Z03 ?_|refine Z04 ?_|refine Z05 ?_|refine Z06 ?_|refine Z07 ?_|refine Z08 ?_|refine Z09 ?_|refine Z10 ?_|refine Z11 ?_|refine Z12 ?_|refine Z13 ?_|refine Z14 ?_|refine Z24 ?_|refine Z25 ?_|refine Z26 ?_|refine Z27 ?_|refine Z28 ?_|refine Z29 ?_|refine Z30 ?_|refine Z31 ?_|refine Z32 ?_|refine Z65 ?_|refine Z67 ?_|refine Z81 fun _ => ?_|refine Z82 fun _ => ?_)
  refine Zec fun _ hw => post_of hw SubW.nil ⟨?_, rfl⟩
  rfl
theorem sconj_spec {a b : Nat} (ha : a < W ^ 6) (hb : b < W ^ 6) : Spec Try.prog 105 [LV .u64 (D 6 a ++ D 6 b)] NoPre [] (IsV (LV .u64 (E2 (Kf.K2.conj (k2 a b))))) := by
  refine mk_spec Try.func105 rfl rfl rfl fun w _ => ?_
  have hl0 := fun x => D_len 6 x
  repeat (first|(refine st_alloc (v := LV .u64 (List.replicate 12 0)) (by rfl) (by rfl) fun _ => ?_)|refine Z03 ?_|refine Z04 ?_|refine Z05 ?_|refine Z06 ?_|refine Z07 ?_|refine Z08 ?_|refine Z09 ?_|refine Z10 ?_|refine Z11 ?_|refine Z12 ?_|refine Z13 ?_|refine Z14 ?_|refine Z24 ?_|refine Z25 ?_|refine Z26 ?_|refine Z27 ?_|refine Z28 ?_|refine Z29 ?_|refine Z30 ?_|refine Z31 ?_|refine Z32 ?_|refine Z65 ?_|refine Z67 ?_|refine Z81 fun _ => ?_|refine Z82 fun _ => ?_)
  refine st_draw1 (by rfl) ?_
  repeat (first|refine Zqf (by intro _ _ _;(first|(refine st_fld (by rfl) (by first | exact (show _ = some (0, 6) from rfl) | exact (show _ = some (6, 6) from rfl) | exact (show _ = some (0, 12) from rfl) | exact (show _ = some (12, 12) from rfl) | exact (show _ = some (24, 1) from rfl)) (by rfl) (by rfl) ?_)|(refine st_build2 (by rfl) (by rfl) (by rfl) (by rfl) (by simp; done) (by simp; done) (by rfl) ?_)|refine Z65 ?_);exact Zq) ?_|refine Zqp (by intro _ _ _;(refine st_ldp (by rfl) (by repeat first|apply Find.here|apply Find.there) (by rfl) (by rfl) (by first | (refine PartAt.l ?_; (simp; done)) | (refine PartAt.r ?_ ?_ <;> (simp; done)) | (refine PartAt.all ?_; (simp; done))) (by rfl) ?_);exact Zq) ?_|refine Zqp (by intro _ _ _;refine st_callV (by rfl) (by rfl) (by rfl) (kred_spec ha) (fun _ _ => trivial) (by rfl) ?_;exact Zq) ?_|refine Zqp (by intro _ _ _;refine st_callV (by rfl) (by rfl) (by rfl) (kneg_spec hb) (fun _ _ => trivial) (by rfl) ?_;exact Zq) ?_|refine Zqp (by intro _ _ _;(first|refine Z24 ?_|refine Z25 ?_|refine Z26 ?_|refine Z27 ?_|refine Z28 ?_|refine Z67 ?_);exact Zq) ?_|refine Zqe (by intro _ _ _;(first|refine Z29 ?_|refine Z30 ?_|refine Z31 ?_|refine Z32 ?_);exact Zqq) ?_|refine Zqn ?_)
  refine Zq0 ?_ (by kernel_rfl)
  repeat (first|refine Z03 ?_|refine Z04 ?_|refine Z05 ?_|refine Z06 ?_|refine Z07 ?_|refine Z08 ?_|refine Z09 ?_|refine Z10 ?_|refine Z11 ?_|refine Z12 ?_|refine Z13 ?_|refine Z14 ?_|refine Z24 ?_|refine Z25 ?_|refine Z26 ?_|refine Z27 ?_|refine Z28 ?_|refine Z29 ?_|refine Z30 ?_|refine Z31 ?_|refine Z32 ?_|refine Z65 ?_|refine Z67 ?_|refine Z81 fun _ => ?_|refine Z82 fun _ => ?_)
  refine Zec fun _ hw => post_of hw SubW.nil ⟨?_, rfl⟩
  rfl
theorem sscale_spec {a b e : Nat} (ha : a < W ^ 6) (hb : b < W ^ 6) (he : e < W ^ 6) : Spec Try.prog 104 [LV .u64 (D 6 a ++ D 6 b), LV .u64 (D 6 e)] NoPre [] (IsV (LV .u64 (E2 (Kf.K2.scale (k2 a b) (kp e))))) := by
  refine mk_spec Try.func104 rfl rfl rfl fun w _ => ?_
  have hl0 := fun x => D_len 6 x
  repeat (first|(refine st_alloc (v := LV .u64 (List.replicate 12 0)) (by rfl) (by rfl) fun _ => ?_)|refine Z03 ?_|refine Z04 ?_|refine Z05 ?_|refine Z06 ?_|refine Z07 ?_|refine Z08 ?_|refine Z09 ?_|refine Z10 ?_|refine Z11 ?_|refine Z12 ?_|refine Z13 ?_|refine Z14 ?_|refine Z24 ?_|refine Z25 ?_|refine Z26 ?_|refine Z27 ?_|refine Z28 ?_|refine Z29 ?_|refine Z30 ?_|refine Z31 ?_|refine Z32 ?_|refine Z65 ?_|refine Z67 ?_|refine Z81 fun _ => ?_|refine Z82 fun _ => ?_)
  refine st_draw1 (by rfl) ?_
  repeat (first|refine Zqf (by intro _ _ _;(first|(refine st_fld (by rfl) (by first | exact (show _ = some (0, 6) from rfl) | exact (show _ = some (6, 6) from rfl) | exact (show _ = some (0, 12) from rfl) | exact (show _ = some (12, 12) from rfl) | exact (show _ = some (24, 1) from rfl)) (by rfl) (by rfl) ?_)|(refine st_build2 (by rfl) (by rfl) (by rfl) (by rfl) (by simp; done) (by simp; done) (by rfl) ?_)|refine Z65 ?_);exact Zq) ?_|refine Zqp (by intro _ _ _;(refine st_ldp (by rfl) (by repeat first|apply Find.here|apply Find.there) (by rfl) (by rfl) (by first | (refine PartAt.l ?_; (simp; done)) | (refine PartAt.r ?_ ?_ <;> (simp; done)) | (refine PartAt.all ?_; (simp; done))) (by rfl) ?_);exact Zq) ?_|refine Zqp (by intro _ _ _;refine st_callV (by rfl) (by rfl) (by rfl) (kmul_spec ha he) (fun _ _ => trivial) (by rfl) ?_;exact Zq) ?_|refine Zqp (by intro _ _ _;refine st_callV (by rfl) (by rfl) (by rfl) (kmul_spec hb he) (fun _ _ => trivial) (by rfl) ?_;exact Zq) ?_|refine Zqp (by intro _ _ _;(first|refine Z24 ?_|refine Z25 ?_|refine Z26 ?_|refine Z27 ?_|refine Z28 ?_|refine Z67 ?_);exact Zq) ?_|refine Zqe (by intro _ _ _;(first|refine Z29 ?_|refine Z30 ?_|refine Z31 ?_|refine Z32 ?_);exact Zqq) ?_|refine Zqn ?_)
  refine Zq0 ?_ (by kernel_rfl)
  repeat (first|refine Z03 ?_|refine Z04 ?_|refine Z05 ?_|refine Z06 ?_|refine Z07 ?_|refine Z08 ?_|refine Z09 ?_|refine Z10 ?_|refine Z11 ?_|refine Z12 ?_|refine Z13 ?_|refine Z14 ?_|refine Z24 ?_|refine Z25 ?_|refine Z26 ?_|refine Z27 ?_|refine Z28 ?_|refine Z29 ?_|refine Z30 ?_|refine Z31 ?_|refine Z32 ?_|refine Z65 ?_|refine Z67 ?_|refine Z81 fun _ => ?_|refine Z82 fun _ => ?_)
  refine Zec fun _ hw => post_of hw SubW.nil ⟨?_, rfl⟩
  rfl
theorem smix_spec (u v a b e f : Nat) (ha : a < W ^ 6) (hb : b < W ^ 6) (he : e < W ^ 6) (hf : f < W ^ 6) : Spec Try.prog 53 [pt u 0, pt v 0] (fun w => HasB w u (LV .u64 (D 6 a ++ D 6 b)) 26 ∧ HasB w v (LV .u64 (D 6 e ++ D 6 f)) 26) [] (IsV (LV .u64 (D 6 ((kp a + kp b) * (kp e + kp f)).val))) := by
  refine mk_spec Try.func53 rfl rfl rfl fun w hr => ?_
  have h1 := OldB.mk0 hr.1
  have h2 := OldB.mk0 hr.2
  have hl0 := fun x => D_len 6 x
  repeat (first|(refine st_alloc (v := LV .u64 (List.replicate 6 0)) (by rfl) (by rfl) fun _ => ?_)|refine Z03 ?_|refine Z04 ?_|refine Z05 ?_|refine Z06 ?_|refine Z07 ?_|refine Z08 ?_|refine Z09 ?_|refine Z10 ?_|refine Z11 ?_|refine Z12 ?_|refine Z13 ?_|refine Z14 ?_|refine Z24 ?_|refine Z25 ?_|refine Z26 ?_|refine Z27 ?_|refine Z28 ?_|refine Z29 ?_|refine Z30 ?_|refine Z31 ?_|refine Z32 ?_|refine Z67 ?_|refine Z82 fun _ => ?_)
  refine st_draw1 (by rfl) ?_
  repeat (first|refine Zqf (by intro _ _ _;(first|((refine st_ldo (by rfl) ((h1).shift (by assumption)) (by rfl) (by rfl) (by first | (refine PartAt.l ?_; (simp; done)) | (refine PartAt.r ?_ ?_ <;> (simp; done)) | (refine PartAt.all ?_; (simp; done))) (by rfl) ?_))|((refine st_ldo (by rfl) ((h2).shift (by assumption)) (by rfl) (by rfl) (by first | (refine PartAt.l ?_; (simp; done)) | (refine PartAt.r ?_ ?_ <;> (simp; done)) | (refine PartAt.all ?_; (simp; done))) (by rfl) ?_))|(refine st_fld (by rfl) (by first | exact (show _ = some (0, 6) from rfl) | exact (show _ = some (6, 6) from rfl) | exact (show _ = some (0, 12) from rfl) | exact (show _ = some (12, 12) from rfl) | exact (show _ = some (24, 1) from rfl)) (by rfl) (by rfl) ?_));exact Zq) ?_|refine Zqp (by intro _ _ _;(refine st_ldp (by rfl) (by repeat first|apply Find.here|apply Find.there) (by rfl) (by rfl) (by first | (refine PartAt.l ?_; (simp; done)) | (refine PartAt.r ?_ ?_ <;> (simp; done)) | (refine PartAt.all ?_; (simp; done))) (by rfl) ?_);exact Zq) ?_|refine Zqp (by intro _ _ _;refine st_callV (by rfl) (by rfl) (by rfl) (kadd_spec ha hb) (fun _ _ => trivial) (by rfl) ?_;exact Zq) ?_|refine Zqp (by intro _ _ _;refine st_callV (by rfl) (by rfl) (by rfl) (kadd_spec he hf) (fun _ _ => trivial) (by rfl) ?_;exact Zq) ?_|refine Zqp (by intro _ _ _;refine st_callV (by rfl) (by rfl) (by rfl) (fmul_spec' (kp a + kp b) (kp e + kp f)) (fun _ _ => trivial) (by rfl) ?_;exact Zq) ?_|refine Zqp (by intro _ _ _;(first|refine Z24 ?_|refine Z25 ?_|refine Z26 ?_|refine Z27 ?_|refine Z28 ?_|refine Z67 ?_);exact Zq) ?_|refine Zqe (by intro _ _ _;(first|refine Z29 ?_|refine Z30 ?_|refine Z31 ?_|refine Z32 ?_);exact Zqq) ?_|refine Zqn ?_)
  refine Zq0 ?_ (by kernel_rfl)
  repeat (first|refine Z03 ?_|refine Z04 ?_|refine Z05 ?_|refine Z06 ?_|refine Z07 ?_|refine Z08 ?_|refine Z09 ?_|refine Z10 ?_|refine Z11 ?_|refine Z12 ?_|refine Z13 ?_|refine Z14 ?_|refine Z24 ?_|refine Z25 ?_|refine Z26 ?_|refine Z27 ?_|refine Z28 ?_|refine Z29 ?_|refine Z30 ?_|refine Z31 ?_|refine Z32 ?_|refine Z67 ?_|refine Z82 fun _ => ?_)
  refine Zec fun _ hw => post_of hw SubW.nil ⟨?_, rfl⟩
  rfl
end Go.Proofs.Ytbpmbdlgmmabcaa.L
namespace Go.Proofs.Ytbpmbdlgmmabcaa.L
open Go Go.Proofs
set_option maxRecDepth 100000
attribute [local irreducible] Code.wp wpList Af bodyPost L.Go
open Num
attribute [local simp] D_len
set_option maxHeartbeats 4000000 in
theorem smul_spec {a b e f : Nat} (ha : a < W ^ 6) (hb : b < W ^ 6) (he : e < W ^ 6) (hf : f < W ^ 6) : Spec Try.prog 18 [LV .u64 (D 6 a ++ D 6 b), LV .u64 (D 6 e ++ D 6 f)] NoPre [] (IsV (LV .u64 (E2 (Kf.K2.mul (k2 a b) (k2 e f))))) := by
  refine mk_spec Try.func18 rfl rfl rfl fun w _ => ?_
  have hl0 := fun x => D_len 6 x
  have hmix : (kp a + kp b) * (kp e + kp f) - (kp a * kp e + kp b * kp f) = kp a * kp f + kp b * kp e := by grind
  repeat (first|(refine st_alloc (v := LV .u64 (List.replicate 12 0)) (by rfl) (by rfl) fun _ => ?_)|refine Z01 ?_|refine Z02 ?_|refine Z03 ?_|refine Z04 ?_|refine Z05 ?_|refine Z06 ?_|refine Z07 ?_|refine Z08 ?_|refine Z09 ?_|refine Z10 ?_|refine Z11 ?_|refine Z12 ?_|refine Z13 ?_|refine Z14 ?_|refine Z24 ?_|refine Z25 ?_|refine Z26 ?_|refine Z27 ?_|refine Z28 ?_|refine Z29 ?_|refine Z30 ?_|refine Z31 ?_|refine Z32 ?_|refine Z48 ?_|refine Z65 ?_|refine Z67 ?_|refine Z81 fun _ => ?_|refine Z82 fun _ => ?_)
  refine R.st_perm [0, 1, 2, 3, 4, 5, 6, 7, 8, 9, 10, 11, 12, 13] (by rfl) ?_
  repeat (first|refine R.Zpf (by rfl) (by intro _ _ _;(first|(refine st_fld (by rfl) (by first | exact (show _ = some (0, 6) from rfl) | exact (show _ = some (6, 6) from rfl) | exact (show _ = some (0, 12) from rfl) | exact (show _ = some (12, 12) from rfl) | exact (show _ = some (24, 1) from rfl)) (by rfl) (by rfl) ?_)|(refine st_build2 (by rfl) (by rfl) (by rfl) (by rfl) (by simp; done) (by simp; done) (by rfl) ?_)|refine Z01 ?_|refine Z02 ?_|refine Z48 ?_|refine Z65 ?_);exact Zq) ?_|refine R.Zpp (by rfl) (by intro _ _ _;(first|refine Z24 ?_|refine Z25 ?_|refine Z26 ?_|refine Z27 ?_|refine Z28 ?_|refine Z67 ?_);exact Zq) ?_|refine R.Zpp (by rfl) (by intro _ _ _;(refine st_ldp (by rfl) (by repeat first|apply Find.here|apply Find.there) (by rfl) (by rfl) (by first | (refine PartAt.l ?_; (simp; done)) | (refine PartAt.r ?_ ?_ <;> (simp; done)) | (refine PartAt.all ?_; (simp; done))) (by rfl) ?_);exact Zq) ?_|refine R.Zpp (by rfl) (by intro _ _ _;refine st_callV (by rfl) (by rfl) (by rfl) (kmul_spec ha he) (fun _ _ => trivial) (by rfl) ?_;exact Zq) ?_|refine R.Zpp (by rfl) (by intro _ _ _;refine st_callV (by rfl) (by rfl) (by rfl) (kmul_spec hb hf) (fun _ _ => trivial) (by rfl) ?_;exact Zq) ?_|refine R.Zps (by rfl) (by intro _ _ _;(first|refine Z29 ?_|refine Z30 ?_|refine Z31 ?_|refine Z32 ?_);exact Zqq) ?_|refine R.Zpbb (by rfl) (by rfl) (by intro _ _ _;refine st_alloc (v := LV .u64 (List.replicate 6 0)) (by rfl) (by rfl) fun _ => ?_;exact R.Zpbx) (by intro _ _ _;refine st_alloc (v := LV .u64 (List.replicate 6 0)) (by rfl) (by rfl) fun _ => ?_;exact R.Zpbx) (fun _ => ?_) (fun _ => ?_)|refine R.Zpb (by rfl) (by intro _ _ _;refine st_alloc (v := LV .u64 (List.replicate 6 0)) (by rfl) (by rfl) fun _ => ?_;exact R.Zpbx) fun _ => ?_|refine R.Zpn (by rfl) (by intro _ _ _;(first|refine Z81 fun _ => ?_|refine Z82 fun _ => ?_);exact R.Zpx) fun _ => ?_|refine R.Zpo (by rfl) ?_)
  all_goals
    repeat (first|refine R.Zpf (by rfl) (by intro _ _ _;(first|(refine st_fld (by rfl) (by first | exact (show _ = some (0, 6) from rfl) | exact (show _ = some (6, 6) from rfl) | exact (show _ = some (0, 12) from rfl) | exact (show _ = some (12, 12) from rfl) | exact (show _ = some (24, 1) from rfl)) (by rfl) (by rfl) ?_)|(refine st_build2 (by rfl) (by rfl) (by rfl) (by rfl) (by simp; done) (by simp; done) (by rfl) ?_)|refine Z01 ?_|refine Z02 ?_|refine Z48 ?_|refine Z65 ?_);exact Zq) ?_|refine R.Zpp (by rfl) (by intro _ _ _;(first|refine Z24 ?_|refine Z25 ?_|refine Z26 ?_|refine Z27 ?_|refine Z28 ?_|refine Z67 ?_);exact Zq) ?_|refine R.Zpp (by rfl) (by intro _ _ _;(refine st_ldp (by rfl) (by repeat first|apply Find.here|apply Find.there) (by rfl) (by rfl) (by first | (refine PartAt.l ?_; (simp; done)) | (refine PartAt.r ?_ ?_ <;> (simp; done)) | (refine PartAt.all ?_; (simp; done))) (by rfl) ?_);exact Zq) ?_|refine R.Zpp (by rfl) (by intro _ _ _;refine st_callV (by rfl) (by rfl) (by rfl) (kmul_spec ha he) (fun _ _ => trivial) (by rfl) ?_;exact Zq) ?_|refine R.Zpp (by rfl) (by intro _ _ _;refine st_callV (by rfl) (by rfl) (by rfl) (kmul_spec hb hf) (fun _ _ => trivial) (by rfl) ?_;exact Zq) ?_|refine R.Zps (by rfl) (by intro _ _ _;(first|refine Z29 ?_|refine Z30 ?_|refine Z31 ?_|refine Z32 ?_);exact Zqq) ?_|refine R.Zpbb (by rfl) (by rfl) (by intro _ _ _;refine st_alloc (v := LV .u64 (List.replicate 6 0)) (by rfl) (by rfl) fun _ => ?_;exact R.Zpbx) (by intro _ _ _;refine st_alloc (v := LV .u64 (List.replicate 6 0)) (by rfl) (by rfl) fun _ => ?_;exact R.Zpbx) (fun _ => ?_) (fun _ => ?_)|refine R.Zpb (by rfl) (by intro _ _ _;refine st_alloc (v := LV .u64 (List.replicate 6 0)) (by rfl) (by rfl) fun _ => ?_;exact R.Zpbx) fun _ => ?_|refine R.Zpn (by rfl) (by intro _ _ _;(first|refine Z81 fun _ => ?_|refine Z82 fun _ => ?_);exact R.Zpx) fun _ => ?_|refine R.Zpo (by rfl) ?_)
  all_goals refine R.Zp0 ?_
  all_goals
    repeat (first|refine Z01 ?_|refine Z02 ?_|refine Z03 ?_|refine Z04 ?_|refine Z05 ?_|refine Z06 ?_|refine Z07 ?_|refine Z08 ?_|refine Z09 ?_|refine Z10 ?_|refine Z11 ?_|refine Z12 ?_|refine Z13 ?_|refine Z14 ?_|refine Z24 ?_|refine Z25 ?_|refine Z26 ?_|refine Z27 ?_|refine Z28 ?_|refine Z29 ?_|refine Z30 ?_|refine Z31 ?_|refine Z32 ?_|refine Z48 ?_|refine Z65 ?_|refine Z67 ?_|refine Z81 fun _ => ?_|refine Z82 fun _ => ?_)
    refine st_draw1 (by rfl) ?_
    repeat (first|refine Zqf (by intro _ _ _;(first|(refine st_fld (by rfl) (by first | exact (show _ = some (0, 6) from rfl) | exact (show _ = some (6, 6) from rfl) | exact (show _ = some (0, 12) from rfl) | exact (show _ = some (12, 12) from rfl) | exact (show _ = some (24, 1) from rfl)) (by rfl) (by rfl) ?_)|(refine st_build2 (by rfl) (by rfl) (by rfl) (by rfl) (by simp; done) (by simp; done) (by rfl) ?_)|refine Z01 ?_|refine Z02 ?_|refine Z48 ?_|refine Z65 ?_);exact Zq) ?_|refine Zqp (by intro _ _ _;(refine st_ldp (by rfl) (by repeat first|apply Find.here|apply Find.there) (by rfl) (by rfl) (by first | (refine PartAt.l ?_; (simp; done)) | (refine PartAt.r ?_ ?_ <;> (simp; done)) | (refine PartAt.all ?_; (simp; done))) (by rfl) ?_);exact Zq) ?_|refine Zqp (by intro _ _ _;refine st_callV (by rfl) (by rfl) (by rfl) (fsub_spec' (kp a * kp e) (kp b * kp f)) (fun _ _ => trivial) (by rfl) ?_;exact Zq) ?_|refine Zqp (by intro _ _ _;refine st_callV (by rfl) (by rfl) (by rfl) (fadd_spec' (kp a * kp e) (kp b * kp f)) (fun _ _ => trivial) (by rfl) ?_;exact Zq) ?_|refine Zqp (by intro _ _ _;refine st_callV (by rfl) (by rfl) (by rfl) (smix_spec _ _ a b e f ha hb he hf) (fun w hw => ⟨HasB.own (by repeat first|apply Find.here|apply Find.there) w hw, HasB.own (by repeat first|apply Find.here|apply Find.there) w hw⟩) (by rfl) ?_;exact Zq) ?_|refine Zqp (by intro _ _ _;(refine st_callV (by rfl) (by rfl) (by rfl) (fsub_spec' ((kp a + kp b) * (kp e + kp f)) (kp a * kp e + kp b * kp f)) (fun _ _ => trivial) (by rfl) ?_; rw [hmix]);exact Zq) ?_|refine Zqp (by intro _ _ _;(first|refine Z24 ?_|refine Z25 ?_|refine Z26 ?_|refine Z27 ?_|refine Z28 ?_|refine Z67 ?_);exact Zq) ?_|refine Zqe (by intro _ _ _;(first|refine Z29 ?_|refine Z30 ?_|refine Z31 ?_|refine Z32 ?_);exact Zqq) ?_|refine Zqn ?_)
    refine Zq0 ?_ (by kernel_rfl)
    repeat (first|refine Z01 ?_|refine Z02 ?_|refine Z03 ?_|refine Z04 ?_|refine Z05 ?_|refine Z06 ?_|refine Z07 ?_|refine Z08 ?_|refine Z09 ?_|refine Z10 ?_|refine Z11 ?_|refine Z12 ?_|refine Z13 ?_|refine Z14 ?_|refine Z24 ?_|refine Z25 ?_|refine Z26 ?_|refine Z27 ?_|refine Z28 ?_|refine Z29 ?_|refine Z30 ?_|refine Z31 ?_|refine Z32 ?_|refine Z48 ?_|refine Z65 ?_|refine Z67 ?_|refine Z81 fun _ => ?_|refine Z82 fun _ => ?_)
    refine Zec fun _ hw => post_of hw SubW.nil ⟨?_, rfl⟩
    rfl
theorem smulE (x y : F2) : Spec Try.prog 18 [LV .u64 (E2 x), LV .u64 (E2 y)] NoPre [] (IsV (LV .u64 (E2 (Kf.K2.mul x y)))) := by
  have := smul_spec (val_lt x.re) (val_lt x.im) (val_lt y.re) (val_lt y.im); rwa [k2_val, k2_val] at this
theorem saddE (x y : F2) : Spec Try.prog 31 [LV .u64 (E2 x), LV .u64 (E2 y)] NoPre [] (IsV (LV .u64 (E2 (Kf.K2.add x y)))) := by
  have := sadd_spec (val_lt x.re) (val_lt x.im) (val_lt y.re) (val_lt y.im); rwa [k2_val, k2_val] at this
theorem ssubE (x y : F2) : Spec Try.prog 81 [LV .u64 (E2 x), LV .u64 (E2 y)] NoPre [] (IsV (LV .u64 (E2 (Kf.K2.sub x y)))) := by
  have := ssub_spec (val_lt x.re) (val_lt x.im) (val_lt y.re) (val_lt y.im); rwa [k2_val, k2_val] at this
theorem snegE (x : F2) : Spec Try.prog 22 [LV .u64 (E2 x)] NoPre [] (IsV (LV .u64 (E2 (Kf.K2.neg x)))) := by
  have := sneg_spec (val_lt x.re) (val_lt x.im); rwa [k2_val] at this
theorem sscaleE (x : F2) (k : Fq) : Spec Try.prog 104 [LV .u64 (E2 x), LV .u64 (D 6 k.val)] NoPre [] (IsV (LV .u64 (E2 (Kf.K2.scale x k)))) := by
  have := sscale_spec (val_lt x.re) (val_lt x.im) (val_lt k); rwa [k2_val, kp_val] at this
theorem E2_iff (x y : F2) : (decide (D 6 x.re.val = D 6 y.re.val) && decide (D 6 x.im.val = D 6 y.im.val)) = decide (x = y) := by
  rw [← Bool.decide_and]
  refine decide_eq_decide.2 ?_
  rw [D6_iff, D6_iff]
  exact ⟨fun h => Kf.K2.ext' h.1 h.2, fun h => h ▸ ⟨rfl, rfl⟩⟩
set_option maxHeartbeats 4000000 in
theorem sinv_spec {a b : Nat} (ha : a < W ^ 6) (hb : b < W ^ 6) : Spec Try.prog 67 [LV .u64 (D 6 a ++ D 6 b)] NoPre [] (IsV (LV .u64 (E2 (Kf.K2.inv (k2 a b))))) := by
  refine mk_spec Try.func67 rfl rfl rfl fun w _ => ?_
  have hl0 := fun x => D_len 6 x
  repeat (first|(refine st_alloc (v := LV .u64 (List.replicate 12 0)) (by rfl) (by rfl) fun _ => ?_)|refine Z03 ?_|refine Z04 ?_|refine Z05 ?_|refine Z06 ?_|refine Z07 ?_|refine Z08 ?_|refine Z09 ?_|refine Z10 ?_|refine Z11 ?_|refine Z12 ?_|refine Z13 ?_|refine Z14 ?_|refine Z24 ?_|refine Z25 ?_|refine Z26 ?_|refine Z27 ?_|refine Z28 ?_|refine Z29 ?_|refine Z30 ?_|refine Z31 ?_|refine Z32 ?_|refine Z67 ?_|refine Z81 fun _ => ?_|refine Z82 fun _ => ?_)
  refine R.st_perm [0, 1, 2, 3, 4, 5, 6, 7, 8, 9, 10, 11, 12] (by rfl) ?_
  repeat (first|refine R.Zpf (by rfl) (by intro _ _ _;(first|(refine st_fld (by rfl) (by first | exact (show _ = some (0, 6) from rfl) | exact (show _ = some (6, 6) from rfl) | exact (show _ = some (0, 12) from rfl) | exact (show _ = some (12, 12) from rfl) | exact (show _ = some (24, 1) from rfl)) (by rfl) (by rfl) ?_));exact Zq) ?_|refine R.Zpp (by rfl) (by intro _ _ _;(first|refine Z24 ?_|refine Z25 ?_|refine Z26 ?_|refine Z27 ?_|refine Z28 ?_|refine Z67 ?_);exact Zq) ?_|refine R.Zpp (by rfl) (by intro _ _ _;(refine st_ldp (by rfl) (by repeat first|apply Find.here|apply Find.there) (by rfl) (by rfl) (by first | (refine PartAt.l ?_; (simp; done)) | (refine PartAt.r ?_ ?_ <;> (simp; done)) | (refine PartAt.all ?_; (simp; done))) (by rfl) ?_);exact Zq) ?_|refine R.Zpp (by rfl) (by intro _ _ _;refine st_callV (by rfl) (by rfl) (by rfl) (kmul_spec ha ha) (fun _ _ => trivial) (by rfl) ?_;exact Zq) ?_|refine R.Zpp (by rfl) (by intro _ _ _;refine st_callV (by rfl) (by rfl) (by rfl) (kmul_spec hb hb) (fun _ _ => trivial) (by rfl) ?_;exact Zq) ?_|refine R.Zpp (by rfl) (by intro _ _ _;refine st_callV (by rfl) (by rfl) (by rfl) (fadd_spec' (kp a * kp a) (kp b * kp b)) (fun _ _ => trivial) (by rfl) ?_;exact Zq) ?_|refine R.Zps (by rfl) (by intro _ _ _;(first|refine Z29 ?_|refine Z30 ?_|refine Z31 ?_|refine Z32 ?_);exact Zqq) ?_|refine R.Zpb (by rfl) (by intro _ _ _;refine st_alloc (v := LV .u64 (List.replicate 6 0)) (by rfl) (by rfl) fun _ => ?_;exact R.Zpbx) fun _ => ?_|refine R.Zpn (by rfl) (by intro _ _ _;(first|refine Z81 fun _ => ?_|refine Z82 fun _ => ?_);exact R.Zpx) fun _ => ?_|refine R.Zpo (by rfl) ?_)
  refine R.Zp0 ?_
  repeat (first|refine Z03 ?_|refine Z04 ?_|refine Z05 ?_|refine Z06 ?_|refine Z07 ?_|refine Z08 ?_|refine Z09 ?_|refine Z10 ?_|refine Z11 ?_|refine Z12 ?_|refine Z13 ?_|refine Z14 ?_|refine Z24 ?_|refine Z25 ?_|refine Z26 ?_|refine Z27 ?_|refine Z28 ?_|refine Z29 ?_|refine Z30 ?_|refine Z31 ?_|refine Z32 ?_|refine Z67 ?_|refine Z81 fun _ => ?_|refine Z82 fun _ => ?_)
  refine st_draw1 (by rfl) ?_
  repeat (first|refine Zqf (by intro _ _ _;(first|(refine st_fld (by rfl) (by first | exact (show _ = some (0, 6) from rfl) | exact (show _ = some (6, 6) from rfl) | exact (show _ = some (0, 12) from rfl) | exact (show _ = some (12, 12) from rfl) | exact (show _ = some (24, 1) from rfl)) (by rfl) (by rfl) ?_));exact Zq) ?_|refine Zqp (by intro _ _ _;(refine st_ldp (by rfl) (by repeat first|apply Find.here|apply Find.there) (by rfl) (by rfl) (by first | (refine PartAt.l ?_; (simp; done)) | (refine PartAt.r ?_ ?_ <;> (simp; done)) | (refine PartAt.all ?_; (simp; done))) (by rfl) ?_);exact Zq) ?_|refine Zqp (by intro _ _ _;refine st_callV (by rfl) (by rfl) (by rfl) (sconj_spec ha hb) (fun _ _ => trivial) (by rfl) ?_;exact Zq) ?_|refine Zqp (by intro _ _ _;refine st_callV (by rfl) (by rfl) (by rfl) (finv_spec' (kp a * kp a + kp b * kp b)) (fun _ _ => trivial) (by rfl) ?_;exact Zq) ?_|refine Zqp (by intro _ _ _;refine st_callV (by rfl) (by rfl) (by rfl) (sscaleE (Kf.K2.conj (k2 a b)) (Kf.inv (kp a * kp a + kp b * kp b))) (fun _ _ => trivial) (by rfl) ?_;exact Zq) ?_|refine Zqp (by intro _ _ _;(first|refine Z24 ?_|refine Z25 ?_|refine Z26 ?_|refine Z27 ?_|refine Z28 ?_|refine Z67 ?_);exact Zq) ?_|refine Zqe (by intro _ _ _;(first|refine Z29 ?_|refine Z30 ?_|refine Z31 ?_|refine Z32 ?_);exact Zqq) ?_|refine Zqn ?_)
  refine Zq0 ?_ (by kernel_rfl)
  repeat (first|refine Z03 ?_|refine Z04 ?_|refine Z05 ?_|refine Z06 ?_|refine Z07 ?_|refine Z08 ?_|refine Z09 ?_|refine Z10 ?_|refine Z11 ?_|refine Z12 ?_|refine Z13 ?_|refine Z14 ?_|refine Z24 ?_|refine Z25 ?_|refine Z26 ?_|refine Z27 ?_|refine Z28 ?_|refine Z29 ?_|refine Z30 ?_|refine Z31 ?_|refine Z32 ?_|refine Z67 ?_|refine Z81 fun _ => ?_|refine Z82 fun _ => ?_)
  refine Zec fun _ hw => post_of hw SubW.nil ⟨?_, rfl⟩
  rfl
theorem sinvE (x : F2) : Spec Try.prog 67 [LV .u64 (E2 x)] NoPre [] (IsV (LV .u64 (E2 (Kf.K2.inv x)))) := by
  have := sinv_spec (val_lt x.re) (val_lt x.im); rwa [k2_val] at this
end Go.Proofs.Ytbpmbdlgmmabcaa.L
namespace Go.Proofs.Ytbpmbdlgmmabcaa.L
open Go Go.Proofs
set_option maxRecDepth 100000
attribute [local irreducible] Code.wp wpList Af bodyPost L.Go
open Num
theorem len64_spec (x : Nat) (hx : x < 18446744073709551616) : Spec Try.prog 150 [N .u64 x] NoPre [] (IsV (N .i64 (bl x))) := by
  refine mk_spec Try.func150 rfl rfl rfl fun w _ => ?_
  repeat (first|refine Z01 ?_|refine Z02 ?_|refine Z03 ?_|refine Z04 ?_|refine Z05 ?_|refine Z06 ?_|refine Z07 ?_|refine Z08 ?_|refine Z09 ?_|refine Z10 ?_|refine Z11 ?_|refine Z12 ?_|refine Z13 ?_|refine Z14 ?_|refine Z15 ?_|refine Z17 ?_|refine Z18 ?_|refine Z42 ?_|refine Z44 ?_|refine Z45 ?_|refine Z57 ?_|refine Z70 ?_|refine Z74 ?_|refine Z80 ?_)
  refine st_cond (by rfl) (fun h32 => ?_) (fun h32 => ?_)
  · have e32 := bl_shift x 32 h32
    have l32 : x >>> 32 < 4294967296 := by rw [Nat.shiftRight_eq_div_pow]; omega
    repeat (first|refine Z01 ?_|refine Z02 ?_|refine Z03 ?_|refine Z04 ?_|refine Z05 ?_|refine Z06 ?_|refine Z07 ?_|refine Z08 ?_|refine Z09 ?_|refine Z10 ?_|refine Z11 ?_|refine Z12 ?_|refine Z13 ?_|refine Z14 ?_|refine Z15 ?_|refine Z17 ?_|refine Z18 ?_|refine Z42 ?_|refine Z44 ?_|refine Z45 ?_|refine Z57 ?_|refine Z70 ?_|refine Z74 ?_|refine Z80 ?_)
    refine st_cond (by rfl) (fun h16 => ?_) (fun h16 => ?_)
    · have e16 := bl_shift (x >>> 32) 16 h16
      have l16 : x >>> 32 >>> 16 < 65536 := by rw [Nat.shiftRight_eq_div_pow (x >>> 32)]; omega
      repeat (first|refine Z01 ?_|refine Z02 ?_|refine Z03 ?_|refine Z04 ?_|refine Z05 ?_|refine Z06 ?_|refine Z07 ?_|refine Z08 ?_|refine Z09 ?_|refine Z10 ?_|refine Z11 ?_|refine Z12 ?_|refine Z13 ?_|refine Z14 ?_|refine Z15 ?_|refine Z17 ?_|refine Z18 ?_|refine Z42 ?_|refine Z44 ?_|refine Z45 ?_|refine Z57 ?_|refine Z70 ?_|refine Z74 ?_|refine Z80 ?_)
      refine st_cond (by rfl) (fun h8 => ?_) (fun h8 => ?_)
      · have e8 := bl_shift (x >>> 32 >>> 16) 8 (by omega)
        have l8 : (x >>> 32 >>> 16) >>> 8 < 256 := by rw [Nat.shiftRight_eq_div_pow]; omega
        have hx8 : (x >>> 32 >>> 16) >>> 8 % 256 = (x >>> 32 >>> 16) >>> 8 := Nat.mod_eq_of_lt (by omega)
        have hbl := bl_le ((x >>> 32 >>> 16) >>> 8) 8 (by omega)
        repeat (first|(rw [hx8])|(refine st_index_tab bl (by rfl) (by rfl) (by rfl) (by omega) (by kernel_rfl) (by kernel_rfl) (by rfl) ?_)|refine Z01 ?_|refine Z02 ?_|refine Z03 ?_|refine Z04 ?_|refine Z05 ?_|refine Z06 ?_|refine Z07 ?_|refine Z08 ?_|refine Z09 ?_|refine Z10 ?_|refine Z11 ?_|refine Z12 ?_|refine Z13 ?_|refine Z14 ?_|refine Z15 ?_|refine Z17 ?_|refine Z18 ?_|refine Z42 ?_|refine Z44 ?_|refine Z45 ?_|refine Z57 ?_|refine Z70 ?_|refine Z74 ?_|refine Z80 ?_)
        refine Ze1 fun _ hw => post_of hw SubW.nil ⟨?_, rfl⟩
        exact congrArg (N .i64) (by omega)
      · have hx8 : x >>> 32 >>> 16 % 256 = x >>> 32 >>> 16 := Nat.mod_eq_of_lt (by omega)
        have hbl := bl_le (x >>> 32 >>> 16) 8 (by omega)
        repeat (first|(rw [hx8])|(refine st_index_tab bl (by rfl) (by rfl) (by rfl) (by omega) (by kernel_rfl) (by kernel_rfl) (by rfl) ?_)|refine Z01 ?_|refine Z02 ?_|refine Z03 ?_|refine Z04 ?_|refine Z05 ?_|refine Z06 ?_|refine Z07 ?_|refine Z08 ?_|refine Z09 ?_|refine Z10 ?_|refine Z11 ?_|refine Z12 ?_|refine Z13 ?_|refine Z14 ?_|refine Z15 ?_|refine Z17 ?_|refine Z18 ?_|refine Z42 ?_|refine Z44 ?_|refine Z45 ?_|refine Z57 ?_|refine Z70 ?_|refine Z74 ?_|refine Z80 ?_)
        refine Ze1 fun _ hw => post_of hw SubW.nil ⟨?_, rfl⟩
        exact congrArg (N .i64) (by omega)
    · repeat (first|refine Z01 ?_|refine Z02 ?_|refine Z03 ?_|refine Z04 ?_|refine Z05 ?_|refine Z06 ?_|refine Z07 ?_|refine Z08 ?_|refine Z09 ?_|refine Z10 ?_|refine Z11 ?_|refine Z12 ?_|refine Z13 ?_|refine Z14 ?_|refine Z15 ?_|refine Z17 ?_|refine Z18 ?_|refine Z42 ?_|refine Z44 ?_|refine Z45 ?_|refine Z57 ?_|refine Z70 ?_|refine Z74 ?_|refine Z80 ?_)
      refine st_cond (by rfl) (fun h8 => ?_) (fun h8 => ?_)
      · have e8 := bl_shift (x >>> 32) 8 (by omega)
        have l8 : (x >>> 32) >>> 8 < 256 := by rw [Nat.shiftRight_eq_div_pow]; omega
        have hx8 : (x >>> 32) >>> 8 % 256 = (x >>> 32) >>> 8 := Nat.mod_eq_of_lt (by omega)
        have hbl := bl_le ((x >>> 32) >>> 8) 8 (by omega)
        repeat (first|(rw [hx8])|(refine st_index_tab bl (by rfl) (by rfl) (by rfl) (by omega) (by kernel_rfl) (by kernel_rfl) (by rfl) ?_)|refine Z01 ?_|refine Z02 ?_|refine Z03 ?_|refine Z04 ?_|refine Z05 ?_|refine Z06 ?_|refine Z07 ?_|refine Z08 ?_|refine Z09 ?_|refine Z10 ?_|refine Z11 ?_|refine Z12 ?_|refine Z13 ?_|refine Z14 ?_|refine Z15 ?_|refine Z17 ?_|refine Z18 ?_|refine Z42 ?_|refine Z44 ?_|refine Z45 ?_|refine Z57 ?_|refine Z70 ?_|refine Z74 ?_|refine Z80 ?_)
        refine Ze1 fun _ hw => post_of hw SubW.nil ⟨?_, rfl⟩
        exact congrArg (N .i64) (by omega)
      · have hx8 : x >>> 32 % 256 = x >>> 32 := Nat.mod_eq_of_lt (by omega)
        have hbl := bl_le (x >>> 32) 8 (by omega)
        repeat (first|(rw [hx8])|(refine st_index_tab bl (by rfl) (by rfl) (by rfl) (by omega) (by kernel_rfl) (by kernel_rfl) (by rfl) ?_)|refine Z01 ?_|refine Z02 ?_|refine Z03 ?_|refine Z04 ?_|refine Z05 ?_|refine Z06 ?_|refine Z07 ?_|refine Z08 ?_|refine Z09 ?_|refine Z10 ?_|refine Z11 ?_|refine Z12 ?_|refine Z13 ?_|refine Z14 ?_|refine Z15 ?_|refine Z17 ?_|refine Z18 ?_|refine Z42 ?_|refine Z44 ?_|refine Z45 ?_|refine Z57 ?_|refine Z70 ?_|refine Z74 ?_|refine Z80 ?_)
        refine Ze1 fun _ hw => post_of hw SubW.nil ⟨?_, rfl⟩
        exact congrArg (N .i64) (by omega)
  · repeat (first|refine Z01 ?_|refine Z02 ?_|refine Z03 ?_|refine Z04 ?_|refine Z05 ?_|refine Z06 ?_|refine Z07 ?_|refine Z08 ?_|refine Z09 ?_|refine Z10 ?_|refine Z11 ?_|refine Z12 ?_|refine Z13 ?_|refine Z14 ?_|refine Z15 ?_|refine Z17 ?_|refine Z18 ?_|refine Z42 ?_|refine Z44 ?_|refine Z45 ?_|refine Z57 ?_|refine Z70 ?_|refine Z74 ?_|refine Z80 ?_)
    refine st_cond (by rfl) (fun h16 => ?_) (fun h16 => ?_)
    · have e16 := bl_shift x 16 h16
      have l16 : x >>> 16 < 65536 := by rw [Nat.shiftRight_eq_div_pow]; omega
      repeat (first|refine Z01 ?_|refine Z02 ?_|refine Z03 ?_|refine Z04 ?_|refine Z05 ?_|refine Z06 ?_|refine Z07 ?_|refine Z08 ?_|refine Z09 ?_|refine Z10 ?_|refine Z11 ?_|refine Z12 ?_|refine Z13 ?_|refine Z14 ?_|refine Z15 ?_|refine Z17 ?_|refine Z18 ?_|refine Z42 ?_|refine Z44 ?_|refine Z45 ?_|refine Z57 ?_|refine Z70 ?_|refine Z74 ?_|refine Z80 ?_)
      refine st_cond (by rfl) (fun h8 => ?_) (fun h8 => ?_)
      · have e8 := bl_shift (x >>> 16) 8 (by omega)
        have l8 : (x >>> 16) >>> 8 < 256 := by rw [Nat.shiftRight_eq_div_pow]; omega
        have hx8 : (x >>> 16) >>> 8 % 256 = (x >>> 16) >>> 8 := Nat.mod_eq_of_lt (by omega)
        have hbl := bl_le ((x >>> 16) >>> 8) 8 (by omega)
        repeat (first|(rw [hx8])|(refine st_index_tab bl (by rfl) (by rfl) (by rfl) (by omega) (by kernel_rfl) (by kernel_rfl) (by rfl) ?_)|refine Z01 ?_|refine Z02 ?_|refine Z03 ?_|refine Z04 ?_|refine Z05 ?_|refine Z06 ?_|refine Z07 ?_|refine Z08 ?_|refine Z09 ?_|refine Z10 ?_|refine Z11 ?_|refine Z12 ?_|refine Z13 ?_|refine Z14 ?_|refine Z15 ?_|refine Z17 ?_|refine Z18 ?_|refine Z42 ?_|refine Z44 ?_|refine Z45 ?_|refine Z57 ?_|refine Z70 ?_|refine Z74 ?_|refine Z80 ?_)
        refine Ze1 fun _ hw => post_of hw SubW.nil ⟨?_, rfl⟩
        exact congrArg (N .i64) (by omega)
      · have hx8 : x >>> 16 % 256 = x >>> 16 := Nat.mod_eq_of_lt (by omega)
        have hbl := bl_le (x >>> 16) 8 (by omega)
        repeat (first|(rw [hx8])|(refine st_index_tab bl (by rfl) (by rfl) (by rfl) (by omega) (by kernel_rfl) (by kernel_rfl) (by rfl) ?_)|refine Z01 ?_|refine Z02 ?_|refine Z03 ?_|refine Z04 ?_|refine Z05 ?_|refine Z06 ?_|refine Z07 ?_|refine Z08 ?_|refine Z09 ?_|refine Z10 ?_|refine Z11 ?_|refine Z12 ?_|refine Z13 ?_|refine Z14 ?_|refine Z15 ?_|refine Z17 ?_|refine Z18 ?_|refine Z42 ?_|refine Z44 ?_|refine Z45 ?_|refine Z57 ?_|refine Z70 ?_|refine Z74 ?_|refine Z80 ?_)
        refine Ze1 fun _ hw => post_of hw SubW.nil ⟨?_, rfl⟩
        exact congrArg (N .i64) (by omega)
    · repeat (first|refine Z01 ?_|refine Z02 ?_|refine Z03 ?_|refine Z04 ?_|refine Z05 ?_|refine Z06 ?_|refine Z07 ?_|refine Z08 ?_|refine Z09 ?_|refine Z10 ?_|refine Z11 ?_|refine Z12 ?_|refine Z13 ?_|refine Z14 ?_|refine Z15 ?_|refine Z17 ?_|refine Z18 ?_|refine Z42 ?_|refine Z44 ?_|refine Z45 ?_|refine Z57 ?_|refine Z70 ?_|refine Z74 ?_|refine Z80 ?_)
      refine st_cond (by rfl) (fun h8 => ?_) (fun h8 => ?_)
      · have e8 := bl_shift (x) 8 (by omega)
        have l8 : (x) >>> 8 < 256 := by rw [Nat.shiftRight_eq_div_pow]; omega
        have hx8 : (x) >>> 8 % 256 = (x) >>> 8 := Nat.mod_eq_of_lt (by omega)
        have hbl := bl_le ((x) >>> 8) 8 (by omega)
        repeat (first|(rw [hx8])|(refine st_index_tab bl (by rfl) (by rfl) (by rfl) (by omega) (by kernel_rfl) (by kernel_rfl) (by rfl) ?_)|refine Z01 ?_|refine Z02 ?_|refine Z03 ?_|refine Z04 ?_|refine Z05 ?_|refine Z06 ?_|refine Z07 ?_|refine Z08 ?_|refine Z09 ?_|refine Z10 ?_|refine Z11 ?_|refine Z12 ?_|refine Z13 ?_|refine Z14 ?_|refine Z15 ?_|refine Z17 ?_|refine Z18 ?_|refine Z42 ?_|refine Z44 ?_|refine Z45 ?_|refine Z57 ?_|refine Z70 ?_|refine Z74 ?_|refine Z80 ?_)
        refine Ze1 fun _ hw => post_of hw SubW.nil ⟨?_, rfl⟩
        exact congrArg (N .i64) (by omega)
      · have hx8 : x % 256 = x := Nat.mod_eq_of_lt (by omega)
        have hbl := bl_le (x) 8 (by omega)
        repeat (first|(rw [hx8])|(refine st_index_tab bl (by rfl) (by rfl) (by rfl) (by omega) (by kernel_rfl) (by kernel_rfl) (by rfl) ?_)|refine Z01 ?_|refine Z02 ?_|refine Z03 ?_|refine Z04 ?_|refine Z05 ?_|refine Z06 ?_|refine Z07 ?_|refine Z08 ?_|refine Z09 ?_|refine Z10 ?_|refine Z11 ?_|refine Z12 ?_|refine Z13 ?_|refine Z14 ?_|refine Z15 ?_|refine Z17 ?_|refine Z18 ?_|refine Z42 ?_|refine Z44 ?_|refine Z45 ?_|refine Z57 ?_|refine Z70 ?_|refine Z74 ?_|refine Z80 ?_)
        refine Ze1 fun _ hw => post_of hw SubW.nil ⟨?_, rfl⟩
        exact congrArg (N .i64) (by omega)
theorem lz64_spec (x : Nat) (hx : x < 18446744073709551616) : Spec Try.prog 146 [N .u64 x] NoPre [] (IsV (N .i64 (64 - bl x))) := by
  refine mk_spec Try.func146 rfl rfl rfl fun w _ => ?_
  have hb := bl_le x 64 hx
  repeat (first|(refine st_callV (by rfl) (by rfl) (by rfl) (len64_spec x hx) (fun _ _ => trivial) (by rfl) ?_)|refine Z01 ?_|refine Z02 ?_|refine Z03 ?_|refine Z04 ?_|refine Z05 ?_|refine Z06 ?_|refine Z07 ?_|refine Z08 ?_|refine Z09 ?_|refine Z10 ?_|refine Z11 ?_|refine Z12 ?_|refine Z13 ?_|refine Z14 ?_|refine Z16 ?_|refine Z71 ?_)
  refine Ze1 fun _ hw => post_of hw SubW.nil ⟨?_, rfl⟩
  rfl
end Go.Proofs.Ytbpmbdlgmmabcaa.L
namespace Go.Proofs.Ytbpmbdlgmmabcaa.L
open Go Go.Proofs
set_option maxRecDepth 100000
attribute [local irreducible] Code.wp wpList Af bodyPost L.Go
open Num
set_option maxHeartbeats 4000000 in
theorem div64_spec (hi lo y : Nat) (hy : hi < y) (hlo : lo < 18446744073709551616) (hyW : y < 18446744073709551616) :
    Spec Try.prog 140 [N .u64 hi, N .u64 lo, N .u64 y] NoPre [] (IsV (.tuple [N .u64 ((hi * 18446744073709551616 + lo) / y), N .u64 ((hi * 18446744073709551616 + lo) % y)].toArray)) := by
  refine mk_spec Try.func140 rfl rfl rfl fun w _ => ?_
  repeat (first|(refine st_cmp (r := false) (by rfl) (by rfl) (cmpN_f (by first | (simp only [cmpQ]; done) | (simp only [cmpQ]; omega))) (by rfl) ?_)|refine Z01 ?_|refine Z02 ?_|refine Z03 ?_|refine Z04 ?_|refine Z05 ?_|refine Z06 ?_|refine Z07 ?_|refine Z08 ?_|refine Z09 ?_|refine Z10 ?_|refine Z11 ?_|refine Z12 ?_|refine Z13 ?_|refine Z14 ?_|refine Z17 ?_|refine Z18 ?_|refine Z24 ?_|refine Z25 ?_|refine Z26 ?_|refine Z27 ?_|refine Z28 ?_|refine Z33 ?_|refine Z34 ?_|refine Z35 ?_|refine Z37 ?_|refine Z38 ?_|refine Z40 ?_|refine Z41 ?_|refine Z42 ?_|refine Z43 ?_|refine Z44 ?_|refine Z45 ?_|refine Z49 ?_|refine Z50 ?_|refine Z51 ?_|refine Z52 ?_|refine Z53 ?_|refine Z67 ?_|refine Z74 ?_|refine Z80 ?_)
  refine st_cond (by rfl) (fun h0 => ?_) (fun h0 => ?_)
  · subst h0
    repeat (first|refine Z01 ?_|refine Z02 ?_|refine Z03 ?_|refine Z04 ?_|refine Z05 ?_|refine Z06 ?_|refine Z07 ?_|refine Z08 ?_|refine Z09 ?_|refine Z10 ?_|refine Z11 ?_|refine Z12 ?_|refine Z13 ?_|refine Z14 ?_|refine Z17 ?_|refine Z18 ?_|refine Z24 ?_|refine Z25 ?_|refine Z26 ?_|refine Z27 ?_|refine Z28 ?_|refine Z33 ?_|refine Z34 ?_|refine Z35 ?_|refine Z37 ?_|refine Z38 ?_|refine Z40 ?_|refine Z41 ?_|refine Z42 ?_|refine Z43 ?_|refine Z44 ?_|refine Z45 ?_|refine Z49 ?_|refine Z50 ?_|refine Z51 ?_|refine Z52 ?_|refine Z53 ?_|refine Z67 ?_|refine Z74 ?_|refine Z80 ?_)
    refine st_draw1 (by rfl) ?_
    repeat (first|refine Zqf (by intro _ _ _;(first|(refine st_udiv (by rfl) (by rfl) (by rfl) (by omega) (by omega) (by rfl) ?_)|(refine st_umod (by rfl) (by rfl) (by omega) (by rfl) ?_)|refine Z01 ?_|refine Z02 ?_|refine Z17 ?_|refine Z18 ?_|refine Z33 ?_|refine Z34 ?_|refine Z35 ?_|refine Z37 ?_|refine Z38 ?_|refine Z40 ?_|refine Z41 ?_|refine Z42 ?_|refine Z43 ?_|refine Z44 ?_|refine Z45 ?_|refine Z49 ?_|refine Z50 ?_|refine Z74 ?_|refine Z80 ?_);exact Zq) ?_|refine Zqp (by intro _ _ _;(first|refine Z24 ?_|refine Z25 ?_|refine Z26 ?_|refine Z27 ?_|refine Z28 ?_|refine Z67 ?_);exact Zq) ?_|refine Zqn ?_)
    refine Zq0 ?_ (by kernel_rfl)
    repeat (first|refine Z01 ?_|refine Z02 ?_|refine Z03 ?_|refine Z04 ?_|refine Z05 ?_|refine Z06 ?_|refine Z07 ?_|refine Z08 ?_|refine Z09 ?_|refine Z10 ?_|refine Z11 ?_|refine Z12 ?_|refine Z13 ?_|refine Z14 ?_|refine Z17 ?_|refine Z18 ?_|refine Z24 ?_|refine Z25 ?_|refine Z26 ?_|refine Z27 ?_|refine Z28 ?_|refine Z33 ?_|refine Z34 ?_|refine Z35 ?_|refine Z37 ?_|refine Z38 ?_|refine Z40 ?_|refine Z41 ?_|refine Z42 ?_|refine Z43 ?_|refine Z44 ?_|refine Z45 ?_|refine Z49 ?_|refine Z50 ?_|refine Z51 ?_|refine Z52 ?_|refine Z53 ?_|refine Z67 ?_|refine Z74 ?_|refine Z80 ?_)
    refine Ze2 fun _ hw => post_of hw SubW.nil ⟨?_, rfl⟩
    rw [Nat.zero_mul, Nat.zero_add]
  obtain ⟨hb1, hb2, hb3⟩ := bl_spec y (by omega)
  have hb4 := bl_le y 64 hyW
  obtain ⟨s, hs⟩ : ∃ s, s = 64 - bl y := ⟨_, rfl⟩
  have hsl : s ≤ 63 := by omega
  obtain ⟨Y, hYs⟩ : ∃ Y, Y = y * 2 ^ s := ⟨_, rfl⟩
  have hYW : Y < 18446744073709551616 := by
    have := Nat.mul_lt_mul_of_pos_right hb1 (Nat.two_pow_pos s)
    rw [← Nat.pow_add, show bl y + s = 64 by omega] at this
    rw [hYs]; exact this
  have hYb : 9223372036854775808 ≤ Y := by
    have := Nat.mul_le_mul_right (2 ^ s) hb2
    rw [← Nat.pow_add, show bl y - 1 + s = 63 by omega] at this
    rw [hYs]; exact this
  have hYp : 0 < Y := by omega
  obtain ⟨v1, hv1⟩ : ∃ v1, v1 = Y / 4294967296 := ⟨_, rfl⟩
  obtain ⟨v0, hv0⟩ : ∃ v0, v0 = Y % 4294967296 := ⟨_, rfl⟩
  have hYv : Y = v1 * 4294967296 + v0 := by omega
  have hv1p : 0 < v1 := by omega
  have hv1l : v1 < 4294967296 := by omega
  have hv0l : v0 < 4294967296 := by omega
  obtain ⟨u, hu⟩ : ∃ u, u = hi * 2 ^ s + lo / 2 ^ (64 - s) := ⟨_, rfl⟩
  obtain ⟨u10, hu10'⟩ : ∃ u10, u10 = lo * 2 ^ s % 18446744073709551616 := ⟨_, rfl⟩
  obtain ⟨hN, huY⟩ := norm_div (s := s) hy hlo (by omega)
  rw [← hu, ← hu10'] at hN
  rw [← hu, ← hYs] at huY
  obtain ⟨u1, hu1'⟩ : ∃ u1, u1 = u10 / 4294967296 := ⟨_, rfl⟩
  obtain ⟨u0, hu0'⟩ : ∃ u0, u0 = u10 % 4294967296 := ⟨_, rfl⟩
  have hu10l : u10 < 18446744073709551616 := by rw [hu10']; exact Nat.mod_lt _ (by decide)
  have hu1 : u1 < 4294967296 := by omega
  have hu0 : u0 < 4294967296 := by omega
  have hu10 : u1 * 4294967296 + u0 = u10 := by rw [hu1', hu0', Nat.mul_comm]; exact Nat.div_add_mod _ _
  have e1 : (64 - bl y) % 18446744073709551616 = s := by omega
  have e2 : y <<< s % 18446744073709551616 = Y := by rw [Nat.shiftLeft_eq, ← hYs, Nat.mod_eq_of_lt hYW]
  have e3 : Y >>> 32 = v1 := by rw [shr32, hv1]
  have e4 : Y % 18446744073709551616 &&& 4294967295 % 18446744073709551616 = v0 := by rw [and32, hv0]
  have hlq : lo / 2 ^ (64 - s) < 2 ^ s := by
    rw [Nat.div_lt_iff_lt_mul (Nat.two_pow_pos _), ← Nat.pow_add, show s + (64 - s) = 64 by omega]; exact hlo
  have hhs : hi * 2 ^ s < 18446744073709551616 := Nat.lt_of_le_of_lt (by rw [hu]; exact Nat.le_add_right _ _) (Nat.lt_trans huY hYW)
  have e5 : (64 + (18446744073709551616 - s % 18446744073709551616)) % 18446744073709551616 = 64 - s := by omega
  have e6 : hi <<< s % 18446744073709551616 % 18446744073709551616 ||| lo >>> (64 - s) % 18446744073709551616 = u := by
    rw [Nat.shiftLeft_eq, Nat.shiftRight_eq_div_pow, Nat.mod_mod, Nat.mod_eq_of_lt hhs, Nat.mod_eq_of_lt (a := lo / 2 ^ (64 - s)) (Nat.lt_of_le_of_lt (Nat.div_le_self _ _) hlo), or_plus hlq, hu]
  have e7 : lo <<< s % 18446744073709551616 = u10 := by rw [Nat.shiftLeft_eq, hu10']
  have e8 : u10 >>> 32 = u1 := by rw [shr32, hu1']
  have e9 : u10 % 18446744073709551616 &&& 4294967295 % 18446744073709551616 = u0 := by rw [and32, hu0']
  have hwr := wrap_sub1 (a := u) (c := u / v1 * v1) (d := u % v1) (div_rem_eq _ _) (Nat.lt_trans (Nat.mod_lt _ hv1p) (by omega))
  obtain ⟨q1, hq1⟩ : ∃ q1, q1 = (u * 4294967296 + u1) / Y := ⟨_, rfl⟩
  repeat (first|(refine st_callV (by rfl) (by rfl) (by rfl) (lz64_spec y hyW) (fun _ _ => trivial) (by rfl) ?_)|(refine st_shr (by rfl) (by rfl) (show 64 - s ≤ 64 by omega) (by rfl) ?_)|(rw [e1])|(rw [e2])|(rw [e3])|(rw [e4])|(rw [e5])|(rw [e6])|(rw [e7])|(rw [e8])|(rw [e9])|(refine st_udiv (by rfl) (by rfl) (by rfl) hv1p (by omega) (by rfl) ?_)|(rw [hwr])|(refine st_block_join (ι := Unit) (fun _ => True) (fun _ => [(2, N .u64 Y), (8, N .u64 s), (9, N .u64 v1), (10, N .u64 v0), (11, N .u64 u), (13, N .u64 u1), (14, N .u64 u0), (15, N .u64 q1)]) (fun _ => []) ?_ ?_)|refine Z01 ?_|refine Z02 ?_|refine Z03 ?_|refine Z04 ?_|refine Z05 ?_|refine Z06 ?_|refine Z07 ?_|refine Z08 ?_|refine Z09 ?_|refine Z10 ?_|refine Z11 ?_|refine Z12 ?_|refine Z13 ?_|refine Z14 ?_|refine Z17 ?_|refine Z18 ?_|refine Z24 ?_|refine Z25 ?_|refine Z26 ?_|refine Z27 ?_|refine Z28 ?_|refine Z33 ?_|refine Z34 ?_|refine Z35 ?_|refine Z37 ?_|refine Z38 ?_|refine Z40 ?_|refine Z41 ?_|refine Z42 ?_|refine Z43 ?_|refine Z44 ?_|refine Z45 ?_|refine Z49 ?_|refine Z50 ?_|refine Z51 ?_|refine Z52 ?_|refine Z53 ?_|refine Z67 ?_|refine Z74 ?_|refine Z80 ?_)
  · clear e1 e2 e3 e4 e5 e6 e7 e8 e9 hwr hN hu10' hu1' hu0' hlq hhs hu hs hb1 hb2 hb3 hb4 hYs hu10 hu10l
    refine st_loop (ι := Nat × Nat) (fun p => p.1 * v1 + p.2 = u ∧ p.2 < 4294967296 ∧ (u * 4294967296 + u1) / Y ≤ p.1)
      (fun p => [(2, N .u64 Y), (8, N .u64 s), (9, N .u64 v1), (10, N .u64 v0), (11, N .u64 u), (13, N .u64 u1), (14, N .u64 u0), (15, N .u64 p.1), (16, N .u64 p.2)]) (fun p => []) (fun p => p.1) (u / v1, u % v1)
      ⟨(div_rem_eq _ _).symm, by simp only; have := Nat.mod_lt u hv1p; omega, by simp only; rw [hYv]; exact qhat_ge hv1p hu1⟩ (by repeat (first | apply subL.nil | refine subL.cons (by rfl) ?_)) (by repeat (first | apply SubW.nil | refine SubW.cons (by repeat first|apply Find.here|apply Find.there) ?_)) ?_
    rintro ⟨q, r⟩ ⟨hqr, hr, hqq⟩
    simp only at hqr hr hqq ⊢
    have hqle : q ≤ u := Nat.le_trans (Nat.le_mul_of_pos_right q hv1p) (by omega)
    by_cases hbig : 4294967296 ≤ q
    · have hlt := qhat_step (v0 := v0) (u1 := u1) (by rw [← hYv]; exact huY) hqr hu1 (.inl hbig)
      rw [← hYv] at hlt
      have hqpos : 0 < q := Nat.lt_of_le_of_lt (Nat.zero_le _) hlt
      have hdq := wrap_dec (q := q) hqpos (by omega)
      have hrr : (r + v1) % 18446744073709551616 = r + v1 := Nat.mod_eq_of_lt (by omega)
      have hqr' : (q - 1) * v1 + (r + v1) = u := by
        obtain ⟨k, rfl⟩ : ∃ k, q = k + 1 := ⟨q - 1, by omega⟩
        rw [Nat.add_mul, Nat.one_mul] at hqr
        simp only [Nat.add_sub_cancel]; omega
      repeat (first|(refine st_cmp (r := true) (by rfl) (by rfl) (cmpN_t (by first | (simp only [cmpP]; done) | (simp only [cmpP]; omega))) (by rfl) ?_)|(refine st_cmp (r := false) (by rfl) (by rfl) (cmpN_f (by first | (simp only [cmpQ]; done) | (simp only [cmpQ]; omega))) (by rfl) ?_)|(rw [hdq])|(rw [hrr])|(rw [hp2])|(rw [hp3])|refine Z01 ?_|refine Z02 ?_|refine Z03 ?_|refine Z04 ?_|refine Z05 ?_|refine Z06 ?_|refine Z07 ?_|refine Z08 ?_|refine Z09 ?_|refine Z10 ?_|refine Z11 ?_|refine Z12 ?_|refine Z13 ?_|refine Z14 ?_|refine Z17 ?_|refine Z18 ?_|refine Z24 ?_|refine Z25 ?_|refine Z26 ?_|refine Z27 ?_|refine Z28 ?_|refine Z33 ?_|refine Z34 ?_|refine Z35 ?_|refine Z37 ?_|refine Z38 ?_|refine Z40 ?_|refine Z41 ?_|refine Z42 ?_|refine Z43 ?_|refine Z44 ?_|refine Z45 ?_|refine Z49 ?_|refine Z50 ?_|refine Z51 ?_|refine Z52 ?_|refine Z53 ?_|refine Z67 ?_|refine Z74 ?_|refine Z80 ?_)
      refine st_cond (by rfl) (fun hbr => ?_) (fun hbr => ?_)
      · have hend : q - 1 = q1 := by rw [hq1, hYv]; rw [hYv] at hlt; exact qhat_stop (by omega) hqr' (qhat_break (by omega) (by rw [← hYv]; exact huY) hqr' hbr) (by omega)
        repeat (first|refine Z01 ?_|refine Z02 ?_|refine Z03 ?_|refine Z04 ?_|refine Z05 ?_|refine Z06 ?_|refine Z07 ?_|refine Z08 ?_|refine Z09 ?_|refine Z10 ?_|refine Z11 ?_|refine Z12 ?_|refine Z13 ?_|refine Z14 ?_|refine Z17 ?_|refine Z18 ?_|refine Z24 ?_|refine Z25 ?_|refine Z26 ?_|refine Z27 ?_|refine Z28 ?_|refine Z33 ?_|refine Z34 ?_|refine Z35 ?_|refine Z37 ?_|refine Z38 ?_|refine Z40 ?_|refine Z41 ?_|refine Z42 ?_|refine Z43 ?_|refine Z44 ?_|refine Z45 ?_|refine Z49 ?_|refine Z50 ?_|refine Z51 ?_|refine Z52 ?_|refine Z53 ?_|refine Z67 ?_|refine Z74 ?_|refine Z80 ?_)
        rw [hend]
        exact st_met () trivial (by repeat (first | apply subL.nil | refine subL.cons (by rfl) ?_)) (by repeat (first | apply SubW.nil | refine SubW.cons (by repeat first|apply Find.here|apply Find.there) ?_))
      · repeat (first|refine Z01 ?_|refine Z02 ?_|refine Z03 ?_|refine Z04 ?_|refine Z05 ?_|refine Z06 ?_|refine Z07 ?_|refine Z08 ?_|refine Z09 ?_|refine Z10 ?_|refine Z11 ?_|refine Z12 ?_|refine Z13 ?_|refine Z14 ?_|refine Z17 ?_|refine Z18 ?_|refine Z24 ?_|refine Z25 ?_|refine Z26 ?_|refine Z27 ?_|refine Z28 ?_|refine Z33 ?_|refine Z34 ?_|refine Z35 ?_|refine Z37 ?_|refine Z38 ?_|refine Z40 ?_|refine Z41 ?_|refine Z42 ?_|refine Z43 ?_|refine Z44 ?_|refine Z45 ?_|refine Z49 ?_|refine Z50 ?_|refine Z51 ?_|refine Z52 ?_|refine Z53 ?_|refine Z67 ?_|refine Z74 ?_|refine Z80 ?_)
        exact st_round (q - 1, r + v1) ⟨hqr', by simp only; omega, by simp only; omega⟩ (by simp only; omega) (by repeat (first | apply subL.nil | refine subL.cons (by rfl) ?_)) (by repeat (first | apply SubW.nil | refine SubW.cons (by repeat first|apply Find.here|apply Find.there) ?_))
    · have hp1 : q * v0 < 18446744073709551616 := Nat.lt_of_le_of_lt (Nat.mul_le_mul (show q ≤ 4294967295 by omega) (show v0 ≤ 4294967295 by omega)) (by decide)
      have hp2 : q * v0 % 18446744073709551616 = q * v0 := Nat.mod_eq_of_lt hp1
      have hp3 : (4294967296 * r % 18446744073709551616 + u1) % 18446744073709551616 = r * 4294967296 + u1 := by omega
      by_cases hc : r * 4294967296 + u1 < q * v0
      · have hlt := qhat_step (v0 := v0) (u1 := u1) (by rw [← hYv]; exact huY) hqr hu1 (.inr hc)
        rw [← hYv] at hlt
        have hqpos : 0 < q := Nat.lt_of_le_of_lt (Nat.zero_le _) hlt
        have hdq := wrap_dec (q := q) hqpos (by omega)
        have hrr : (r + v1) % 18446744073709551616 = r + v1 := Nat.mod_eq_of_lt (by omega)
        have hqr' : (q - 1) * v1 + (r + v1) = u := by
          obtain ⟨k, rfl⟩ : ∃ k, q = k + 1 := ⟨q - 1, by omega⟩
          rw [Nat.add_mul, Nat.one_mul] at hqr
          simp only [Nat.add_sub_cancel]; omega
        repeat (first|(refine st_cmp (r := true) (by rfl) (by rfl) (cmpN_t (by first | (simp only [cmpP]; done) | (simp only [cmpP]; omega))) (by rfl) ?_)|(refine st_cmp (r := false) (by rfl) (by rfl) (cmpN_f (by first | (simp only [cmpQ]; done) | (simp only [cmpQ]; omega))) (by rfl) ?_)|(rw [hdq])|(rw [hrr])|(rw [hp2])|(rw [hp3])|refine Z01 ?_|refine Z02 ?_|refine Z03 ?_|refine Z04 ?_|refine Z05 ?_|refine Z06 ?_|refine Z07 ?_|refine Z08 ?_|refine Z09 ?_|refine Z10 ?_|refine Z11 ?_|refine Z12 ?_|refine Z13 ?_|refine Z14 ?_|refine Z17 ?_|refine Z18 ?_|refine Z24 ?_|refine Z25 ?_|refine Z26 ?_|refine Z27 ?_|refine Z28 ?_|refine Z33 ?_|refine Z34 ?_|refine Z35 ?_|refine Z37 ?_|refine Z38 ?_|refine Z40 ?_|refine Z41 ?_|refine Z42 ?_|refine Z43 ?_|refine Z44 ?_|refine Z45 ?_|refine Z49 ?_|refine Z50 ?_|refine Z51 ?_|refine Z52 ?_|refine Z53 ?_|refine Z67 ?_|refine Z74 ?_|refine Z80 ?_)
        refine st_cond (by rfl) (fun hbr => ?_) (fun hbr => ?_)
        · have hend : q - 1 = q1 := by rw [hq1, hYv]; rw [hYv] at hlt; exact qhat_stop (by omega) hqr' (qhat_break (by omega) (by rw [← hYv]; exact huY) hqr' hbr) (by omega)
          repeat (first|refine Z01 ?_|refine Z02 ?_|refine Z03 ?_|refine Z04 ?_|refine Z05 ?_|refine Z06 ?_|refine Z07 ?_|refine Z08 ?_|refine Z09 ?_|refine Z10 ?_|refine Z11 ?_|refine Z12 ?_|refine Z13 ?_|refine Z14 ?_|refine Z17 ?_|refine Z18 ?_|refine Z24 ?_|refine Z25 ?_|refine Z26 ?_|refine Z27 ?_|refine Z28 ?_|refine Z33 ?_|refine Z34 ?_|refine Z35 ?_|refine Z37 ?_|refine Z38 ?_|refine Z40 ?_|refine Z41 ?_|refine Z42 ?_|refine Z43 ?_|refine Z44 ?_|refine Z45 ?_|refine Z49 ?_|refine Z50 ?_|refine Z51 ?_|refine Z52 ?_|refine Z53 ?_|refine Z67 ?_|refine Z74 ?_|refine Z80 ?_)
          rw [hend]
          exact st_met () trivial (by repeat (first | apply subL.nil | refine subL.cons (by rfl) ?_)) (by repeat (first | apply SubW.nil | refine SubW.cons (by repeat first|apply Find.here|apply Find.there) ?_))
        · repeat (first|refine Z01 ?_|refine Z02 ?_|refine Z03 ?_|refine Z04 ?_|refine Z05 ?_|refine Z06 ?_|refine Z07 ?_|refine Z08 ?_|refine Z09 ?_|refine Z10 ?_|refine Z11 ?_|refine Z12 ?_|refine Z13 ?_|refine Z14 ?_|refine Z17 ?_|refine Z18 ?_|refine Z24 ?_|refine Z25 ?_|refine Z26 ?_|refine Z27 ?_|refine Z28 ?_|refine Z33 ?_|refine Z34 ?_|refine Z35 ?_|refine Z37 ?_|refine Z38 ?_|refine Z40 ?_|refine Z41 ?_|refine Z42 ?_|refine Z43 ?_|refine Z44 ?_|refine Z45 ?_|refine Z49 ?_|refine Z50 ?_|refine Z51 ?_|refine Z52 ?_|refine Z53 ?_|refine Z67 ?_|refine Z74 ?_|refine Z80 ?_)
          exact st_round (q - 1, r + v1) ⟨hqr', by simp only; omega, by simp only; omega⟩ (by simp only; omega) (by repeat (first | apply subL.nil | refine subL.cons (by rfl) ?_)) (by repeat (first | apply SubW.nil | refine SubW.cons (by repeat first|apply Find.here|apply Find.there) ?_))
      · have hend : q = q1 := by rw [hq1, hYv]; rw [hYv] at hqq; exact qhat_stop (by omega) hqr (by omega) hqq
        repeat (first|(refine st_cmp (r := false) (by rfl) (by rfl) (cmpN_f (by first | (simp only [cmpQ]; done) | (simp only [cmpQ]; omega))) (by rfl) ?_)|(rw [hp2])|(rw [hp3])|refine Z01 ?_|refine Z02 ?_|refine Z03 ?_|refine Z04 ?_|refine Z05 ?_|refine Z06 ?_|refine Z07 ?_|refine Z08 ?_|refine Z09 ?_|refine Z10 ?_|refine Z11 ?_|refine Z12 ?_|refine Z13 ?_|refine Z14 ?_|refine Z17 ?_|refine Z18 ?_|refine Z24 ?_|refine Z25 ?_|refine Z26 ?_|refine Z27 ?_|refine Z28 ?_|refine Z33 ?_|refine Z34 ?_|refine Z35 ?_|refine Z37 ?_|refine Z38 ?_|refine Z40 ?_|refine Z41 ?_|refine Z42 ?_|refine Z43 ?_|refine Z44 ?_|refine Z45 ?_|refine Z49 ?_|refine Z50 ?_|refine Z51 ?_|refine Z52 ?_|refine Z53 ?_|refine Z67 ?_|refine Z74 ?_|refine Z80 ?_)
        rw [hend]
        exact st_met () trivial (by repeat (first | apply subL.nil | refine subL.cons (by rfl) ?_)) (by repeat (first | apply SubW.nil | refine SubW.cons (by repeat first|apply Find.here|apply Find.there) ?_))
  intro _ _
  clear e1 e2 e3 e4 e5 e6 e7 e8 e9 hwr
  have hq1l : q1 < 4294967296 := by rw [hq1]; exact qhat_lt huY hu1
  obtain ⟨un21, hun21⟩ : ∃ z, z = (u * 4294967296 + u1) % Y := ⟨_, rfl⟩
  have h21Y : un21 < Y := by rw [hun21]; exact Nat.mod_lt _ hYp
  have hw21 := wrap_sub (a := u * 4294967296) (b := u1) (c := q1 * Y) (d := un21) (by rw [hq1, hun21]; exact div_rem_eq _ _) (by omega)
  have hd1 : un21 / v1 < 18446744073709551616 := Nat.lt_of_le_of_lt (Nat.div_le_self _ _) (by omega)
  have hwr := wrap_sub1 (a := un21) (c := un21 / v1 * v1) (d := un21 % v1) (div_rem_eq _ _) (Nat.lt_trans (Nat.mod_lt _ hv1p) (by omega))
  obtain ⟨q0, hq0⟩ : ∃ q0, q0 = (un21 * 4294967296 + u0) / Y := ⟨_, rfl⟩
  repeat (first|(rw [hw21])|(refine st_udiv (by rfl) (by rfl) (by rfl) hv1p (by omega) (by rfl) ?_)|(rw [hwr])|(refine st_block_join (ι := Unit) (fun _ => True) (fun _ => [(2, N .u64 Y), (8, N .u64 s), (14, N .u64 u0), (15, N .u64 q1), (17, N .u64 un21), (18, N .u64 q0)]) (fun _ => []) ?_ ?_)|refine Z01 ?_|refine Z02 ?_|refine Z03 ?_|refine Z04 ?_|refine Z05 ?_|refine Z06 ?_|refine Z07 ?_|refine Z08 ?_|refine Z09 ?_|refine Z10 ?_|refine Z11 ?_|refine Z12 ?_|refine Z13 ?_|refine Z14 ?_|refine Z17 ?_|refine Z18 ?_|refine Z24 ?_|refine Z25 ?_|refine Z26 ?_|refine Z27 ?_|refine Z28 ?_|refine Z33 ?_|refine Z34 ?_|refine Z35 ?_|refine Z37 ?_|refine Z38 ?_|refine Z40 ?_|refine Z41 ?_|refine Z42 ?_|refine Z43 ?_|refine Z44 ?_|refine Z45 ?_|refine Z49 ?_|refine Z50 ?_|refine Z51 ?_|refine Z52 ?_|refine Z53 ?_|refine Z67 ?_|refine Z74 ?_|refine Z80 ?_)
  · clear hwr hN hu10' hu1' hu0' hlq hhs hu hs hb1 hb2 hb3 hb4 hYs hu10 hu10l hq1 hun21 hw21 huY
    refine st_loop (ι := Nat × Nat) (fun p => p.1 * v1 + p.2 = un21 ∧ p.2 < 4294967296 ∧ (un21 * 4294967296 + u0) / Y ≤ p.1)
      (fun p => [(2, N .u64 Y), (8, N .u64 s), (9, N .u64 v1), (10, N .u64 v0), (14, N .u64 u0), (15, N .u64 q1), (16, N .u64 p.2), (17, N .u64 un21), (18, N .u64 p.1)]) (fun p => []) (fun p => p.1) (un21 / v1, un21 % v1)
      ⟨(div_rem_eq _ _).symm, by simp only; have := Nat.mod_lt un21 hv1p; omega, by simp only; rw [hYv]; exact qhat_ge hv1p hu0⟩ (by repeat (first | apply subL.nil | refine subL.cons (by rfl) ?_)) (by repeat (first | apply SubW.nil | refine SubW.cons (by repeat first|apply Find.here|apply Find.there) ?_)) ?_
    rintro ⟨q, r⟩ ⟨hqr, hr, hqq⟩
    simp only at hqr hr hqq ⊢
    have hqle : q ≤ un21 := Nat.le_trans (Nat.le_mul_of_pos_right q hv1p) (by omega)
    by_cases hbig : 4294967296 ≤ q
    · have hlt := qhat_step (v0 := v0) (u1 := u0) (by rw [← hYv]; exact h21Y) hqr hu0 (.inl hbig)
      rw [← hYv] at hlt
      have hqpos : 0 < q := Nat.lt_of_le_of_lt (Nat.zero_le _) hlt
      have hdq := wrap_dec (q := q) hqpos (by omega)
      have hrr : (r + v1) % 18446744073709551616 = r + v1 := Nat.mod_eq_of_lt (by omega)
      have hqr' : (q - 1) * v1 + (r + v1) = un21 := by
        obtain ⟨k, rfl⟩ : ∃ k, q = k + 1 := ⟨q - 1, by omega⟩
        rw [Nat.add_mul, Nat.one_mul] at hqr
        simp only [Nat.add_sub_cancel]; omega
      repeat (first|(refine st_cmp (r := true) (by rfl) (by rfl) (cmpN_t (by first | (simp only [cmpP]; done) | (simp only [cmpP]; omega))) (by rfl) ?_)|(refine st_cmp (r := false) (by rfl) (by rfl) (cmpN_f (by first | (simp only [cmpQ]; done) | (simp only [cmpQ]; omega))) (by rfl) ?_)|(rw [hdq])|(rw [hrr])|(rw [hp2])|(rw [hp3])|refine Z01 ?_|refine Z02 ?_|refine Z03 ?_|refine Z04 ?_|refine Z05 ?_|refine Z06 ?_|refine Z07 ?_|refine Z08 ?_|refine Z09 ?_|refine Z10 ?_|refine Z11 ?_|refine Z12 ?_|refine Z13 ?_|refine Z14 ?_|refine Z17 ?_|refine Z18 ?_|refine Z24 ?_|refine Z25 ?_|refine Z26 ?_|refine Z27 ?_|refine Z28 ?_|refine Z33 ?_|refine Z34 ?_|refine Z35 ?_|refine Z37 ?_|refine Z38 ?_|refine Z40 ?_|refine Z41 ?_|refine Z42 ?_|refine Z43 ?_|refine Z44 ?_|refine Z45 ?_|refine Z49 ?_|refine Z50 ?_|refine Z51 ?_|refine Z52 ?_|refine Z53 ?_|refine Z67 ?_|refine Z74 ?_|refine Z80 ?_)
      refine st_cond (by rfl) (fun hbr => ?_) (fun hbr => ?_)
      · have hend : q - 1 = q0 := by rw [hq0, hYv]; rw [hYv] at hlt; exact qhat_stop (by omega) hqr' (qhat_break (by omega) (by rw [← hYv]; exact h21Y) hqr' hbr) (by omega)
        repeat (first|refine Z01 ?_|refine Z02 ?_|refine Z03 ?_|refine Z04 ?_|refine Z05 ?_|refine Z06 ?_|refine Z07 ?_|refine Z08 ?_|refine Z09 ?_|refine Z10 ?_|refine Z11 ?_|refine Z12 ?_|refine Z13 ?_|refine Z14 ?_|refine Z17 ?_|refine Z18 ?_|refine Z24 ?_|refine Z25 ?_|refine Z26 ?_|refine Z27 ?_|refine Z28 ?_|refine Z33 ?_|refine Z34 ?_|refine Z35 ?_|refine Z37 ?_|refine Z38 ?_|refine Z40 ?_|refine Z41 ?_|refine Z42 ?_|refine Z43 ?_|refine Z44 ?_|refine Z45 ?_|refine Z49 ?_|refine Z50 ?_|refine Z51 ?_|refine Z52 ?_|refine Z53 ?_|refine Z67 ?_|refine Z74 ?_|refine Z80 ?_)
        rw [hend]
        exact st_met () trivial (by repeat (first | apply subL.nil | refine subL.cons (by rfl) ?_)) (by repeat (first | apply SubW.nil | refine SubW.cons (by repeat first|apply Find.here|apply Find.there) ?_))
      · repeat (first|refine Z01 ?_|refine Z02 ?_|refine Z03 ?_|refine Z04 ?_|refine Z05 ?_|refine Z06 ?_|refine Z07 ?_|refine Z08 ?_|refine Z09 ?_|refine Z10 ?_|refine Z11 ?_|refine Z12 ?_|refine Z13 ?_|refine Z14 ?_|refine Z17 ?_|refine Z18 ?_|refine Z24 ?_|refine Z25 ?_|refine Z26 ?_|refine Z27 ?_|refine Z28 ?_|refine Z33 ?_|refine Z34 ?_|refine Z35 ?_|refine Z37 ?_|refine Z38 ?_|refine Z40 ?_|refine Z41 ?_|refine Z42 ?_|refine Z43 ?_|refine Z44 ?_|refine Z45 ?_|refine Z49 ?_|refine Z50 ?_|refine Z51 ?_|refine Z52 ?_|refine Z53 ?_|refine Z67 ?_|refine Z74 ?_|refine Z80 ?_)
        exact st_round (q - 1, r + v1) ⟨hqr', by simp only; omega, by simp only; omega⟩ (by simp only; omega) (by repeat (first | apply subL.nil | refine subL.cons (by rfl) ?_)) (by repeat (first | apply SubW.nil | refine SubW.cons (by repeat first|apply Find.here|apply Find.there) ?_))
    · have hp1 : q * v0 < 18446744073709551616 := Nat.lt_of_le_of_lt (Nat.mul_le_mul (show q ≤ 4294967295 by omega) (show v0 ≤ 4294967295 by omega)) (by decide)
      have hp2 : q * v0 % 18446744073709551616 = q * v0 := Nat.mod_eq_of_lt hp1
      have hp3 : (4294967296 * r % 18446744073709551616 + u0) % 18446744073709551616 = r * 4294967296 + u0 := by omega
      by_cases hc : r * 4294967296 + u0 < q * v0
      · have hlt := qhat_step (v0 := v0) (u1 := u0) (by rw [← hYv]; exact h21Y) hqr hu0 (.inr hc)
        rw [← hYv] at hlt
        have hqpos : 0 < q := Nat.lt_of_le_of_lt (Nat.zero_le _) hlt
        have hdq := wrap_dec (q := q) hqpos (by omega)
        have hrr : (r + v1) % 18446744073709551616 = r + v1 := Nat.mod_eq_of_lt (by omega)
        have hqr' : (q - 1) * v1 + (r + v1) = un21 := by
          obtain ⟨k, rfl⟩ : ∃ k, q = k + 1 := ⟨q - 1, by omega⟩
          rw [Nat.add_mul, Nat.one_mul] at hqr
          simp only [Nat.add_sub_cancel]; omega
        repeat (first|(refine st_cmp (r := true) (by rfl) (by rfl) (cmpN_t (by first | (simp only [cmpP]; done) | (simp only [cmpP]; omega))) (by rfl) ?_)|(refine st_cmp (r := false) (by rfl) (by rfl) (cmpN_f (by first | (simp only [cmpQ]; done) | (simp only [cmpQ]; omega))) (by rfl) ?_)|(rw [hdq])|(rw [hrr])|(rw [hp2])|(rw [hp3])|refine Z01 ?_|refine Z02 ?_|refine Z03 ?_|refine Z04 ?_|refine Z05 ?_|refine Z06 ?_|refine Z07 ?_|refine Z08 ?_|refine Z09 ?_|refine Z10 ?_|refine Z11 ?_|refine Z12 ?_|refine Z13 ?_|refine Z14 ?_|refine Z17 ?_|refine Z18 ?_|refine Z24 ?_|refine Z25 ?_|refine Z26 ?_|refine Z27 ?_|refine Z28 ?_|refine Z33 ?_|refine Z34 ?_|refine Z35 ?_|refine Z37 ?_|refine Z38 ?_|refine Z40 ?_|refine Z41 ?_|refine Z42 ?_|refine Z43 ?_|refine Z44 ?_|refine Z45 ?_|refine Z49 ?_|refine Z50 ?_|refine Z51 ?_|refine Z52 ?_|refine Z53 ?_|refine Z67 ?_|refine Z74 ?_|refine Z80 ?_)
        refine st_cond (by rfl) (fun hbr => ?_) (fun hbr => ?_)
        · have hend : q - 1 = q0 := by rw [hq0, hYv]; rw [hYv] at hlt; exact qhat_stop (by omega) hqr' (qhat_break (by omega) (by rw [← hYv]; exact h21Y) hqr' hbr) (by omega)
          repeat (first|refine Z01 ?_|refine Z02 ?_|refine Z03 ?_|refine Z04 ?_|refine Z05 ?_|refine Z06 ?_|refine Z07 ?_|refine Z08 ?_|refine Z09 ?_|refine Z10 ?_|refine Z11 ?_|refine Z12 ?_|refine Z13 ?_|refine Z14 ?_|refine Z17 ?_|refine Z18 ?_|refine Z24 ?_|refine Z25 ?_|refine Z26 ?_|refine Z27 ?_|refine Z28 ?_|refine Z33 ?_|refine Z34 ?_|refine Z35 ?_|refine Z37 ?_|refine Z38 ?_|refine Z40 ?_|refine Z41 ?_|refine Z42 ?_|refine Z43 ?_|refine Z44 ?_|refine Z45 ?_|refine Z49 ?_|refine Z50 ?_|refine Z51 ?_|refine Z52 ?_|refine Z53 ?_|refine Z67 ?_|refine Z74 ?_|refine Z80 ?_)
          rw [hend]
          exact st_met () trivial (by repeat (first | apply subL.nil | refine subL.cons (by rfl) ?_)) (by repeat (first | apply SubW.nil | refine SubW.cons (by repeat first|apply Find.here|apply Find.there) ?_))
        · repeat (first|refine Z01 ?_|refine Z02 ?_|refine Z03 ?_|refine Z04 ?_|refine Z05 ?_|refine Z06 ?_|refine Z07 ?_|refine Z08 ?_|refine Z09 ?_|refine Z10 ?_|refine Z11 ?_|refine Z12 ?_|refine Z13 ?_|refine Z14 ?_|refine Z17 ?_|refine Z18 ?_|refine Z24 ?_|refine Z25 ?_|refine Z26 ?_|refine Z27 ?_|refine Z28 ?_|refine Z33 ?_|refine Z34 ?_|refine Z35 ?_|refine Z37 ?_|refine Z38 ?_|refine Z40 ?_|refine Z41 ?_|refine Z42 ?_|refine Z43 ?_|refine Z44 ?_|refine Z45 ?_|refine Z49 ?_|refine Z50 ?_|refine Z51 ?_|refine Z52 ?_|refine Z53 ?_|refine Z67 ?_|refine Z74 ?_|refine Z80 ?_)
          exact st_round (q - 1, r + v1) ⟨hqr', by simp only; omega, by simp only; omega⟩ (by simp only; omega) (by repeat (first | apply subL.nil | refine subL.cons (by rfl) ?_)) (by repeat (first | apply SubW.nil | refine SubW.cons (by repeat first|apply Find.here|apply Find.there) ?_))
      · have hend : q = q0 := by rw [hq0, hYv]; rw [hYv] at hqq; exact qhat_stop (by omega) hqr (by omega) hqq
        repeat (first|(refine st_cmp (r := false) (by rfl) (by rfl) (cmpN_f (by first | (simp only [cmpQ]; done) | (simp only [cmpQ]; omega))) (by rfl) ?_)|(rw [hp2])|(rw [hp3])|refine Z01 ?_|refine Z02 ?_|refine Z03 ?_|refine Z04 ?_|refine Z05 ?_|refine Z06 ?_|refine Z07 ?_|refine Z08 ?_|refine Z09 ?_|refine Z10 ?_|refine Z11 ?_|refine Z12 ?_|refine Z13 ?_|refine Z14 ?_|refine Z17 ?_|refine Z18 ?_|refine Z24 ?_|refine Z25 ?_|refine Z26 ?_|refine Z27 ?_|refine Z28 ?_|refine Z33 ?_|refine Z34 ?_|refine Z35 ?_|refine Z37 ?_|refine Z38 ?_|refine Z40 ?_|refine Z41 ?_|refine Z42 ?_|refine Z43 ?_|refine Z44 ?_|refine Z45 ?_|refine Z49 ?_|refine Z50 ?_|refine Z51 ?_|refine Z52 ?_|refine Z53 ?_|refine Z67 ?_|refine Z74 ?_|refine Z80 ?_)
        rw [hend]
        exact st_met () trivial (by repeat (first | apply subL.nil | refine subL.cons (by rfl) ?_)) (by repeat (first | apply SubW.nil | refine SubW.cons (by repeat first|apply Find.here|apply Find.there) ?_))
  intro _ _
  have hr2 := wrap_sub (a := un21 * 4294967296) (b := u0) (c := q0 * Y) (d := (un21 * 4294967296 + u0) % Y) (by rw [hq0]; exact div_rem_eq _ _) (Nat.lt_trans (Nat.mod_lt _ hYp) hYW)
  have hQ0 : q0 < 4294967296 := by rw [hq0]; exact qhat_lt h21Y hu0
  have hqq : q1 * 4294967296 % 18446744073709551616 = q1 * 4294967296 := Nat.mod_eq_of_lt (by omega)
  have hqs : (q1 * 4294967296 + q0) % 18446744073709551616 = q1 * 4294967296 + q0 := Nat.mod_eq_of_lt (by omega)
  repeat (first|(rw [hr2])|(rw [hqq])|(rw [hqs])|(refine st_shr (by rfl) (by rfl) (show s ≤ 64 by omega) (by rfl) ?_)|refine Z01 ?_|refine Z02 ?_|refine Z03 ?_|refine Z04 ?_|refine Z05 ?_|refine Z06 ?_|refine Z07 ?_|refine Z08 ?_|refine Z09 ?_|refine Z10 ?_|refine Z11 ?_|refine Z12 ?_|refine Z13 ?_|refine Z14 ?_|refine Z17 ?_|refine Z18 ?_|refine Z24 ?_|refine Z25 ?_|refine Z26 ?_|refine Z27 ?_|refine Z28 ?_|refine Z33 ?_|refine Z34 ?_|refine Z35 ?_|refine Z37 ?_|refine Z38 ?_|refine Z40 ?_|refine Z41 ?_|refine Z42 ?_|refine Z43 ?_|refine Z44 ?_|refine Z45 ?_|refine Z49 ?_|refine Z50 ?_|refine Z51 ?_|refine Z52 ?_|refine Z53 ?_|refine Z67 ?_|refine Z74 ?_|refine Z80 ?_)
  refine Ze2 fun _ hw => post_of hw SubW.nil ⟨?_, rfl⟩
  obtain ⟨g1, g2⟩ := div_two (u := u) (u1 := u1) (u0 := u0) hYp
  rw [← hq1, ← hun21] at g1
  rw [← hun21] at g2
  rw [← hq0] at g1
  rw [hu10, hN, hYs, Nat.mul_div_mul_right _ _ (Nat.two_pow_pos s)] at g1
  rw [hu10, hN, hYs, Nat.mul_mod_mul_right] at g2
  rw [g1, hYs, g2, Nat.shiftRight_eq_div_pow, Nat.mul_div_cancel _ (Nat.two_pow_pos s)]
end Go.Proofs.Ytbpmbdlgmmabcaa.L
namespace Go.Proofs.Ytbpmbdlgmmabcaa.L.Kf.K2
open Pr
variable {n : Nat} [NeZero n]
theorem tryP_0 {a : K2 n} {m : Fin n} {s : Fin n × Bool} {o : K2 n} (hs : s = fsq ((a.re + m) * hv n)) (h : s.1 = 0) (ho : o = ⟨s.1, (fsq (-a.re)).1⟩) :
    tryP a m = (evn2 o, (fsq (-a.re)).2 && decide (mul (evn2 o) (evn2 o) = a)) := by
  subst hs
  subst ho
  rw [h, tryP, if_pos h]
theorem tryP_1 {a : K2 n} {m : Fin n} {s : Fin n × Bool} {o : K2 n} (hs : s = fsq ((a.re + m) * hv n)) (h : ¬ s.1 = 0) (ho : o = ⟨s.1, a.im * hv n * Kf.inv s.1⟩) :
    tryP a m = (evn2 o, s.2 && decide (mul (evn2 o) (evn2 o) = a)) := by
  subst hs
  subst ho
  rw [tryP, if_neg h]
theorem evn2_1 {a : K2 n} {g : Nat} (hg : g = sgn a) (h : g = 1) : evn2 a = neg a := if_pos (hg.symm.trans h)
theorem evn2_0 {a : K2 n} {g : Nat} (hg : g = sgn a) (h : ¬ g = 1) : evn2 a = a := if_neg fun e => h (hg.trans e)
theorem sqrtP_0 {a : K2 n} {s : Fin n × Bool} (hs : s = fsq (norm a)) (h : s.2 = false) : sqrtP a = (zero, false) := by
  subst hs
  rw [sqrtP, if_neg (by rw [h]; decide)]
theorem sqrtP_1 {a : K2 n} {s : Fin n × Bool} {t : K2 n × Bool} (hs : s = fsq (norm a)) (h : s.2 = true) (ht : t = tryP a s.1) (h1 : t.2 = true) : sqrtP a = (t.1, true) := by
  subst hs
  subst ht
  rw [sqrtP, if_pos h, if_pos h1]
theorem sqrtP_2 {a : K2 n} {s : Fin n × Bool} {t v : K2 n × Bool} (hs : s = fsq (norm a)) (h : s.2 = true) (ht : t = tryP a s.1) (h1 : t.2 = false) (hv : v = tryP a (-s.1)) (h2 : v.2 = true) : sqrtP a = (v.1, true) := by
  subst hs
  subst ht
  subst hv
  rw [sqrtP, if_pos h, if_neg (by rw [h1]; decide), if_pos h2]
theorem sqrtP_3 {a : K2 n} {s : Fin n × Bool} {t v : K2 n × Bool} (hs : s = fsq (norm a)) (h : s.2 = true) (ht : t = tryP a s.1) (h1 : t.2 = false) (hv : v = tryP a (-s.1)) (h2 : v.2 = false) : sqrtP a = (zero, false) := by
  subst hs
  subst ht
  subst hv
  rw [sqrtP, if_pos h, if_neg (by rw [h1]; decide), if_neg (by rw [h2]; decide)]
theorem isq2_def (a : K2 n) : isq2 a = (sqrtP a).2 := rfl
end Go.Proofs.Ytbpmbdlgmmabcaa.L.Kf.K2
namespace Go.Proofs.Ytbpmbdlgmmabcaa.L
open Go Go.Proofs
set_option maxRecDepth 100000
attribute [local irreducible] Code.wp wpList Af bodyPost L.Go
open Num
attribute [local simp] D_len
abbrev hv : Fq := Kf.K2.hv p
theorem half_lit : ([15924587544893707606, 1105070755758604287, 12941209323636816658, 12843041017062132063, 2706051889235351147, 936899308823769933] : List Nat) = D 6 ((p + 1) / 2 % p) := by decide +kernel
theorem half2_spec : Spec Try.prog 57 [] NoPre [] (IsV (LV .u64 (D 6 hv.val))) := by
  refine mk_spec Try.func57 rfl rfl rfl fun w _ => ?_
  repeat (first|(refine st_alloc (v := LV .u64 (List.replicate 6 0)) (by rfl) (by rfl) fun _ => ?_)|(refine st_buildP (kk := .u64) (vs := [15924587544893707606, 1105070755758604287, 12941209323636816658, 12843041017062132063, 2706051889235351147, 936899308823769933]) (by rfl) (by rfl) (by rfl) (by rfl) (by rfl) (by rfl) (by rfl) (by rfl) ?_)|refine Z03 ?_|refine Z04 ?_|refine Z05 ?_|refine Z06 ?_|refine Z07 ?_|refine Z08 ?_|refine Z09 ?_|refine Z10 ?_|refine Z11 ?_|refine Z12 ?_|refine Z13 ?_|refine Z14 ?_|refine Z29 ?_|refine Z30 ?_|refine Z31 ?_|refine Z32 ?_|refine Z65 ?_|refine Z82 fun _ => ?_)
  refine Zec fun _ hw => post_of hw SubW.nil ⟨?_, rfl⟩
  rw [show hv.val = (p + 1) / 2 % p from rfl, ← half_lit]; rfl
theorem zero6F : ([] ++ List.replicate (6 - ([] : List Nat).length) 0 : List Nat) = D 6 (0 : Fq).val := by rw [val_0]; exact zero6
theorem fsqrtF (x : Fq) : Spec Try.prog 55 [LV .u64 (D 6 x.val)] NoPre [] (IsV (.tuple [LV .u64 (D 6 (Kf.K2.fsq x).1.val), .bool (Kf.K2.fsq x).2].toArray)) := by
  have := fsqrt_spec (val_lt x); rwa [kp_val] at this
theorem ssign_spec {a b : Nat} (ha : a < W ^ 6) (hb : b < W ^ 6) : Spec Try.prog 23 [LV .u64 (D 6 a ++ D 6 b)] NoPre [] (IsV (N .i64 (Kf.K2.sgn (k2 a b)))) := by
  refine mk_spec Try.func23 rfl rfl rfl fun w _ => ?_
  have hl0 := fun x => D_len 6 x
  repeat (first|((refine st_buildP (kk := .u64) (vs := []) (by rfl) (by rfl) (by rfl) (by rfl) (by rfl) (by rfl) (by rfl) (by rfl) ?_; rw [zero6F]))|(refine st_fld (by rfl) (by first | exact (show _ = some (0, 6) from rfl) | exact (show _ = some (6, 6) from rfl) | exact (show _ = some (0, 12) from rfl) | exact (show _ = some (12, 12) from rfl) | exact (show _ = some (24, 1) from rfl)) (by rfl) (by rfl) ?_)|((refine st_ldp (by rfl) (by repeat first|apply Find.here|apply Find.there) (by rfl) (by rfl) (by first | (refine PartAt.l ?_; (simp; done)) | (refine PartAt.r ?_ ?_ <;> (simp; done)) | (refine PartAt.all ?_; (simp; done))) (by rfl) ?_))|(refine st_build20 (by rfl) (by rfl) (by rfl) (by rfl) ?_)|(refine st_eq2 (by rfl) (by rfl) (by rfl) (by kernel_rfl) (by rfl) (by rfl) (by rfl) (by rfl) (by rfl) (by rfl) (by rfl) (by rfl) (by rfl) (by rfl) (by kernel_rfl) (by simp; done) (by simp; done) (by simp; done) (by simp; done) (by rfl) ?_)|(refine st_callV (by rfl) (by rfl) (by rfl) (kred_spec ha) (fun _ _ => trivial) (by rfl) ?_)|refine Z02 ?_|refine Z03 ?_|refine Z04 ?_|refine Z05 ?_|refine Z06 ?_|refine Z07 ?_|refine Z08 ?_|refine Z09 ?_|refine Z10 ?_|refine Z11 ?_|refine Z12 ?_|refine Z13 ?_|refine Z14 ?_|refine Z24 ?_|refine Z25 ?_|refine Z26 ?_|refine Z27 ?_|refine Z28 ?_|refine Z65 ?_|refine Z67 ?_|refine Z77 ?_|refine Z78 ?_|refine Z79 ?_|refine Z81 fun _ => ?_)
  refine st_cond (by rfl) (fun h => ?_) (fun h => ?_)
  · rw [D6_iff] at h
    have hs : Kf.K2.sgn (k2 a b) = Kf.sg (kp b) := if_pos h
    repeat (first|(refine st_fld (by rfl) (by first | exact (show _ = some (0, 6) from rfl) | exact (show _ = some (6, 6) from rfl) | exact (show _ = some (0, 12) from rfl) | exact (show _ = some (12, 12) from rfl) | exact (show _ = some (24, 1) from rfl)) (by rfl) (by rfl) ?_)|((refine st_ldp (by rfl) (by repeat first|apply Find.here|apply Find.there) (by rfl) (by rfl) (by first | (refine PartAt.l ?_; (simp; done)) | (refine PartAt.r ?_ ?_ <;> (simp; done)) | (refine PartAt.all ?_; (simp; done))) (by rfl) ?_))|(refine st_build20 (by rfl) (by rfl) (by rfl) (by rfl) ?_)|(refine st_eq2 (by rfl) (by rfl) (by rfl) (by kernel_rfl) (by rfl) (by rfl) (by rfl) (by rfl) (by rfl) (by rfl) (by rfl) (by rfl) (by rfl) (by rfl) (by kernel_rfl) (by simp; done) (by simp; done) (by simp; done) (by simp; done) (by rfl) ?_)|(refine st_callV (by rfl) (by rfl) (by rfl) (fsign_spec hb) (fun _ _ => trivial) (by rfl) ?_)|refine Z02 ?_|refine Z03 ?_|refine Z04 ?_|refine Z05 ?_|refine Z06 ?_|refine Z07 ?_|refine Z08 ?_|refine Z09 ?_|refine Z10 ?_|refine Z11 ?_|refine Z12 ?_|refine Z13 ?_|refine Z14 ?_|refine Z24 ?_|refine Z25 ?_|refine Z26 ?_|refine Z27 ?_|refine Z28 ?_|refine Z65 ?_|refine Z67 ?_|refine Z77 ?_|refine Z78 ?_|refine Z79 ?_|refine Z81 fun _ => ?_)
    refine Ze1 fun _ hw => post_of hw SubW.nil ⟨?_, rfl⟩
    rw [hs]
  · rw [D6_iff] at h
    have hs : Kf.K2.sgn (k2 a b) = Kf.sg (kp a) := if_neg h
    repeat (first|(refine st_fld (by rfl) (by first | exact (show _ = some (0, 6) from rfl) | exact (show _ = some (6, 6) from rfl) | exact (show _ = some (0, 12) from rfl) | exact (show _ = some (12, 12) from rfl) | exact (show _ = some (24, 1) from rfl)) (by rfl) (by rfl) ?_)|((refine st_ldp (by rfl) (by repeat first|apply Find.here|apply Find.there) (by rfl) (by rfl) (by first | (refine PartAt.l ?_; (simp; done)) | (refine PartAt.r ?_ ?_ <;> (simp; done)) | (refine PartAt.all ?_; (simp; done))) (by rfl) ?_))|(refine st_build20 (by rfl) (by rfl) (by rfl) (by rfl) ?_)|(refine st_eq2 (by rfl) (by rfl) (by rfl) (by kernel_rfl) (by rfl) (by rfl) (by rfl) (by rfl) (by rfl) (by rfl) (by rfl) (by rfl) (by rfl) (by rfl) (by kernel_rfl) (by simp; done) (by simp; done) (by simp; done) (by simp; done) (by rfl) ?_)|(refine st_callV (by rfl) (by rfl) (by rfl) (fsign_spec ha) (fun _ _ => trivial) (by rfl) ?_)|refine Z02 ?_|refine Z03 ?_|refine Z04 ?_|refine Z05 ?_|refine Z06 ?_|refine Z07 ?_|refine Z08 ?_|refine Z09 ?_|refine Z10 ?_|refine Z11 ?_|refine Z12 ?_|refine Z13 ?_|refine Z14 ?_|refine Z24 ?_|refine Z25 ?_|refine Z26 ?_|refine Z27 ?_|refine Z28 ?_|refine Z65 ?_|refine Z67 ?_|refine Z77 ?_|refine Z78 ?_|refine Z79 ?_|refine Z81 fun _ => ?_)
    refine Ze1 fun _ hw => post_of hw SubW.nil ⟨?_, rfl⟩
    rw [hs]
theorem ssignE (x : F2) : Spec Try.prog 23 [LV .u64 (E2 x)] NoPre [] (IsV (N .i64 (Kf.K2.sgn x))) := by
  have := ssign_spec (val_lt x.re) (val_lt x.im); rwa [k2_val] at this
theorem E2_congr {x y : F2} (h : x = y) : E2 x = E2 y := by rw [h]
theorem E2_mk {a b : Fq} {o : F2} (ho : o = ⟨a, b⟩) : D 6 a.val ++ D 6 b.val = E2 o := by rw [ho]
end Go.Proofs.Ytbpmbdlgmmabcaa.L
