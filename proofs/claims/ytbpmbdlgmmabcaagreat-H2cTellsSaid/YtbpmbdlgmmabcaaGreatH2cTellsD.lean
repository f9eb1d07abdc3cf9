/- What the proof of the statement about H2cTells stands on, part D. Conditions: as each statement says. -/
import Derived.Test.YtbpmbdlgmmabcaaGreatH2cTellsC
import Derived.Test.YtbpmbdlgmmabcaaGreatProg
namespace Go.Proofs.YtbpmbdlgmmabcaaGreat.L.Kf
open Pr
namespace K2
variable {n : Nat} [NeZero n]
attribute [local irreducible] add mul sub neg zero one inv
theorem curve_alg {y s q1 q2 q3 q4 i2 i4 b : K2 n} (h2 : (mul q2 i2) = ofZ 1) (h4 : (mul q4 i4) = ofZ 1) (hy : (mul y y) = s) (h : (mul (mul q3 q3) (mul s (mul (mul q2 q2) q2))) = (mul (add (mul (mul q1 q1) q1) (mul b (mul (mul q2 q2) q2))) (mul q4 q4))) : (mul (mul y (mul q3 i4)) (mul y (mul q3 i4))) = (add (mul (mul (mul q1 i2) (mul q1 i2)) (mul q1 i2)) b) := lin4 (ring (x := (.s (.m (.m (.v 0) (.m (.v 4) (.v 7))) (.m (.v 0) (.m (.v 4) (.v 7)))) (.a (.m (.m (.m (.v 2) (.v 6)) (.m (.v 2) (.v 6))) (.m (.v 2) (.v 6))) (.v 8)))) (y := (.a (.a (.a (.m (.m (.m (.m (.v 4) (.v 4)) (.v 7)) (.v 7)) (.s (.m (.v 0) (.v 0)) (.v 1))) (.m (.m (.s (.v 8) (.m (.m (.m (.m (.v 1) (.v 4)) (.v 4)) (.v 7)) (.v 7))) (.a (.a (.m (.m (.v 3) (.v 6)) (.m (.v 3) (.v 6))) (.m (.v 3) (.v 6))) (.c 1))) (.s (.m (.v 3) (.v 6)) (.c 1)))) (.m (.m (.a (.m (.m (.m (.m (.m (.v 2) (.v 2)) (.v 2)) (.v 6)) (.v 6)) (.v 6)) (.m (.m (.m (.v 8) (.m (.v 3) (.v 6))) (.m (.v 3) (.v 6))) (.m (.v 3) (.v 6)))) (.a (.m (.v 5) (.v 7)) (.c 1))) (.s (.m (.v 5) (.v 7)) (.c 1)))) (.m (.m (.m (.m (.m (.v 6) (.v 6)) (.v 6)) (.v 7)) (.v 7)) (.s (.m (.m (.v 4) (.v 4)) (.m (.v 1) (.m (.m (.v 3) (.v 3)) (.v 3)))) (.m (.a (.m (.m (.v 2) (.v 2)) (.v 2)) (.m (.v 8) (.m (.m (.v 3) (.v 3)) (.v 3)))) (.m (.v 5) (.v 5))))))) (by decide +kernel) [y, s, q1, q2, q3, q4, i2, i4, b]) (hy) (h2) (h4) (h)
def fA (c a b : K2 n) : K2 n := (add (add (add (add (mul a a) (mul a b)) (mul b b)) (mul (mul (mul (mul (ofZ 9) c) c) c) (add a b))) (mul (mul (ofZ 12) c) c))
structure SlM (c l X1 y1 X2 y2 : K2 n) : Prop where
 a : y1 = add y2 (mul l (sub X1 X2))
 b : mul l (add y1 y2) = fA c X1 X2
structure SlT (t l x1 y1 x2 y2 : K2 n) : Prop where
 a : y1 = add y2 (mul l (sub x1 x2))
 b : mul l (add y1 y2) = add (q3 x1 x2) t
theorem SlT.m {x1 y1 x2 y2 l g c a : K2 n} (hg : g = (mul (mul (mul (ofZ 3) c) c) c)) (ha : a = (sub (mul (mul (ofZ 12) c) c) (mul (mul (mul (mul (mul (mul (ofZ 27) c) c) c) c) c) c))) (h : SlT a l x1 y1 x2 y2) : SlM c l (sub x1 g) y1 (sub x2 g) y2 := by
 obtain ⟨rfl, hsb⟩ := h
 exact ⟨ring (x := (.a (.v 2) (.m (.v 3) (.s (.v 0) (.v 1))))) (y := (.a (.v 2) (.m (.v 3) (.s (.s (.v 0) (.v 4)) (.s (.v 1) (.v 4)))))) (by decide +kernel) [x1, x2, y2, l, g, c, a], lin3 (ring (x := (.s (.m (.v 3) (.a (.a (.v 2) (.m (.v 3) (.s (.v 0) (.v 1)))) (.v 2))) (.a (.a (.a (.a (.m (.s (.v 0) (.v 4)) (.s (.v 0) (.v 4))) (.m (.s (.v 0) (.v 4)) (.s (.v 1) (.v 4)))) (.m (.s (.v 1) (.v 4)) (.s (.v 1) (.v 4)))) (.m (.m (.m (.m (.c 9) (.v 5)) (.v 5)) (.v 5)) (.a (.s (.v 0) (.v 4)) (.s (.v 1) (.v 4))))) (.m (.m (.c 12) (.v 5)) (.v 5))))) (y := (.a (.a (.m (.c 1) (.s (.m (.v 3) (.a (.a (.v 2) (.m (.v 3) (.s (.v 0) (.v 1)))) (.v 2))) (.a (.a (.a (.m (.v 0) (.v 0)) (.m (.v 0) (.v 1))) (.m (.v 1) (.v 1))) (.v 6)))) (.m (.a (.m (.m (.m (.c 9) (.v 5)) (.v 5)) (.v 5)) (.a (.m (.c (-3)) (.v 4)) (.a (.m (.c 3) (.v 1)) (.m (.c 3) (.v 0))))) (.s (.v 4) (.m (.m (.m (.c 3) (.v 5)) (.v 5)) (.v 5))))) (.m (.c 1) (.s (.v 6) (.s (.m (.m (.c 12) (.v 5)) (.v 5)) (.m (.m (.m (.m (.m (.m (.c 27) (.v 5)) (.v 5)) (.v 5)) (.v 5)) (.v 5)) (.v 5))))))) (by decide +kernel) [x1, x2, y2, l, g, c, a]) (hsb) (hg) (ha)⟩
theorem Sl.scale {k z1 w1 z2 w2 s s2 s3 : K2 n} (h2 : (mul s s) = s2) (h3 : (mul s s2) = s3) (h : Sl k z1 w1 z2 w2) : Sl (mul s k) (mul s2 z1) (mul s3 w1) (mul s2 z2) (mul s3 w2) := ⟨lin2 (ring (x := (.s (.m (.v 7) (.v 2)) (.a (.m (.v 7) (.v 4)) (.m (.m (.v 5) (.v 0)) (.s (.m (.v 6) (.v 1)) (.m (.v 6) (.v 3))))))) (y := (.a (.m (.v 7) (.s (.v 2) (.a (.v 4) (.m (.v 0) (.s (.v 1) (.v 3)))))) (.m (.n (.m (.v 0) (.s (.v 1) (.v 3)))) (.s (.m (.v 5) (.v 6)) (.v 7))))) (by decide +kernel) [k, z1, w1, z2, w2, s, s2, s3]) (h.a) (h3), lin3 (ring (x := (.s (.m (.m (.v 5) (.v 0)) (.a (.m (.v 7) (.v 2)) (.m (.v 7) (.v 4)))) (.a (.a (.m (.m (.v 6) (.v 1)) (.m (.v 6) (.v 1))) (.m (.m (.v 6) (.v 1)) (.m (.v 6) (.v 3)))) (.m (.m (.v 6) (.v 3)) (.m (.v 6) (.v 3)))))) (y := (.a (.a (.m (.m (.v 5) (.v 7)) (.s (.m (.v 0) (.a (.v 2) (.v 4))) (.a (.a (.m (.v 1) (.v 1)) (.m (.v 1) (.v 3))) (.m (.v 3) (.v 3))))) (.m (.n (.m (.v 5) (.a (.a (.m (.v 1) (.v 1)) (.m (.v 1) (.v 3))) (.m (.v 3) (.v 3))))) (.s (.m (.v 5) (.v 6)) (.v 7)))) (.m (.m (.v 6) (.a (.a (.m (.v 1) (.v 1)) (.m (.v 1) (.v 3))) (.m (.v 3) (.v 3)))) (.s (.m (.v 5) (.v 5)) (.v 6))))) (by decide +kernel) [k, z1, w1, z2, w2, s, s2, s3]) (h.b) (h3) (h2)⟩
theorem sq_diff {y z : K2 n} (h : mul y y = mul z z) : mul (sub y z) (add y z) = zero := by
 rw [← ofZ_0]
 exact lin1 (ring (x := (.s (.m (.s (.v 0) (.v 1)) (.a (.v 0) (.v 1))) (.c 0))) (y := (.m (.c 1) (.s (.m (.v 0) (.v 0)) (.m (.v 1) (.v 1))))) (by decide +kernel) [y, z]) (h)
theorem cert_x {X z i : K2 n} (h : mul i z = one) : mul (mul X (mul z z)) (mul i i) = X := by
 rw [← ofZ_1] at h
 exact lin1 (ring (x := (.s (.m (.m (.v 0) (.m (.v 1) (.v 1))) (.m (.v 2) (.v 2))) (.v 0))) (y := (.m (.m (.v 0) (.a (.m (.v 2) (.v 1)) (.c 1))) (.s (.m (.v 2) (.v 1)) (.c 1)))) (by decide +kernel) [X, z, i]) (h)
theorem cert_y {X z i : K2 n} (h : mul i z = one) : mul (mul X (mul (mul z z) z)) (mul (mul i i) i) = X := by
 rw [← ofZ_1] at h
 exact lin1 (ring (x := (.s (.m (.m (.v 0) (.m (.m (.v 1) (.v 1)) (.v 1))) (.m (.m (.v 2) (.v 2)) (.v 2))) (.v 0))) (y := (.m (.m (.v 0) (.a (.a (.m (.m (.v 2) (.v 1)) (.m (.v 2) (.v 1))) (.m (.v 2) (.v 1))) (.c 1))) (.s (.m (.v 2) (.v 1)) (.c 1)))) (by decide +kernel) [X, z, i]) (h)
end K2
end Go.Proofs.YtbpmbdlgmmabcaaGreat.L.Kf
namespace Go.Proofs.YtbpmbdlgmmabcaaGreat.L.Kf
open Pr
namespace K2
variable {n : Nat} [NeZero n]
attribute [local irreducible] add mul sub neg zero one inv
def jx (x z : K2 n) : K2 n := mul x (mul (inv z) (inv z))
def jy (y z : K2 n) : K2 n := mul y (mul (mul (inv z) (inv z)) (inv z))
def jp (x y z : K2 n) : Pt n := if z = zero then none else some (jx x z, jy y z)
theorem jp_0 (x y : K2 n) : jp x y zero = none := if_pos rfl
theorem jp_z {x y z : K2 n} (h : z = zero) : jp x y z = none := if_pos h
theorem jp_n {x y z : K2 n} (h : z ≠ zero) : jp x y z = some (jx x z, jy y z) := if_neg h
def td0 (x y : K2 n) : K2 n := mul x (mul y y)
def td1 (x y : K2 n) : K2 n := add (td0 x y) (td0 x y)
def td (x y : K2 n) : K2 n := add (td1 x y) (td1 x y)
def te (x : K2 n) : K2 n := add (add (mul x x) (mul x x)) (mul x x)
def tX (x y : K2 n) : K2 n := sub (mul (te x) (te x)) (add (td x y) (td x y))
def tc (y : K2 n) : Nat → K2 n
 | 0 => mul (mul y y) (mul y y)
 | k + 1 => add (tc y k) (tc y k)
def tY (x y : K2 n) : K2 n := sub (mul (te x) (sub (td x y) (tX x y))) (tc y 3)
def tZ (y z : K2 n) : K2 n := add (mul y z) (mul y z)
theorem one_sq (hp : P3 n) (x y : K2 n) : jp x y one = some (x, y) := by
 have h1 := one_ne2 hp
 have hi : inv (one : K2 n) = one := by
  have := inv_mul2 hp h1
  rwa [mul_one'] at this
 rw [jp_n h1, jx, jy, hi, mul_one', mul_one', mul_one', mul_one']
theorem tw_b {x y i j : K2 n} (hk : mul (add y y) j = i) : mul (mul (te x) j) (add (mul y (mul (mul i i) i)) (mul y (mul (mul i i) i))) = q3 (mul x (mul i i)) (mul x (mul i i)) := lin1 (ring (x := (.s (.m (.m (.a (.a (.m (.v 0) (.v 0)) (.m (.v 0) (.v 0))) (.m (.v 0) (.v 0))) (.v 3)) (.a (.m (.v 1) (.m (.m (.v 2) (.v 2)) (.v 2))) (.m (.v 1) (.m (.m (.v 2) (.v 2)) (.v 2))))) (.a (.a (.m (.m (.v 0) (.m (.v 2) (.v 2))) (.m (.v 0) (.m (.v 2) (.v 2)))) (.m (.m (.v 0) (.m (.v 2) (.v 2))) (.m (.v 0) (.m (.v 2) (.v 2))))) (.m (.m (.v 0) (.m (.v 2) (.v 2))) (.m (.v 0) (.m (.v 2) (.v 2))))))) (y := (.m (.m (.m (.m (.m (.m (.c 3) (.v 0)) (.v 0)) (.v 2)) (.v 2)) (.v 2)) (.s (.m (.a (.v 1) (.v 1)) (.v 3)) (.v 2)))) (by decide +kernel) [x, y, i, j]) (hk)
theorem tw_x {x y i j : K2 n} (hk : mul (add y y) j = i) : cx (mul (te x) j) (mul x (mul i i)) (mul x (mul i i)) = mul (tX x y) (mul j j) := lin1 (ring (x := (.s (.s (.s (.m (.m (.a (.a (.m (.v 0) (.v 0)) (.m (.v 0) (.v 0))) (.m (.v 0) (.v 0))) (.v 3)) (.m (.a (.a (.m (.v 0) (.v 0)) (.m (.v 0) (.v 0))) (.m (.v 0) (.v 0))) (.v 3))) (.m (.v 0) (.m (.v 2) (.v 2)))) (.m (.v 0) (.m (.v 2) (.v 2)))) (.m (.s (.m (.a (.a (.m (.v 0) (.v 0)) (.m (.v 0) (.v 0))) (.m (.v 0) (.v 0))) (.a (.a (.m (.v 0) (.v 0)) (.m (.v 0) (.v 0))) (.m (.v 0) (.v 0)))) (.a (.a (.a (.m (.v 0) (.m (.v 1) (.v 1))) (.m (.v 0) (.m (.v 1) (.v 1)))) (.a (.m (.v 0) (.m (.v 1) (.v 1))) (.m (.v 0) (.m (.v 1) (.v 1))))) (.a (.a (.m (.v 0) (.m (.v 1) (.v 1))) (.m (.v 0) (.m (.v 1) (.v 1)))) (.a (.m (.v 0) (.m (.v 1) (.v 1))) (.m (.v 0) (.m (.v 1) (.v 1))))))) (.m (.v 3) (.v 3))))) (y := (.m (.a (.m (.m (.m (.c 4) (.v 0)) (.v 1)) (.v 3)) (.m (.m (.c 2) (.v 0)) (.v 2))) (.s (.m (.a (.v 1) (.v 1)) (.v 3)) (.v 2)))) (by decide +kernel) [x, y, i, j]) (hk)
theorem tw_y {x y i j : K2 n} (hk : mul (add y y) j = i) : cy (mul (te x) j) (mul x (mul i i)) (mul y (mul (mul i i) i)) (mul x (mul i i)) = mul (tY x y) (mul (mul j j) j) := lin1 (ring (x := (.s (.s (.m (.m (.a (.a (.m (.v 0) (.v 0)) (.m (.v 0) (.v 0))) (.m (.v 0) (.v 0))) (.v 3)) (.s (.m (.v 0) (.m (.v 2) (.v 2))) (.s (.s (.m (.m (.a (.a (.m (.v 0) (.v 0)) (.m (.v 0) (.v 0))) (.m (.v 0) (.v 0))) (.v 3)) (.m (.a (.a (.m (.v 0) (.v 0)) (.m (.v 0) (.v 0))) (.m (.v 0) (.v 0))) (.v 3))) (.m (.v 0) (.m (.v 2) (.v 2)))) (.m (.v 0) (.m (.v 2) (.v 2)))))) (.m (.v 1) (.m (.m (.v 2) (.v 2)) (.v 2)))) (.m (.s (.m (.a (.a (.m (.v 0) (.v 0)) (.m (.v 0) (.v 0))) (.m (.v 0) (.v 0))) (.s (.a (.a (.m (.v 0) (.m (.v 1) (.v 1))) (.m (.v 0) (.m (.v 1) (.v 1)))) (.a (.m (.v 0) (.m (.v 1) (.v 1))) (.m (.v 0) (.m (.v 1) (.v 1))))) (.s (.m (.a (.a (.m (.v 0) (.v 0)) (.m (.v 0) (.v 0))) (.m (.v 0) (.v 0))) (.a (.a (.m (.v 0) (.v 0)) (.m (.v 0) (.v 0))) (.m (.v 0) (.v 0)))) (.a (.a (.a (.m (.v 0) (.m (.v 1) (.v 1))) (.m (.v 0) (.m (.v 1) (.v 1)))) (.a (.m (.v 0) (.m (.v 1) (.v 1))) (.m (.v 0) (.m (.v 1) (.v 1))))) (.a (.a (.m (.v 0) (.m (.v 1) (.v 1))) (.m (.v 0) (.m (.v 1) (.v 1)))) (.a (.m (.v 0) (.m (.v 1) (.v 1))) (.m (.v 0) (.m (.v 1) (.v 1))))))))) (.a (.a (.a (.m (.m (.v 1) (.v 1)) (.m (.v 1) (.v 1))) (.m (.m (.v 1) (.v 1)) (.m (.v 1) (.v 1)))) (.a (.m (.m (.v 1) (.v 1)) (.m (.v 1) (.v 1))) (.m (.m (.v 1) (.v 1)) (.m (.v 1) (.v 1))))) (.a (.a (.m (.m (.v 1) (.v 1)) (.m (.v 1) (.v 1))) (.m (.m (.v 1) (.v 1)) (.m (.v 1) (.v 1)))) (.a (.m (.m (.v 1) (.v 1)) (.m (.v 1) (.v 1))) (.m (.m (.v 1) (.v 1)) (.m (.v 1) (.v 1))))))) (.m (.m (.v 3) (.v 3)) (.v 3))))) (y := (.m (.a (.m (.a (.m (.m (.a (.m (.m (.c 4) (.v 1)) (.v 1)) (.m (.m (.m (.c (-18)) (.v 0)) (.v 0)) (.v 0))) (.v 1)) (.v 3)) (.m (.a (.m (.m (.c 2) (.v 1)) (.v 1)) (.m (.m (.m (.c (-9)) (.v 0)) (.v 0)) (.v 0))) (.v 2))) (.v 3)) (.m (.m (.m (.c 1) (.v 1)) (.v 2)) (.v 2))) (.s (.m (.a (.v 1) (.v 1)) (.v 3)) (.v 2)))) (by decide +kernel) [x, y, i, j]) (hk)
theorem tw_k {y z i j : K2 n} (hi : mul z i = ofZ 1) (hj : mul (tZ y z) j = ofZ 1) : mul (add y y) j = i := lin2 (ring (x := (.s (.m (.a (.v 1) (.v 1)) (.v 4)) (.v 3))) (y := (.a (.m (.n (.m (.a (.v 1) (.v 1)) (.v 4))) (.s (.m (.v 2) (.v 3)) (.c 1))) (.m (.v 3) (.s (.m (.a (.m (.v 1) (.v 2)) (.m (.v 1) (.v 2))) (.v 4)) (.c 1))))) (by decide +kernel) [y, y, z, i, j]) (hi) (hj)
theorem jp_twice (hp : P3 n) {b : K2 n} (h2 : No2 b) {x y z : K2 n} (ho : Onc b (jp x y z)) : jp (tX x y) (tY x y) (tZ y z) = pa (jp x y z) (jp x y z) := by
 by_cases hz : z = zero
 ·rw [jp_z hz, jp_z (by rw [hz, tZ, mul_zero2, add_zero'])]; rfl
 ·rw [jp_n hz] at ho ⊢
  have hy := y_ne h2 (onc_some ho)
  have hy0 : y ≠ zero := fun e => hy (by rw [jy, e, zero_mul2])
  have hZ : tZ y z ≠ zero := dbl_ne hp (mul_ne hp hy0 hz)
  rw [jp_n hZ]
  have hi := (mul_inv2 hp hz).trans ofZ_1.symm
  have hj := (mul_inv2 hp hZ).trans ofZ_1.symm
  have hk := tw_k hi hj
  have hd := dbl_ne hp hy
  rw [jx, jx, jy, jy] at *
  generalize inv (tZ y z) = j at *
  generalize inv z = i at *
  have hS : Sl (mul (te x) j) (mul x (mul i i)) (mul y (mul (mul i i) i)) (mul x (mul i i)) (mul y (mul (mul i i) i)) := ⟨by rw [sub_self', mul_zero2, add_zero'], tw_b hk⟩
  rw [pa_sl hp hS (.inr hd), tw_x hk, tw_y hk]
def pH (x z qx : K2 n) : K2 n := sub (mul qx (mul z z)) x
def pR (y z qy : K2 n) : K2 n := sub (mul qy (mul (mul z z) z)) y
def pV (x h : K2 n) : K2 n := mul x (mul h h)
def pX (x h r : K2 n) : K2 n := sub (sub (mul r r) (mul (mul h h) h)) (add (pV x h) (pV x h))
def pY (x y h r : K2 n) : K2 n := sub (mul r (sub (pV x h) (pX x h r))) (mul y (mul (mul h h) h))
theorem pl_l {x y h r i j : K2 n} (hk : mul h j = i) : mul (mul r j) (sub (mul (add x h) (mul i i)) (mul x (mul i i))) = sub (mul (add y r) (mul (mul i i) i)) (mul y (mul (mul i i) i)) := lin1 (ring (x := (.s (.m (.m (.v 3) (.v 5)) (.s (.m (.a (.v 0) (.v 2)) (.m (.v 4) (.v 4))) (.m (.v 0) (.m (.v 4) (.v 4))))) (.s (.m (.a (.v 1) (.v 3)) (.m (.m (.v 4) (.v 4)) (.v 4))) (.m (.v 1) (.m (.m (.v 4) (.v 4)) (.v 4)))))) (y := (.m (.m (.m (.m (.c 1) (.v 3)) (.v 4)) (.v 4)) (.s (.m (.v 2) (.v 5)) (.v 4)))) (by decide +kernel) [x, y, h, r, i, j]) (hk)
theorem pl_x {x h r i j : K2 n} (hk : mul h j = i) : cx (mul r j) (mul x (mul i i)) (mul (add x h) (mul i i)) = mul (pX x h r) (mul j j) := lin1 (ring (x := (.s (.s (.s (.m (.m (.v 3) (.v 5)) (.m (.v 3) (.v 5))) (.m (.v 0) (.m (.v 4) (.v 4)))) (.m (.a (.v 0) (.v 2)) (.m (.v 4) (.v 4)))) (.m (.s (.s (.m (.v 3) (.v 3)) (.m (.m (.v 2) (.v 2)) (.v 2))) (.a (.m (.v 0) (.m (.v 2) (.v 2))) (.m (.v 0) (.m (.v 2) (.v 2))))) (.m (.v 5) (.v 5))))) (y := (.m (.a (.m (.m (.a (.m (.c 1) (.v 2)) (.m (.c 2) (.v 0))) (.v 2)) (.v 5)) (.m (.a (.m (.c 1) (.v 2)) (.m (.c 2) (.v 0))) (.v 4))) (.s (.m (.v 2) (.v 5)) (.v 4)))) (by decide +kernel) [x, x, h, r, i, j]) (hk)
theorem pl_y {x y h r i j : K2 n} (hk : mul h j = i) : cy (mul r j) (mul x (mul i i)) (mul y (mul (mul i i) i)) (mul (add x h) (mul i i)) = mul (pY x y h r) (mul (mul j j) j) := lin1 (ring (x := (.s (.s (.m (.m (.v 3) (.v 5)) (.s (.m (.v 0) (.m (.v 4) (.v 4))) (.s (.s (.m (.m (.v 3) (.v 5)) (.m (.v 3) (.v 5))) (.m (.v 0) (.m (.v 4) (.v 4)))) (.m (.a (.v 0) (.v 2)) (.m (.v 4) (.v 4)))))) (.m (.v 1) (.m (.m (.v 4) (.v 4)) (.v 4)))) (.m (.s (.m (.v 3) (.s (.m (.v 0) (.m (.v 2) (.v 2))) (.s (.s (.m (.v 3) (.v 3)) (.m (.m (.v 2) (.v 2)) (.v 2))) (.a (.m (.v 0) (.m (.v 2) (.v 2))) (.m (.v 0) (.m (.v 2) (.v 2))))))) (.m (.v 1) (.m (.m (.v 2) (.v 2)) (.v 2)))) (.m (.m (.v 5) (.v 5)) (.v 5))))) (y := (.m (.a (.m (.a (.m (.a (.m (.m (.a (.m (.c (-1)) (.v 2)) (.m (.c (-3)) (.v 0))) (.v 2)) (.v 3)) (.m (.m (.m (.c 1) (.v 1)) (.v 2)) (.v 2))) (.v 5)) (.m (.a (.m (.a (.m (.c (-1)) (.v 2)) (.m (.c (-3)) (.v 0))) (.v 3)) (.m (.m (.c 1) (.v 1)) (.v 2))) (.v 4))) (.v 5)) (.m (.m (.m (.c 1) (.v 1)) (.v 4)) (.v 4))) (.s (.m (.v 2) (.v 5)) (.v 4)))) (by decide +kernel) [x, y, h, r, i, j]) (hk)
theorem pl_qx {q z x i : K2 n} (hi : mul z i = ofZ 1) : q = mul (add x (pH x z q)) (mul i i) := lin1 (ring (x := (.s (.v 0) (.m (.a (.v 2) (.s (.m (.v 0) (.m (.v 1) (.v 1))) (.v 2))) (.m (.v 3) (.v 3))))) (y := (.m (.n (.m (.v 0) (.a (.m (.v 1) (.v 3)) (.c 1)))) (.s (.m (.v 1) (.v 3)) (.c 1)))) (by decide +kernel) [q, z, x, i]) (hi)
theorem pl_qy {q z x i : K2 n} (hi : mul z i = ofZ 1) : q = mul (add x (pR x z q)) (mul (mul i i) i) := lin1 (ring (x := (.s (.v 0) (.m (.a (.v 2) (.s (.m (.v 0) (.m (.m (.v 1) (.v 1)) (.v 1))) (.v 2))) (.m (.m (.v 3) (.v 3)) (.v 3))))) (y := (.m (.n (.m (.v 0) (.a (.a (.m (.m (.v 1) (.v 3)) (.m (.v 1) (.v 3))) (.m (.v 1) (.v 3))) (.c 1)))) (.s (.m (.v 1) (.v 3)) (.c 1)))) (by decide +kernel) [q, z, x, i]) (hi)
theorem pl_k {z i h j : K2 n} (hi : mul z i = ofZ 1) (hj : mul (mul z h) j = ofZ 1) : mul h j = i := lin2 (ring (x := (.s (.m (.v 4) (.v 5)) (.v 3))) (y := (.a (.m (.n (.m (.v 4) (.v 5))) (.s (.m (.v 1) (.v 3)) (.c 1))) (.m (.v 3) (.s (.m (.m (.v 1) (.v 4)) (.v 5)) (.c 1))))) (by decide +kernel) [z, z, z, i, h, j]) (hi) (hj)
theorem pl_h0 {q z x i : K2 n} (hi : mul z i = ofZ 1) (e : mul x (mul i i) = q) : pH x z q = zero := by
 rw [← ofZ_0]
 exact lin2 (ring (x := (.s (.s (.m (.v 0) (.m (.v 1) (.v 1))) (.v 2)) (.c 0))) (y := (.a (.m (.n (.m (.v 1) (.v 1))) (.s (.m (.v 2) (.m (.v 3) (.v 3))) (.v 0))) (.m (.m (.v 2) (.a (.m (.v 1) (.v 3)) (.c 1))) (.s (.m (.v 1) (.v 3)) (.c 1))))) (by decide +kernel) [q, z, x, i]) (e) (hi)
theorem pl_r0 {q z x i : K2 n} (hi : mul z i = ofZ 1) (e : mul x (mul (mul i i) i) = q) : pR x z q = zero := by
 rw [← ofZ_0]
 exact lin2 (ring (x := (.s (.s (.m (.v 0) (.m (.m (.v 1) (.v 1)) (.v 1))) (.v 2)) (.c 0))) (y := (.a (.m (.n (.m (.m (.v 1) (.v 1)) (.v 1))) (.s (.m (.v 2) (.m (.m (.v 3) (.v 3)) (.v 3))) (.v 0))) (.m (.m (.v 2) (.a (.a (.m (.m (.v 1) (.v 3)) (.m (.v 1) (.v 3))) (.m (.v 1) (.v 3))) (.c 1))) (.s (.m (.v 1) (.v 3)) (.c 1))))) (by decide +kernel) [q, z, x, i]) (e) (hi)
theorem jp_plus (hp : P3 n) {x y z qx qy : K2 n} (hz : z ≠ zero) (hh : pH x z qx ≠ zero) :
  jp (pX x (pH x z qx) (pR y z qy)) (pY x y (pH x z qx) (pR y z qy)) (mul z (pH x z qx)) = pa (jp x y z) (some (qx, qy)) := by
 have hZ := mul_ne hp hz hh
 rw [jp_n hZ, jp_n hz]
 have hi := (mul_inv2 hp hz).trans ofZ_1.symm
 have hj := (mul_inv2 hp hZ).trans ofZ_1.symm
 have hk := pl_k hi hj
 have e1 := pl_qx (q := qx) (x := x) hi
 have e2 := pl_qy (q := qy) (x := y) hi
 have hne : mul x (mul (inv z) (inv z)) ≠ qx := fun e => hh (pl_h0 hi e)
 rw [jx, jx, jy, jy]
 generalize inv (mul z (pH x z qx)) = j at *
 generalize inv z = i at *
 generalize pH x z qx = h at *
 generalize pR y z qy = r at *
 subst e1
 subst e2
 have hc : chor (mul x (mul i i)) (mul y (mul (mul i i) i)) (mul (add x h) (mul i i)) (mul (add y r) (mul (mul i i) i)) = mul r j :=
  div_eq hp (fun e => hne (sub_zero_eq e).symm) (pl_l hk)
 show _ = (if mul x (mul i i) = mul (add x h) (mul i i) then _ else _)
 rw [if_neg hne, hc, pl_x hk, pl_y hk]
theorem pa_ne {x1 y1 x2 y2 : K2 n} (hx : x1 = x2) (hy : y1 ≠ y2) : pa (some (x1, y1)) (some (x2, y2)) = none := by
 show (if x1 = x2 then if y1 = y2 ∧ y1 ≠ zero then _ else _ else _) = _
 rw [if_pos hx, if_neg fun h => hy h.1]
theorem jp_plus_0 {x y z qx qy : K2 n} (hp : P3 n) (hz : z ≠ zero) (hh : pH x z qx = zero) (hr : pR y z qy ≠ zero) : pa (jp x y z) (some (qx, qy)) = none := by
 rw [jp_n hz]
 have hi := (mul_inv2 hp hz).trans ofZ_1.symm
 have hne : mul y (mul (mul (inv z) (inv z)) (inv z)) ≠ qy := fun e => hr (pl_r0 hi e)
 have e1 := pl_qx (q := qx) (x := x) hi
 rw [hh, add_zero'] at e1
 exact pa_ne e1.symm hne
theorem jp_plus_2 {x y z qx qy : K2 n} (hp : P3 n) (hz : z ≠ zero) (hh : pH x z qx = zero) (hr : pR y z qy = zero) : (some (qx, qy) : Pt n) = jp x y z := by
 have hi := (mul_inv2 hp hz).trans ofZ_1.symm
 have e1 := pl_qx (q := qx) (x := x) hi
 have e2 := pl_qy (q := qy) (x := y) hi
 rw [hh, add_zero'] at e1
 rw [hr, add_zero'] at e2
 rw [jp_n hz]
 exact some_pair e1 e2
def tim (q : Pt n) : Nat → Pt n
 | 0 => none
 | k + 1 => pa (tim q k) q
theorem Onc_tim (hp : P3 n) {b : K2 n} {q : Pt n} (hq : Onc b q) (k : Nat) : Onc b (tim q k) := by
 induction k with
 | zero => trivial
 | succ k ih => exact Onc_pa hp ih hq
variable (hp : P3 n) {b : K2 n} (h2 : No2 b)
include hp h2
theorem tim_add {q : Pt n} (hq : Onc b q) (j k : Nat) : tim q (j + k) = pa (tim q j) (tim q k) := by
 induction k with
 | zero => exact (pa_none_right _).symm
 | succ k ih =>
  show pa (tim q (j + k)) q = pa (tim q j) (pa (tim q k) q)
  rw [ih, pa_assoc hp h2 (Onc_tim hp hq j) (Onc_tim hp hq k) hq]
omit hp h2 in
theorem tim_none (k : Nat) : tim (none : Pt n) k = none := by
 induction k with
 | zero => rfl
 | succ k ih => show pa (tim none k) none = none; rw [ih]; rfl
end K2
end Go.Proofs.YtbpmbdlgmmabcaaGreat.L.Kf
namespace Go.Proofs.YtbpmbdlgmmabcaaGreat.L.Kf
open Pr
namespace K2
abbrev PN := Nat × Nat
def addP (N : Nat) (x y : PN) : PN := ((x.1 + y.1) % N, (x.2 + y.2) % N)
def subP (N : Nat) (x y : PN) : PN := ((x.1 + (N - y.1 % N)) % N, (x.2 + (N - y.2 % N)) % N)
def mulP (N : Nat) (x y : PN) : PN := ((x.1 * y.1 + x.2 * (N - y.2 % N)) % N, (x.1 * y.2 + x.2 * y.1) % N)
section
variable {n : Nat} [NeZero n]
def red (n : Nat) [NeZero n] (x : PN) : K2 n := ⟨κ n x.1, κ n x.2⟩
variable {N : Nat} (hN : n ∣ N) (h0 : 0 < N)
include hN
theorem κ_modN (a : Nat) : κ n (a % N) = κ n a := by
 rw [κ_eq]; exact Nat.mod_mod_of_dvd a hN
include h0
theorem κ_subN (a : Nat) : κ n (N - a % N) = -κ n a := by
 have h1 : κ n N = 0 := dvd_zero.2 hN
 rw [κ_sub (Nat.le_of_lt (Nat.mod_lt a h0)), h1, κ_modN hN]
 grind
omit h0 in
theorem red_add (x y : PN) : red n (addP N x y) = add (red n x) (red n y) := by
 refine ext' ?_ ?_
 ·show κ n ((x.1 + y.1) % N) = κ n x.1 + κ n y.1
  rw [κ_modN hN, κ_add]
 ·show κ n ((x.2 + y.2) % N) = κ n x.2 + κ n y.2
  rw [κ_modN hN, κ_add]
theorem red_sub (x y : PN) : red n (subP N x y) = sub (red n x) (red n y) := by
 refine ext' ?_ ?_
 ·show κ n ((x.1 + (N - y.1 % N)) % N) = κ n x.1 - κ n y.1
  rw [κ_modN hN, κ_add, κ_subN hN h0]; grind
 ·show κ n ((x.2 + (N - y.2 % N)) % N) = κ n x.2 - κ n y.2
  rw [κ_modN hN, κ_add, κ_subN hN h0]; grind
theorem red_mul (x y : PN) : red n (mulP N x y) = mul (red n x) (red n y) := by
 refine ext' ?_ ?_
 ·show κ n ((x.1 * y.1 + x.2 * (N - y.2 % N)) % N) = κ n x.1 * κ n y.1 - κ n x.2 * κ n y.2
  rw [κ_modN hN, κ_add, κ_mul, κ_mul, κ_subN hN h0]; grind
 ·show κ n ((x.1 * y.2 + x.2 * y.1) % N) = κ n x.1 * κ n y.2 + κ n x.2 * κ n y.1
  rw [κ_modN hN, κ_add, κ_mul, κ_mul]
end
def ltP (N : Nat) (x : PN) : Prop := x.1 < N ∧ x.2 < N
theorem lt_add {N : Nat} (h0 : 0 < N) (x y : PN) : ltP N (addP N x y) := ⟨Nat.mod_lt _ h0, Nat.mod_lt _ h0⟩
theorem lt_sub {N : Nat} (h0 : 0 < N) (x y : PN) : ltP N (subP N x y) := ⟨Nat.mod_lt _ h0, Nat.mod_lt _ h0⟩
theorem lt_mul {N : Nat} (h0 : 0 < N) (x y : PN) : ltP N (mulP N x y) := ⟨Nat.mod_lt _ h0, Nat.mod_lt _ h0⟩
def isz (x : PN) : Bool := Nat.beq (x.1 + x.2) 0
theorem isz_iff {n : Nat} [NeZero n] {x : PN} (h : ltP n x) : isz x = true ↔ red n x = zero := by
 constructor
 ·intro e
  have := Nat.eq_of_beq_eq_true e
  exact ext' (by show κ n x.1 = 0; rw [show x.1 = 0 by omega, κ_0]) (by show κ n x.2 = 0; rw [show x.2 = 0 by omega, κ_0])
 ·intro e
  have e1 : κ n x.1 = 0 := congrArg re e
  have e2 : κ n x.2 = 0 := congrArg im e
  rw [dvd_zero] at e1 e2
  have a1 := Nat.eq_zero_of_dvd_of_lt e1 h.1
  have a2 := Nat.eq_zero_of_dvd_of_lt e2 h.2
  show Nat.beq (x.1 + x.2) 0 = true
  rw [a1, a2]; rfl
structure St where
 g : Bool
 x : PN
 y : PN
 z : PN
def oneP : PN := (1, 0)
def zerP : PN := (0, 0)
def dblS (N : Nat) (S : St) : St :=
 let yy := mulP N S.y S.y
 let d0 := mulP N S.x yy
 let d1 := addP N d0 d0
 let d := addP N d1 d1
 let xx := mulP N S.x S.x
 let e := addP N (addP N xx xx) xx
 let X := subP N (mulP N e e) (addP N d d)
 let c0 := mulP N yy yy
 let c1 := addP N c0 c0
 let c2 := addP N c1 c1
 let yz := mulP N S.y S.z
 ⟨S.g, X, subP N (mulP N e (subP N d X)) (addP N c2 c2), addP N yz yz⟩
def plH (N : Nat) (S : St) (qx : PN) : PN := subP N (mulP N qx (mulP N S.z S.z)) S.x
def plR (N : Nat) (S : St) (qy : PN) : PN := subP N (mulP N qy (mulP N (mulP N S.z S.z) S.z)) S.y
def plG (N : Nat) (S : St) (h r : PN) : St :=
 let hh := mulP N h h
 let hhh := mulP N hh h
 let v := mulP N S.x hh
 let X := subP N (subP N (mulP N r r) hhh) (addP N v v)
 ⟨S.g, X, subP N (mulP N r (subP N v X)) (mulP N S.y hhh), mulP N S.z h⟩
def plsS (N : Nat) (S : St) (qx qy : PN) : St :=
 cond (isz S.z) ⟨S.g, qx, qy, oneP⟩
  (cond (isz (plH N S qx)) (cond (isz (plR N S qy)) ⟨false, zerP, zerP, zerP⟩ ⟨S.g, zerP, zerP, zerP⟩)
   (plG N S (plH N S qx) (plR N S qy)))
def force {α : Type} (T : St) (a : α) : α := cond (Nat.beq (T.x.1 + T.x.2 + T.y.1 + T.y.2 + T.z.1 + T.z.2) 0) (cond T.g a a) (cond T.g a a)
theorem force_eq {α : Type} (T : St) (a : α) : force T a = a := by
 unfold force
 cases Nat.beq (T.x.1 + T.x.2 + T.y.1 + T.y.2 + T.z.1 + T.z.2) 0 <;> cases T.g <;> rfl
def jgo (N : Nat) (qx qy : PN) (k : Nat) : Nat → St → St
 | 0, S => S
 | f + 1, S => (fun T => force T (jgo N qx qy k f T)) (cond (Nat.beq (k / 2 ^ f % 2) 1) (plsS N (dblS N S) qx qy) (dblS N S))
theorem jgo_s (N : Nat) (qx qy : PN) (k f : Nat) (S : St) : jgo N qx qy k (f + 1) S = jgo N qx qy k f (cond (Nat.beq (k / 2 ^ f % 2) 1) (plsS N (dblS N S) qx qy) (dblS N S)) := force_eq _ _
def nilS : St := ⟨true, zerP, zerP, zerP⟩
theorem jgo_g (N : Nat) (qx qy : PN) (k : Nat) : ∀ (f : Nat) (S : St), S.g = false → (jgo N qx qy k f S).g = false
 | 0, S, h => h
 | f + 1, S, h => by
  rw [jgo_s]
  refine jgo_g N qx qy k f _ ?_
  have hd : (dblS N S).g = false := h
  cases Nat.beq (k / 2 ^ f % 2) 1 with
  | false => exact hd
  | true =>
   show (plsS N (dblS N S) qx qy).g = false
   generalize dblS N S = U at hd
   unfold plsS
   cases isz U.z with
   | true => exact hd
   | false =>
    cases isz (plH N U qx) with
    | true => cases isz (plR N U qy) with
     | true => rfl
     | false => exact hd
    | false => exact hd
section
variable {n : Nat} [NeZero n]
theorem red_one : red n oneP = one := ext' κ_1 κ_0
theorem red_zero : red n zerP = zero := ext' κ_0 κ_0
structure Stands (S : St) (P : Pt n) : Prop where
 g : S.g = true
 x : ltP n S.x
 y : ltP n S.y
 z : ltP n S.z
 e : jp (red n S.x) (red n S.y) (red n S.z) = P
attribute [local irreducible] add mul sub neg zero one inv mulP addP subP
theorem dbl_ok (hp : P3 n) {b : K2 n} (h2 : No2 b) {S : St} {P : Pt n} (ho : Onc b P) (h : Stands S P) : Stands (dblS n S) (pa P P) := by
 have hn := Nat.dvd_refl n
 have h0 := hp.1.pos
 have he := h.e
 rw [← he] at ho
 have ht := jp_twice hp h2 ho
 rw [he] at ht
 refine ⟨h.g, lt_sub h0 _ _, lt_sub h0 _ _, lt_add h0 _ _, ?_⟩
 rw [← ht]
 simp only [dblS, red_sub hn h0, red_mul hn h0, red_add hn, tX, tY, tZ, td, td1, td0, te, tc]
theorem pls_ok (hp : P3 n) {S : St} {P : Pt n} {qx qy : PN} (hqx : ltP n qx) (hqy : ltP n qy) (h : Stands S P) (hb : (plsS n S qx qy).g = true) :
  Stands (plsS n S qx qy) (pa P (some (red n qx, red n qy))) := by
 have hn := Nat.dvd_refl n
 have h0 := hp.1.pos
 have h1 := hp.1.1
 have he := h.e
 have z0 : ltP n zerP := ⟨h0, h0⟩
 have eh : red n (plH n S qx) = pH (red n S.x) (red n S.z) (red n qx) := by
  simp only [plH, red_sub hn h0, red_mul hn h0, pH]
 have er : red n (plR n S qy) = pR (red n S.y) (red n S.z) (red n qy) := by
  simp only [plR, red_sub hn h0, red_mul hn h0, pR]
 have lh : ltP n (plH n S qx) := lt_sub h0 _ _
 have lr : ltP n (plR n S qy) := lt_sub h0 _ _
 unfold plsS at hb ⊢
 generalize plH n S qx = H at *
 generalize plR n S qy = R at *
 cases hz : isz S.z with
 | true =>
  refine ⟨h.g, hqx, hqy, ⟨h1, h0⟩, ?_⟩
  show jp (red n qx) (red n qy) (red n oneP) = _
  rw [red_one, one_sq hp, ← he, jp_z ((isz_iff h.z).1 hz)]
  rfl
 | false =>
  rw [hz] at hb
  have hz0 : red n S.z ≠ zero := fun e => by rw [(isz_iff h.z).2 e] at hz; cases hz
  cases hi : isz H with
  | true =>
   rw [hi] at hb
   have zh := (isz_iff lh).1 hi
   cases hj : isz R with
   | true => rw [hj] at hb; cases hb
   | false =>
    have zr : red n R ≠ zero := fun e => by rw [(isz_iff lr).2 e] at hj; cases hj
    rw [eh] at zh
    rw [er] at zr
    have := jp_plus_0 hp hz0 zh zr
    rw [he] at this
    rw [this]
    refine ⟨h.g, z0, z0, z0, ?_⟩
    show jp (red n zerP) (red n zerP) (red n zerP) = none
    rw [red_zero, jp_0]
  | false =>
   have zh : red n H ≠ zero := fun e => by rw [(isz_iff lh).2 e] at hi; cases hi
   have zh' := zh
   rw [eh] at zh'
   have := jp_plus hp (y := red n S.y) (qy := red n qy) hz0 zh'
   rw [he, ← eh, ← er] at this
   refine ⟨h.g, lt_sub h0 _ _, lt_sub h0 _ _, lt_mul h0 _ _, ?_⟩
   rw [← this]
   simp only [cond_false, plG, red_sub hn h0, red_mul hn h0, red_add hn, pX, pY, pV]
theorem jgo_ok (hp : P3 n) {b : K2 n} (h2 : No2 b) {qx qy : PN} (hqx : ltP n qx) (hqy : ltP n qy) (ho : Onc b (some (red n qx, red n qy))) (k : Nat) :
  ∀ (f : Nat) (S : St) (m : Nat), Stands S (tim (some (red n qx, red n qy)) m) → (jgo n qx qy k f S).g = true → Stands (jgo n qx qy k f S) (tim (some (red n qx, red n qy)) (m * 2 ^ f + k % 2 ^ f))
 | 0, S, m, h, _ => by
  rw [Nat.pow_zero, Nat.mod_one, Nat.mul_one, Nat.add_zero]; exact h
 | f + 1, S, m, h, hb => by
  have hd := dbl_ok hp h2 (Onc_tim hp ho m) h
  rw [← tim_add hp h2 ho] at hd
  have hk : k % 2 ^ (f + 1) = 2 ^ f * (k / 2 ^ f % 2) + k % 2 ^ f := by rw [Nat.pow_succ, Nat.mod_mul, Nat.add_comm]
  rw [jgo_s] at hb ⊢
  rcases Nat.mod_two_eq_zero_or_one (k / 2 ^ f) with h1 | h1
  ·rw [h1] at hb hk ⊢
   have := jgo_ok hp h2 hqx hqy ho k f _ _ hd hb
   rwa [show (m + m) * 2 ^ f + k % 2 ^ f = m * 2 ^ (f + 1) + k % 2 ^ (f + 1) by rw [hk, Nat.pow_succ, Nat.mul_zero, Nat.zero_add, Nat.add_mul, Nat.mul_comm (2 ^ f) 2, ← Nat.mul_assoc, Nat.mul_two, Nat.add_mul]] at this
  ·rw [h1] at hb hk ⊢
   have hg : (plsS n (dblS n S) qx qy).g = true := by
    cases hq : (plsS n (dblS n S) qx qy).g with
    | true => rfl
    | false =>
     have := jgo_g n qx qy k f _ hq
     rw [show cond (Nat.beq 1 1) (plsS n (dblS n S) qx qy) (dblS n S) = plsS n (dblS n S) qx qy from rfl, this] at hb
     cases hb
   have hs := pls_ok hp hqx hqy hd hg
   have := jgo_ok hp h2 hqx hqy ho k f _ (m + m + 1) hs hb
   rwa [show (m + m + 1) * 2 ^ f + k % 2 ^ f = m * 2 ^ (f + 1) + k % 2 ^ (f + 1) by rw [hk, Nat.pow_succ, Nat.mul_one, Nat.add_mul, Nat.one_mul, Nat.add_assoc, Nat.mul_comm (2 ^ f) 2, ← Nat.mul_assoc, Nat.mul_two, Nat.add_mul]] at this
theorem Stands.nil (hp : P3 n) : Stands nilS (none : Pt n) := by
 have z0 : ltP n zerP := ⟨hp.1.pos, hp.1.pos⟩
 refine ⟨rfl, z0, z0, z0, ?_⟩
 show jp (red n zerP) (red n zerP) (red n zerP) = none
 rw [red_zero, jp_0]
theorem tim_jgo (hp : P3 n) {b : K2 n} (h2 : No2 b) {qx qy : PN} (hqx : ltP n qx) (hqy : ltP n qy) (ho : Onc b (some (red n qx, red n qy))) {k f : Nat} (hk : k < 2 ^ f) (h : (jgo n qx qy k f nilS).g = true) :
  Stands (jgo n qx qy k f nilS) (tim (some (red n qx, red n qy)) k) := by
 have := jgo_ok hp h2 hqx hqy ho k f nilS 0 (Stands.nil hp) h
 rwa [Nat.zero_mul, Nat.zero_add, Nat.mod_eq_of_lt hk] at this
end
end K2
end Go.Proofs.YtbpmbdlgmmabcaaGreat.L.Kf
namespace Go.Proofs.YtbpmbdlgmmabcaaGreat.L
open Go Go.Proofs
set_option maxRecDepth 100000
attribute [local irreducible] Code.wp wpList Af bodyPost L.Go
open Num
attribute [local simp] D_len
def p : Nat := 4002409555221667393417789825735904156556882819939007885332058136124031650490837864442687629129015664037894272559787
theorem p_prime : Pr.Prime p := Pr.prime_p
theorem p_pos : 0 < p := by decide +kernel
theorem p_lt : p < W ^ 6 := by decide +kernel
theorem p2_lt : 4 * p < W ^ 6 := by decide +kernel
theorem p_lit : ([13402431016077863595, 2210141511517208575, 7435674573564081700, 7239337960414712511, 5412103778470702295, 1873798617647539866] : List Nat) = D 6 p := by decide +kernel
attribute [irreducible] p
theorem mod_p (a : Nat) : a % p < W ^ 6 := Nat.lt_trans (Nat.mod_lt _ p_pos) p_lt
theorem D6_eq {a b : Nat} (ha : a < W ^ 6) (hb : b < W ^ 6) : (D 6 a = D 6 b) = (a = b) := by
 refine propext ⟨fun h => ?_, fun h => by rw [h]⟩
 have := D_inj h
 rwa [Nat.mod_eq_of_lt ha, Nat.mod_eq_of_lt hb] at this
theorem y_35 {a b : Prop} (k : b) (h : Rm b → a := by intro k;refine st_alloc (v := LV .u64 (List.replicate 6 0)) (by rfl) (by rfl) ?_;exact k.h) : a := h ⟨k⟩
theorem y_36 {a b : Prop} (k : b) (h : Rm b → a := by intro k;refine st_buildP (kk := .u64) (vs := [13402431016077863595, 2210141511517208575, 7435674573564081700, 7239337960414712511, 5412103778470702295, 1873798617647539866]) (by rfl) (by rfl) (by rfl) (by rfl) (by rfl) (by rfl) (by rfl) (by rfl) ?_;exact k.h) : a := h ⟨k⟩
theorem y_191 {a b : Prop} (k : b) (h : Rm b → a := by intro k;(first|refine y_36 ?_|refine Z03 ?_|refine Z04 ?_|refine Z05 ?_|refine Z06 ?_|refine Z07 ?_|refine Z08 ?_|refine Z09 ?_|refine Z10 ?_|refine Z11 ?_|refine Z12 ?_|refine Z13 ?_|refine Z14 ?_|refine Z29 ?_|refine Z30 ?_|refine Z31 ?_|refine Z32 ?_|refine Z65 ?_);exact k.h) : a := h ⟨k⟩
theorem pP_spec : Spec Tryz.prog 57 [] NoPre [] (IsV (LV .u64 (D 6 p))) := by
 refine mk_spec Tryz.func57 rfl rfl rfl fun w _ => ?_
 repeat (first|(refine y_35 ?_;intro _)|refine y_191 ?_|refine Z82 fun _ => ?_)
 refine Zec fun _ hw => post_of hw SubW.nil ⟨?_, rfl⟩
 rw [← p_lit]; rfl
theorem y_37 {a b : Prop} (k : b) (h : Rm b → a := by intro k;refine st_callV (by rfl) (by rfl) (by rfl) (pP_spec) (fun _ _ => trivial) (by rfl) ?_;exact k.h) : a := h ⟨k⟩
theorem y_38 {a b : Prop} (k : b) (h : Rm b → a := by intro k;(first|refine Z01 ?_|refine Z02 ?_|refine Z15 ?_|refine Z17 ?_|refine Z18 ?_|refine Z19 ?_|refine Z22 ?_|refine Z23 ?_|refine Z70 ?_);exact k.h) : a := h ⟨k⟩
theorem y_39 {a b : Prop} (k : b) (h : Rm b → a := by intro k;(first|refine Z01 ?_|refine Z02 ?_|refine Z03 ?_|refine Z04 ?_|refine Z05 ?_|refine Z06 ?_|refine Z07 ?_|refine Z08 ?_|refine Z09 ?_|refine Z10 ?_|refine Z11 ?_|refine Z12 ?_|refine Z13 ?_|refine Z14 ?_|refine Z15 ?_|refine Z17 ?_|refine Z18 ?_|refine Z19 ?_|refine Z22 ?_|refine Z23 ?_|refine Z24 ?_|refine Z25 ?_|refine Z26 ?_|refine Z27 ?_|refine Z28 ?_|refine Z29 ?_|refine Z30 ?_|refine Z31 ?_|refine Z32 ?_|refine Z67 ?_|refine Z70 ?_);exact k.h) : a := h ⟨k⟩
theorem y_192 {a b : Prop} (k : b) (h : Rm b → a := by intro k;(first|refine y_37 ?_|refine Z01 ?_|refine Z02 ?_|refine Z03 ?_|refine Z04 ?_|refine Z05 ?_|refine Z06 ?_|refine Z07 ?_|refine Z08 ?_|refine Z09 ?_|refine Z10 ?_|refine Z11 ?_|refine Z12 ?_|refine Z13 ?_|refine Z14 ?_|refine Z15 ?_|refine Z17 ?_|refine Z18 ?_|refine Z19 ?_|refine Z22 ?_|refine Z23 ?_|refine Z24 ?_|refine Z25 ?_|refine Z26 ?_|refine Z27 ?_|refine Z28 ?_|refine Z29 ?_|refine Z30 ?_|refine Z31 ?_|refine Z32 ?_|refine Z67 ?_|refine Z70 ?_);exact k.h) : a := h ⟨k⟩
theorem y_193 {a b : Prop} (k : b) (h : Rm b → a := by intro k;(first|refine y_30 ?_|refine Z01 ?_|refine Z02 ?_|refine Z03 ?_|refine Z04 ?_|refine Z05 ?_|refine Z06 ?_|refine Z07 ?_|refine Z08 ?_|refine Z09 ?_|refine Z10 ?_|refine Z11 ?_|refine Z12 ?_|refine Z13 ?_|refine Z14 ?_|refine Z15 ?_|refine Z17 ?_|refine Z18 ?_|refine Z19 ?_|refine Z22 ?_|refine Z23 ?_|refine Z24 ?_|refine Z25 ?_|refine Z26 ?_|refine Z27 ?_|refine Z28 ?_|refine Z29 ?_|refine Z30 ?_|refine Z31 ?_|refine Z32 ?_|refine Z67 ?_|refine Z70 ?_);exact k.h) : a := h ⟨k⟩
theorem y_194 {a b : Prop} (k : b) (h : Rm b → a := by intro k;(first|refine y_25 ?_|refine Z01 ?_|refine Z02 ?_|refine Z03 ?_|refine Z04 ?_|refine Z05 ?_|refine Z06 ?_|refine Z07 ?_|refine Z08 ?_|refine Z09 ?_|refine Z10 ?_|refine Z11 ?_|refine Z12 ?_|refine Z13 ?_|refine Z14 ?_|refine Z15 ?_|refine Z17 ?_|refine Z18 ?_|refine Z19 ?_|refine Z22 ?_|refine Z23 ?_|refine Z24 ?_|refine Z25 ?_|refine Z26 ?_|refine Z27 ?_|refine Z28 ?_|refine Z29 ?_|refine Z30 ?_|refine Z31 ?_|refine Z32 ?_|refine Z67 ?_|refine Z70 ?_);exact k.h) : a := h ⟨k⟩
set_option maxHeartbeats 2000000 in
theorem pless_spec {a c : Nat} (ha : a < W ^ 6) (hc : c ≤ 1) : Spec Tryz.prog 111 [LV .u64 (D 6 a), N .u64 c] NoPre [] (IsV (LV .u64 (D 6 (lessv 6 p a c)))) := by
 refine mk_spec Tryz.func111 rfl rfl rfl fun w _ => ?_
 have hla := D_len 6 a
 have hlr := D_len 6 p
 repeat (first|(refine y_35 ?_;intro _)|refine y_192 ?_|refine Z81 fun _ => ?_|refine Z82 fun _ => ?_)
 rename_i b2 b4 b5 b6
 refine st_loop (ι := Nat) (fun i => i ≤ 6) (fun i => [(1, N .u64 c), (2, pt b2 0), (4, pt b4 0), (5, pt b5 0), (6, pt b6 0), (7, N .u64 (crun subg (D 6 a) (D 6 p) i).2), (10, N .i64 i)])
  (fun i => [.blk b6 (LV .u64 ((crun subg (D 6 a) (D 6 p) i).1 ++ List.replicate (6 - i) 0)) 27, .blk b2 (LV .u64 (D 6 a)) 27, .blk b5 (LV .u64 (D 6 p)) 27, .blk b4 (LV .u64 (List.replicate 6 0)) 27]) (fun i => 6 - i) 0 (by omega) (by rw [crun_0]; exact (by repeat (first|apply subL.nil|refine subL.cons (by rfl) ?_))) (by rw [crun_0]; exact (by repeat (first|apply SubW.nil|refine y_8 ?_))) ?_
 intro i hi
 have hc1 := crun_subD_le 6 a p i
 have hl := crun_len subg (D 6 a) (D 6 p) i
 have hol : ((crun subg (D 6 a) (D 6 p) i).1 ++ List.replicate (6 - i) 0).length = 6 := by simp; omega
 by_cases h : i < 6
 ·repeat (first|refine y_193 ?_|refine Z81 fun _ => ?_|refine Z82 fun _ => ?_)
  refine st_draw1 (by rfl) ?_
  repeat (first|(refine Zqf (by intro _ _ _;(first|refine st_callX (by rfl) (by rfl) (by rfl) (sub64X _ _ _ hc1) (by rfl) ?_|refine y_38 ?_);exact Zq) ?_)|refine y_257 ?_)
  refine Zq0 ?_ (by kernel_rfl)
  rw [← subg_fst, ← subg_snd, ← crun_snd, crun_new subg (D 6 a) (D 6 p) i 6 h]
  repeat (first|refine y_39 ?_|refine Z81 fun _ => ?_|refine Z82 fun _ => ?_)
  exact st_round (i + 1) (by omega) (by omega) (by repeat (first|apply subL.nil|refine subL.cons (by rfl) ?_)) (by repeat (first|apply SubW.nil|refine y_8 ?_))
 ·have hie : i = 6 := by omega
  subst hie
  rw [crun_subD ha p_lt] at *
  simp only at *
  have he := lessv_of (k := 6) (A := a) p_lt hc
  repeat (first|refine y_194 ?_|refine Z81 fun _ => ?_|refine Z82 fun _ => ?_)
  refine st_cond (by rfl) (fun hb => ?_) (fun hb => ?_)
  ·rw [if_pos hb] at he
   repeat (first|refine y_39 ?_|refine Z81 fun _ => ?_|refine Z82 fun _ => ?_)
   refine Zec fun _ hw => post_of hw SubW.nil ⟨?_, rfl⟩
   rw [he]
  ·rw [if_neg hb] at he
   have hl2 := D_len 6 (sbn 6 a p)
   repeat (first|refine y_39 ?_|refine Z81 fun _ => ?_|refine Z82 fun _ => ?_)
   refine Zec fun _ hw => post_of hw SubW.nil ⟨?_, rfl⟩
   rw [Nat.sub_self, List.replicate_zero, List.append_nil, he]
theorem y_40 {a b : Prop} (k : b) (h : Rm b → a := by intro k;(first|refine Z03 ?_|refine Z04 ?_|refine Z05 ?_|refine Z06 ?_|refine Z07 ?_|refine Z08 ?_|refine Z09 ?_|refine Z10 ?_|refine Z11 ?_|refine Z12 ?_|refine Z13 ?_|refine Z14 ?_|refine Z24 ?_|refine Z25 ?_|refine Z26 ?_|refine Z27 ?_|refine Z28 ?_|refine Z29 ?_|refine Z30 ?_|refine Z31 ?_|refine Z32 ?_|refine Z67 ?_|refine Z77 ?_|refine Z78 ?_|refine Z79 ?_);exact k.h) : a := h ⟨k⟩
theorem preduce_spec {a : Nat} (ha : a < W ^ 6) : Spec Tryz.prog 73 [LV .u64 (D 6 a)] NoPre [] (IsV (LV .u64 (D 6 (a % p)))) := by
 refine mk_spec Tryz.func73 rfl rfl rfl fun w _ => ?_
 have hla := D_len 6 a
 repeat (first|(refine y_35 ?_;intro _)|refine y_40 ?_|refine Z81 fun _ => ?_|refine Z82 fun _ => ?_)
 rename_i b1 b2
 refine st_loop (ι := Nat) (fun x => x < W ^ 6 ∧ x % p = a % p) (fun _ => [(1, pt b1 0), (2, pt b2 0)])
  (fun x => [.blk b1 (LV .u64 (D 6 x)) 27, .blk b2 (LV .u64 (List.replicate 6 0)) 27]) (fun x => x) a ⟨ha, rfl⟩ (by repeat (first|apply subL.nil|refine subL.cons (by rfl) ?_)) (by repeat (first|apply SubW.nil|refine y_8 ?_)) ?_
 rintro x ⟨hx, hxa⟩
 have hlx := D_len 6 x
 by_cases h : x < p
 ·have hv : lessv 6 p x 0 = x := by unfold lessv; rw [if_pos (by omega)]
  repeat (first|(refine y_35 ?_;intro _)|(refine st_callV (by rfl) (by rfl) (by rfl) (pless_spec hx (Nat.zero_le 1)) (fun _ _ => trivial) (by rfl) ?_; rw [hv])|rw [decide_eq_true (p := D 6 x = D 6 x) rfl]|refine y_40 ?_|refine Z81 fun _ => ?_|refine Z82 fun _ => ?_)
  refine Zec fun _ hw => post_of hw SubW.nil ⟨?_, rfl⟩
  rw [← hxa, Nat.mod_eq_of_lt h]
 ·have hv : lessv 6 p x 0 = x - p := by unfold lessv; rw [if_neg (by omega), Nat.zero_mul, Nat.add_zero]
  have hl2 := D_len 6 (x - p)
  have hrp := p_pos
  have hne : decide (D 6 (x - p) = D 6 x) = false := decide_eq_false (by rw [D6_eq (by omega) hx]; omega)
  repeat (first|(refine y_35 ?_;intro _)|(refine st_callV (by rfl) (by rfl) (by rfl) (pless_spec hx (Nat.zero_le 1)) (fun _ _ => trivial) (by rfl) ?_; rw [hv])|rw [hne]|refine y_40 ?_|refine Z81 fun _ => ?_|refine Z82 fun _ => ?_)
  exact st_round (x - p) ⟨by omega, by rw [← hxa, ← Nat.mod_eq_sub_mod (by omega)]⟩ (by omega) (by repeat (first|apply subL.nil|refine subL.cons (by rfl) ?_)) (by repeat (first|apply SubW.nil|refine y_8 ?_))
theorem y_41 {S1 a b : Prop} (s1 : S1) (k : b) (h : S1 → Rm b → a := by intro s1 k;refine Zqp (by intro _ _ _;refine st_callV (by rfl) (by rfl) (by rfl) s1 (fun _ _ => trivial) (by rfl) ?_;exact Zq) ?_;exact k.h) : a := h s1 ⟨k⟩
set_option maxHeartbeats 2000000 in
theorem padd_spec {a b : Nat} (ha : a < W ^ 6) (hb : b < W ^ 6) : Spec Tryz.prog 63 [LV .u64 (D 6 a), LV .u64 (D 6 b)] NoPre [] (IsV (LV .u64 (D 6 ((a + b) % p)))) := by
 refine mk_spec Tryz.func63 rfl rfl rfl fun w _ => ?_
 have hl0 := fun x => D_len 6 x
 have hm : (a % p + b % p) % p = (a + b) % p := (Nat.add_mod _ _ _).symm
 have hA := Nat.mod_lt a p_pos
 have hB := Nat.mod_lt b p_pos
 repeat (first|(refine y_35 ?_;intro _)|refine y_39 ?_|refine Z81 fun _ => ?_|refine Z82 fun _ => ?_)
 refine st_draw1 (by rfl) ?_
 repeat (first|(refine Zqf (by intro _ _ _;(first|refine y_38 ?_);exact Zq) ?_)|refine y_41 (preduce_spec ha) ?_|refine y_41 (preduce_spec hb) ?_|refine y_257 ?_)
 refine Zq0 ?_ (by kernel_rfl)
 generalize a % p = A at *
 generalize b % p = B at *
 repeat (first|refine y_39 ?_|refine Z81 fun _ => ?_|refine Z82 fun _ => ?_)
 rename_i b2 b3 b4
 refine st_loop (ι := Nat) (fun i => i ≤ 6) (fun i => [(2, pt b2 0), (3, pt b3 0), (4, pt b4 0), (5, N .u64 (crun addg (D 6 A) (D 6 B) i).2), (11, N .i64 i)])
  (fun i => [.blk b2 (LV .u64 ((crun addg (D 6 A) (D 6 B) i).1 ++ (D 6 A).drop i)) 27, .blk b3 (LV .u64 (D 6 B)) 27, .blk b4 (LV .u64 (List.replicate 6 0)) 27]) (fun i => 6 - i) 0 (by omega) (by rw [crun_0]; exact (by repeat (first|apply subL.nil|refine subL.cons (by rfl) ?_))) (by rw [crun_0]; exact (by repeat (first|apply SubW.nil|refine y_8 ?_))) ?_
 intro i hi
 have hc1 := crun_addD_le 6 A B i
 have hl := crun_len addg (D 6 A) (D 6 B) i
 have hla := hl0 A
 have hol : ((crun addg (D 6 A) (D 6 B) i).1 ++ (D 6 A).drop i).length = 6 := by simp; omega
 have hdg := drop_get (xs := D 6 A) hl
 by_cases h : i < 6
 ·repeat (first|refine y_193 ?_|refine Z81 fun _ => ?_|refine Z82 fun _ => ?_)
  refine st_draw1 (by rfl) ?_
  repeat (first|(refine Zqf (by intro _ _ _;(first|refine st_callX (by rfl) (by rfl) (by rfl) (add64X _ _ _ hc1) (by rfl) ?_|refine y_38 ?_);exact Zq) ?_)|refine y_257 ?_)
  refine Zq0 ?_ (by kernel_rfl)
  rw [hdg, ← addg_fst, ← addg_snd, ← crun_snd, crun_drop addg (D 6 A) (D 6 B) i (by omega)]
  repeat (first|refine y_39 ?_|refine Z81 fun _ => ?_|refine Z82 fun _ => ?_)
  exact st_round (i + 1) (by omega) (by omega) (by repeat (first|apply subL.nil|refine subL.cons (by rfl) ?_)) (by repeat (first|apply SubW.nil|refine y_8 ?_))
 ·have hie : i = 6 := by omega
  subst hie
  have hrl := p_lt
  have hdr : (D 6 A).drop 6 = [] := List.drop_eq_nil_of_le (by omega)
  rw [crun_addD (by omega) (by omega), hdr, List.append_nil] at *
  simp only at *
  have hS : (A + B) / W ^ 6 ≤ 1 := by
   have : (A + B) / W ^ 6 < 2 := Nat.div_lt_of_lt_mul (by omega)
   omega
  have he := lessv_sum (k := 6) (m := p) (S := A + B) (by omega) p_lt
  have hD : D 6 (A + B) = D 6 ((A + B) % W ^ 6) := (D_mod _ _).symm
  rw [hD]
  repeat (first|refine y_25 ?_|(refine st_callV (by rfl) (by rfl) (by rfl) (pless_spec (Nat.mod_lt _ (W_pow_pos 6)) hS) (fun _ _ => trivial) (by rfl) ?_; rw [he])|refine y_39 ?_|refine Z81 fun _ => ?_|refine Z82 fun _ => ?_)
  refine Zec fun _ hw => post_of hw SubW.nil ⟨?_, rfl⟩
  rw [hm]
end Go.Proofs.YtbpmbdlgmmabcaaGreat.L
namespace Go.Proofs.YtbpmbdlgmmabcaaGreat.L
open Go Go.Proofs
set_option maxRecDepth 100000
attribute [local irreducible] Code.wp wpList Af bodyPost L.Go
open Num
attribute [local simp] D_len
theorem mont_inner {T x M A VP V' Pk w c c' mk : Nat} (h1 : V' + A * Pk = VP + A * w) (h2 : w + 18446744073709551616 * c' = Pk + x * mk + c) (h3 : VP + A * c = T + x * (M % A)) :
  V' + A * 18446744073709551616 * c' = T + x * (M % A + A * mk) := by
 have h4 : A * (w + 18446744073709551616 * c') = A * (Pk + x * mk + c) := by rw [h2]
 rw [Nat.mul_add, Nat.mul_add, Nat.mul_add, Nat.mul_left_comm A x mk] at h4
 rw [Nat.mul_assoc, Nat.mul_add x]
 omega
theorem mont_top {P : List Nat} {c Z : Nat} (hl : P.length = 8) (hP : Lt 18446744073709551616 P) (hV : V P + W ^ 6 * c = Z) (hZ : Z < W ^ 8) :
  (P.set 6 ((P.getD 6 0 + c) % 18446744073709551616)).set 7 ((P.getD 7 0 + (P.getD 6 0 + c) / 18446744073709551616) % 18446744073709551616) = D 8 Z := by
 match P, hl with
 | [a0, a1, a2, a3, a4, a5, a6, a7], _ =>
  have h6 := hP.getD (by decide) 6
  have h7 := hP.getD (by decide) 7
  simp only [List.getD_cons_succ, List.getD_cons_zero, List.set_cons_succ, List.set_cons_zero] at h6 h7 ⊢
  have e : V [a0, a1, a2, a3, a4, a5, a6, a7] = V [a0, a1, a2, a3, a4, a5] + W ^ 6 * (a6 + W * a7) := by
   have := V_append [a0, a1, a2, a3, a4, a5] [a6, a7]
   simp only [List.cons_append, List.nil_append, List.length_cons, List.length_nil] at this
   rw [this, show V [a6, a7] = a6 + W * a7 by rw [V_def, val_cons, ← V_def, V_one]]
  have hlo : Lt 18446744073709551616 [a0, a1, a2, a3, a4, a5] := fun y hy => hP y (by simp at hy; rcases hy with h | h | h | h | h | h <;> simp [h])
  have hW : W = 18446744073709551616 := rfl
  have hs : a6 + c + W * a7 < W * W := by
   have h8 : W ^ 8 = W ^ 6 * (W * W) := by rw [show 8 = 6 + 2 from rfl, Nat.pow_add, Nat.pow_two]
   have h9 : W ^ 6 * (a6 + c + W * a7) < W ^ 6 * (W * W) := by
    rw [← h8]
    have : W ^ 6 * (a6 + c + W * a7) = W ^ 6 * (a6 + W * a7) + W ^ 6 * c := by rw [← Nat.mul_add]; congr 1; omega
    omega
   exact Nat.lt_of_mul_lt_mul_left h9
  have h7' : a7 + (a6 + c) / 18446744073709551616 < 18446744073709551616 := by
   rw [hW] at hs; omega
  rw [Nat.mod_eq_of_lt h7']
  refine D_of_V (fun y hy => ?_) rfl ?_
  ·simp at hy
   rcases hy with rfl | rfl | rfl | rfl | rfl | rfl | rfl | rfl
   ·exact hP _ (by simp)
   ·exact hP _ (by simp)
   ·exact hP _ (by simp)
   ·exact hP _ (by simp)
   ·exact hP _ (by simp)
   ·exact hP _ (by simp)
   ·exact Nat.mod_lt _ (by decide)
   ·exact h7'
  ·have e2 : V [a0, a1, a2, a3, a4, a5, (a6 + c) % 18446744073709551616, a7 + (a6 + c) / 18446744073709551616] = V [a0, a1, a2, a3, a4, a5] + W ^ 6 * ((a6 + c) % 18446744073709551616 + W * (a7 + (a6 + c) / 18446744073709551616)) := by
    have := V_append [a0, a1, a2, a3, a4, a5] [(a6 + c) % 18446744073709551616, a7 + (a6 + c) / 18446744073709551616]
    simp only [List.cons_append, List.nil_append, List.length_cons, List.length_nil] at this
    rw [this, show V [(a6 + c) % 18446744073709551616, a7 + (a6 + c) / 18446744073709551616] = (a6 + c) % 18446744073709551616 + W * (a7 + (a6 + c) / 18446744073709551616) by rw [V_def, val_cons, ← V_def, V_one]]
   rw [e2, ← hV, e, Nat.add_assoc, ← Nat.mul_add]
   congr 2
   rw [hW]; omega
theorem D8_shift (X : Nat) (h : X < W ^ 8) : (D 8 X).drop 1 ++ [0] = D 8 (X / W) := by
 refine D_of_V (fun y hy => ?_) (by simp) ?_
 ·rcases List.mem_append.1 hy with hy | hy
  ·exact D_lt _ _ y (List.mem_of_mem_drop hy)
  ·simp at hy; subst hy; decide
 ·rw [V_append, V_drop (D_lt _ _), V_one, Nat.mul_zero, Nat.add_zero, V_D' h, Nat.pow_one]
theorem y_42 {a b : Prop} (k : b) (h : Rm b → a := by intro k;(first|refine Z01 ?_|refine Z02 ?_|refine Z03 ?_|refine Z04 ?_|refine Z05 ?_|refine Z06 ?_|refine Z07 ?_|refine Z08 ?_|refine Z09 ?_|refine Z10 ?_|refine Z11 ?_|refine Z12 ?_|refine Z13 ?_|refine Z14 ?_|refine Z15 ?_|refine Z16 ?_|refine Z17 ?_|refine Z18 ?_|refine Z19 ?_|refine Z22 ?_|refine Z23 ?_|refine Z24 ?_|refine Z25 ?_|refine Z26 ?_|refine Z27 ?_|refine Z28 ?_|refine Z29 ?_|refine Z30 ?_|refine Z31 ?_|refine Z32 ?_|refine Z33 ?_|refine Z46 ?_|refine Z47 ?_|refine Z62 ?_|refine Z63 ?_|refine Z64 ?_|refine Z67 ?_|refine Z70 ?_|refine Z71 ?_|refine Z75 ?_|refine Z76 ?_);exact k.h) : a := h ⟨k⟩
theorem y_43 {a b : Prop} (k : b) (h : Rm b → a := by intro k;(first|refine Z01 ?_|refine Z02 ?_|refine Z15 ?_|refine Z16 ?_|refine Z17 ?_|refine Z18 ?_|refine Z19 ?_|refine Z22 ?_|refine Z23 ?_|refine Z33 ?_|refine Z46 ?_|refine Z47 ?_|refine Z62 ?_|refine Z63 ?_|refine Z64 ?_|refine Z70 ?_|refine Z71 ?_);exact k.h) : a := h ⟨k⟩
theorem y_44 {a b : Prop} (k : b) (h : Rm b → a := by intro k;refine st_callX (by rfl) (by rfl) (by rfl) (add64X0 _ _) (by rfl) ?_;exact k.h) : a := h ⟨k⟩
theorem y_195 {a b : Prop} (k : b) (h : Rm b → a := by intro k;refine Zqf (by intro _ _ _;(first|refine y_43 ?_);exact Zq) ?_;exact k.h) : a := h ⟨k⟩
theorem y_258 {a b : Prop} (k : b) (h : Rm b → a := by intro k;(first|refine y_195 ?_|refine y_188 ?_|refine y_185 ?_|refine y_189 ?_|refine Zqn ?_);exact k.h) : a := h ⟨k⟩
set_option maxHeartbeats 4000000 in
theorem pstep_spec (x T M sh bt bm : Nat) (hx : x < 18446744073709551616) (hM : M < W ^ 6) (hT : T + x * M < W ^ 8) (hs : sh ≤ 1) :
  Spec Tryz.prog 137 [N .u64 x, pt bm 0, N .i64 sh, pt bt 0] NoPre [.blk bt (LV .u64 (D 8 T)) 123, .blk bm (LV .u64 (D 6 M)) 27]
   (fun v Wr => v = .tuple #[] ∧ Wr = [.blk bt (LV .u64 (D 8 ((T + x * M) / W ^ sh))) 123, .blk bm (LV .u64 (D 6 M)) 27]) := by
 refine mk_spec Tryz.func137 rfl rfl rfl fun w _ => ?_
 have hlm := D_len 6 M
 have hTW : T < W ^ 8 := by omega
 repeat (first|refine y_42 ?_)
 refine st_loop (ι := Nat × List Nat × Nat) (fun q => q.1 ≤ 6 ∧ q.2.1.length = 8 ∧ Lt 18446744073709551616 q.2.1 ∧ q.2.2 < 18446744073709551616 ∧ V q.2.1 + W ^ q.1 * q.2.2 = T + x * (M % W ^ q.1))
  (fun q => [(0, N .u64 x), (2, N .i64 sh), (3, pt bt 0), (7, N .u64 q.2.2), (14, pt bm 0), (15, N .i64 q.1)])
  (fun q => [.blk bt (LV .u64 q.2.1) 123, .blk bm (LV .u64 (D 6 M)) 27]) (fun q => 6 - q.1) (0, D 8 T, 0) ⟨by simp, D_len _ _, D_lt _ _, by simp, by simp only [Nat.pow_zero, Nat.mod_one, Nat.mul_zero, Nat.add_zero]; exact V_D' hTW⟩ (by repeat (first|apply subL.nil|refine subL.cons (by rfl) ?_)) (by repeat (first|apply SubW.nil|refine y_8 ?_)) ?_
 rintro ⟨k, P, c⟩ ⟨hk, hPl, hPb, hc, hP⟩
 simp only at hk hPl hPb hc hP ⊢
 by_cases hk' : k < 6
 ·have hyk := (D_lt 6 M).getD (by decide) k
  have hyv := D_getD' hM k
  have hpb := hPb.getD (by decide) k
  obtain ⟨hw1, hw2⟩ := mul_word hpb hc (mul_bound hx hyk)
  repeat (first|refine y_30 ?_|refine Z01 ?_|refine Z02 ?_|refine Z03 ?_|refine Z04 ?_|refine Z05 ?_|refine Z06 ?_|refine Z07 ?_|refine Z08 ?_|refine Z09 ?_|refine Z10 ?_|refine Z11 ?_|refine Z12 ?_|refine Z13 ?_|refine Z14 ?_|refine Z15 ?_|refine Z16 ?_|refine Z17 ?_|refine Z18 ?_|refine Z19 ?_|refine Z22 ?_|refine Z23 ?_|refine Z24 ?_|refine Z25 ?_|refine Z26 ?_|refine Z27 ?_|refine Z28 ?_|refine Z29 ?_|refine Z30 ?_|refine Z31 ?_|refine Z32 ?_|refine Z33 ?_|refine Z46 ?_|refine Z47 ?_|refine Z62 ?_|refine Z63 ?_|refine Z64 ?_|refine Z67 ?_|refine Z70 ?_|refine Z71 ?_|refine Z75 ?_|refine Z76 ?_)
  refine st_draw1 (by rfl) ?_
  repeat (first|refine y_258 ?_)
  refine Zq0 ?_ (by kernel_rfl)
  repeat (first|refine y_3 (mul64_spec x ((D 6 M).getD k 0) hx hyk) ?_|refine y_44 ?_|refine Z01 ?_|refine Z02 ?_|refine Z03 ?_|refine Z04 ?_|refine Z05 ?_|refine Z06 ?_|refine Z07 ?_|refine Z08 ?_|refine Z09 ?_|refine Z10 ?_|refine Z11 ?_|refine Z12 ?_|refine Z13 ?_|refine Z14 ?_|refine Z15 ?_|refine Z16 ?_|refine Z17 ?_|refine Z18 ?_|refine Z19 ?_|refine Z22 ?_|refine Z23 ?_|refine Z24 ?_|refine Z25 ?_|refine Z26 ?_|refine Z27 ?_|refine Z28 ?_|refine Z29 ?_|refine Z30 ?_|refine Z31 ?_|refine Z32 ?_|refine Z33 ?_|refine Z46 ?_|refine Z47 ?_|refine Z62 ?_|refine Z63 ?_|refine Z64 ?_|refine Z67 ?_|refine Z70 ?_|refine Z71 ?_|refine Z75 ?_|refine Z76 ?_)
  refine st_round (k + 1, P.set k _, _) ⟨by simp only; omega, by simp only [List.length_set]; exact hPl, hPb.set (Nat.mod_lt _ (by decide)) _, hw2, ?_⟩ (by simp only; omega) (by repeat (first|apply subL.nil|refine subL.cons (by rfl) ?_)) (by repeat (first|apply SubW.nil|refine y_8 ?_))
  simp only
  have hvs := V_set hPb k ((P.getD k 0 + (x * (D 6 M).getD k 0 % 18446744073709551616 + c) % 18446744073709551616) % 18446744073709551616) (by omega)
  rw [W_mod_succ, ← hyv, Nat.pow_succ]
  exact mont_inner hvs hw1 hP
 ·have hke : k = 6 := by omega
  subst hke
  rw [Nat.mod_eq_of_lt hM] at hP
  have htop := mont_top hPl hPb hP hT
  have hg7 : (P.set 6 ((P.getD 6 0 + c) % 18446744073709551616)).getD 7 0 = P.getD 7 0 := by
   rw [List.getD_eq_getElem?_getD, List.getElem?_set_ne (by decide), ← List.getD_eq_getElem?_getD]
  have hl8 := D_len 8 (T + x * M)
  repeat (first|refine y_25 ?_|refine y_44 ?_|rw [hg7]|rw [htop]|refine y_42 ?_)
  obtain ⟨Z, hZ⟩ : ∃ Z, Z = T + x * M := ⟨_, rfl⟩
  rw [← hZ] at hl8 hT ⊢
  have h01 : sh = 0 ∨ sh = 1 := by omega
  rcases h01 with rfl | rfl
  ·have e1 : List.take 0 (D 8 Z) ++ List.take (8 - 0) (List.drop 0 (List.take 8 (D 8 Z))) ++ List.drop (0 + min (List.drop 0 (List.take 8 (D 8 Z))).length (8 - 0)) (D 8 Z) = D 8 Z := by
    simp [hl8, List.take_of_length_le]
   have e2 : List.take 8 (D 8 Z) ++ List.replicate (8 - 8) 0 ++ List.drop 8 (D 8 Z) = D 8 Z := by
    simp [hl8, List.take_of_length_le]
   refine st_draw1 (by rfl) ?_
   repeat (first|refine y_258 ?_)
   refine Zq0 ?_ (by kernel_rfl)
   rw [e1]
   repeat (first|refine st_clear (by rfl) (by repeat first|apply Find.here|apply Find.there) (by rfl) (by rfl) hl8 (by omega) (by omega) ?_|rw [e2]|refine y_42 ?_)
   refine st_end0 (by rfl) fun _ hw => post_of hw (Wout := [.blk bt (LV .u64 (D 8 Z)) 123, .blk bm (LV .u64 (D 6 M)) 27]) (by exact (by repeat (first|apply SubW.nil|refine y_8 ?_))) ⟨rfl, by rw [Nat.pow_zero, Nat.div_one]⟩
  ·have hsh := D8_shift Z hT
   have a1 : (D 8 Z).take 8 = D 8 Z := List.take_of_length_le (by omega)
   have a2 : ((D 8 Z).drop 1).length = 7 := by rw [List.length_drop, hl8]
   have e1 : List.take 0 (D 8 Z) ++ List.take (8 - 0) (List.drop 1 (List.take 8 (D 8 Z))) ++ List.drop (0 + min (List.drop 1 (List.take 8 (D 8 Z))).length (8 - 0)) (D 8 Z) = (D 8 Z).drop 1 ++ (D 8 Z).drop 7 := by
    rw [a1, List.take_of_length_le (l := (D 8 Z).drop 1) (by omega), a2]; rfl
   have hl9 : ((D 8 Z).drop 1 ++ (D 8 Z).drop 7).length = 8 := by rw [List.length_append, a2, List.length_drop, hl8]
   have e2 : List.take 7 ((D 8 Z).drop 1 ++ (D 8 Z).drop 7) ++ List.replicate (8 - 7) 0 ++ List.drop 8 ((D 8 Z).drop 1 ++ (D 8 Z).drop 7) = D 8 (Z / W) := by
    rw [List.take_left' a2, List.drop_eq_nil_of_le (Nat.le_of_eq hl9), List.append_nil, ← hsh]; rfl
   refine st_draw1 (by rfl) ?_
   repeat (first|refine y_258 ?_)
   refine Zq0 ?_ (by kernel_rfl)
   rw [e1]
   repeat (first|refine st_clear (by rfl) (by repeat first|apply Find.here|apply Find.there) (by rfl) (by rfl) hl9 (by omega) (by omega) ?_|rw [e2]|refine y_42 ?_)
   refine st_end0 (by rfl) fun _ hw => post_of hw (Wout := [.blk bt (LV .u64 (D 8 (Z / W))) 123, .blk bm (LV .u64 (D 6 M)) 27]) (by exact (by repeat (first|apply SubW.nil|refine y_8 ?_))) ⟨rfl, by rw [Nat.pow_one]⟩
def Ri : Nat := 3231460744492646417066832100176244795738767926513225105051837195607029917124509527734802654356338138714468589979680
theorem Ri_1 : W ^ 6 * Ri % p = 1 := by decide +kernel
theorem minus_p : 9940570264628428797 * p % 18446744073709551616 = 18446744073709551615 := by decide +kernel
theorem sq_lit : ([17644856173732828998, 754043588434789617, 10224657059481499349, 7488229067341005760, 11130996698012816685, 1267921511277847466] : List Nat) = D 6 (W ^ 12 % p) := by decide +kernel
attribute [irreducible] Ri
def redv (a b : Nat) : Nat := a * b * Ri % p
theorem redv_lt (a b : Nat) : redv a b < p := Nat.mod_lt _ p_pos
theorem redv_of {T a b : Nat} (h : T * W ^ 6 % p = a * b % p) : T % p = redv a b := by
 unfold redv
 rw [Nat.mul_mod, ← h, ← Nat.mul_mod, Nat.mul_assoc, Nat.mul_mod, Ri_1, Nat.mul_one, Nat.mod_mod]
theorem all_bits (u : Nat) : (u + u * 18446744073709551615 % 18446744073709551616) % 18446744073709551616 = 0 := by
 have e3 : u + u * 18446744073709551615 = u * 18446744073709551616 := by omega
 have e4 := Nat.add_mod_mod u (u * 18446744073709551615) 18446744073709551616
 rw [e3] at e4
 exact e4.trans (Nat.mul_mod_left _ _)
theorem round_dvd (T : Nat) : (T + T % 18446744073709551616 * 9940570264628428797 % 18446744073709551616 * p) % 18446744073709551616 = 0 := by
 have h := minus_p
 have e : T % 18446744073709551616 * 9940570264628428797 % 18446744073709551616 * p % 18446744073709551616 = T % 18446744073709551616 * 18446744073709551615 % 18446744073709551616 := by
  rw [Nat.mod_mul_mod, Nat.mul_assoc, Nat.mul_mod, h, Nat.mod_mod]
 rw [Nat.add_mod, e]
 exact all_bits _
theorem round_ok {T x b a i : Nat} (hT : T < 2 * p) (hx : x < 18446744073709551616) (hb : b < p) (h : T * W ^ i % p = a % W ^ i * b % p) (hxa : x = a / W ^ i % W) (m : Nat) (hm : m = (T + x * b) % 18446744073709551616 * 9940570264628428797 % 18446744073709551616) :
  (T + x * b + m * p) / W < 2 * p ∧ (T + x * b + m * p) / W * W ^ (i + 1) % p = a % W ^ (i + 1) * b % p := by
 have hm1 : m < 18446744073709551616 := by rw [hm]; exact Nat.mod_lt _ (by decide)
 have hd : W ∣ T + x * b + m * p := by rw [hm]; exact Nat.dvd_of_mod_eq_zero (round_dvd _)
 have h1 : x * b ≤ 18446744073709551615 * p := Nat.mul_le_mul (by omega) (Nat.le_of_lt hb)
 have h2 : m * p ≤ 18446744073709551615 * p := Nat.mul_le_mul (by omega) (Nat.le_refl _)
 constructor
 ·refine Nat.div_lt_of_lt_mul ?_
  rw [show W = 18446744073709551616 from rfl]
  omega
 ·have e : (T + x * b + m * p) / W * W ^ (i + 1) = (T + x * b + m * p) * W ^ i := by
   rw [Nat.pow_succ, Nat.mul_comm (W ^ i) W, ← Nat.mul_assoc, Nat.div_mul_cancel hd]
  rw [e, Nat.add_mul, Nat.mul_right_comm m p, Nat.add_mul_mod_self_right, Nat.add_mul, Nat.add_mod, h, ← Nat.add_mod, W_mod_succ, ← hxa, Nat.add_mul]
  congr 2
  rw [Nat.mul_right_comm, Nat.mul_comm x]
theorem psq_spec : Spec Tryz.prog 109 [] NoPre [] (IsV (LV .u64 (D 6 (W ^ 12 % p)))) := by
 refine mk_spec Tryz.func109 rfl rfl rfl fun w _ => ?_
 repeat (first|(refine y_35 ?_;intro _)|refine st_buildP (kk := .u64) (vs := [17644856173732828998, 754043588434789617, 10224657059481499349, 7488229067341005760, 11130996698012816685, 1267921511277847466]) (by rfl) (by rfl) (by rfl) (by rfl) (by rfl) (by rfl) (by rfl) (by rfl) ?_|refine Z03 ?_|refine Z04 ?_|refine Z05 ?_|refine Z06 ?_|refine Z07 ?_|refine Z08 ?_|refine Z09 ?_|refine Z10 ?_|refine Z11 ?_|refine Z12 ?_|refine Z13 ?_|refine Z14 ?_|refine Z29 ?_|refine Z30 ?_|refine Z31 ?_|refine Z32 ?_|refine Z65 ?_|refine Z82 fun _ => ?_)
 refine Zec fun _ hw => post_of hw SubW.nil ⟨?_, rfl⟩
 rw [← sq_lit]; rfl
theorem y_45 {a b : Prop} (k : b) (h : Rm b → a := by intro k;(first|refine Z01 ?_|refine Z02 ?_|refine Z03 ?_|refine Z04 ?_|refine Z05 ?_|refine Z06 ?_|refine Z07 ?_|refine Z08 ?_|refine Z09 ?_|refine Z10 ?_|refine Z11 ?_|refine Z12 ?_|refine Z13 ?_|refine Z14 ?_|refine Z15 ?_|refine Z17 ?_|refine Z18 ?_|refine Z22 ?_|refine Z23 ?_|refine Z24 ?_|refine Z25 ?_|refine Z26 ?_|refine Z27 ?_|refine Z28 ?_|refine Z29 ?_|refine Z30 ?_|refine Z31 ?_|refine Z32 ?_|refine Z35 ?_|refine Z48 ?_|refine Z57 ?_|refine Z62 ?_|refine Z63 ?_|refine Z64 ?_|refine Z66 ?_|refine Z67 ?_|refine Z70 ?_);exact k.h) : a := h ⟨k⟩
set_option maxHeartbeats 4000000 in
theorem predd_spec {a b : Nat} (ha : a < W ^ 6) (hb : b < p) : Spec Tryz.prog 108 [LV .u64 (D 6 a), LV .u64 (D 6 b)] NoPre [] (IsV (LV .u64 (D 6 (redv a b)))) := by
 refine mk_spec Tryz.func108 rfl rfl rfl fun w _ => ?_
 have hla := D_len 6 a
 have hlb := D_len 6 b
 have hlp := D_len 6 p
 have hpl := p_lt
 have hp2 := p2_lt
 repeat (first|(refine y_35 ?_;intro _)|refine st_alloc (v := LV .u64 (List.replicate 8 0)) (by rfl) (by rfl) fun _ => ?_|refine y_37 ?_|refine Z01 ?_|refine Z02 ?_|refine Z03 ?_|refine Z04 ?_|refine Z05 ?_|refine Z06 ?_|refine Z07 ?_|refine Z08 ?_|refine Z09 ?_|refine Z10 ?_|refine Z11 ?_|refine Z12 ?_|refine Z13 ?_|refine Z14 ?_|refine Z15 ?_|refine Z17 ?_|refine Z18 ?_|refine Z22 ?_|refine Z23 ?_|refine Z24 ?_|refine Z25 ?_|refine Z26 ?_|refine Z27 ?_|refine Z28 ?_|refine Z29 ?_|refine Z30 ?_|refine Z31 ?_|refine Z32 ?_|refine Z35 ?_|refine Z48 ?_|refine Z57 ?_|refine Z62 ?_|refine Z63 ?_|refine Z64 ?_|refine Z66 ?_|refine Z67 ?_|refine Z70 ?_|refine Z81 fun _ => ?_|refine Z82 fun _ => ?_)
 rename_i b2 b3 b4 b5 b6
 rw [show List.replicate 8 0 = D 8 0 from (D_zero 8).symm]
 refine st_loop (ι := Nat × Nat) (fun q => q.1 ≤ 6 ∧ q.2 < 2 * p ∧ q.2 * W ^ q.1 % p = a % W ^ q.1 * b % p)
  (fun q => [(3, pt b3 0), (4, pt b4 0), (5, pt b5 0), (6, pt b6 0), (7, .func (.func 137) #[] #[pt b6 0]), (12, LV .u64 (D 6 a)), (13, N .i64 q.1)])
  (fun q => [.blk b6 (LV .u64 (D 8 q.2)) 123, .blk b5 (LV .u64 (D 6 p)) 27, .blk b3 (LV .u64 (D 6 b)) 27, .blk b4 (LV .u64 (List.replicate 6 0)) 27]) (fun q => 6 - q.1) (0, 0) ⟨by simp, by have := p_pos; simp only; omega, by simp [Nat.mod_one]⟩ (by repeat (first|apply subL.nil|refine subL.cons (by rfl) ?_)) (by repeat (first|apply SubW.nil|refine y_8 ?_)) ?_
 rintro ⟨i, T⟩ ⟨hi, hT, hq⟩
 simp only at hi hT hq ⊢
 have hT8 : T < W ^ 8 := Nat.lt_trans (Nat.lt_of_lt_of_le hT (by omega)) (Nat.lt_of_lt_of_le hp2 (W_le (by decide)))
 by_cases h : i < 6
 ·have hxi := (D_lt 6 a).getD (by decide) i
  have hxv := D_getD' ha i
  generalize hx : (D 6 a).getD i 0 = x at hxi hxv
  obtain ⟨r1, r2⟩ := round_ok hT hxi hb hq hxv _ rfl
  have hW8 : W ^ 8 = 18446744073709551616 * 18446744073709551616 * W ^ 6 := by decide
  have h1 : x * b ≤ 18446744073709551615 * p := Nat.mul_le_mul (by omega) (Nat.le_of_lt hb)
  have t1 : T + x * b < W ^ 8 := by omega
  have hm1 : (T + x * b) % 18446744073709551616 * 9940570264628428797 % 18446744073709551616 < 18446744073709551616 := Nat.mod_lt _ (by decide)
  generalize hm : (T + x * b) % 18446744073709551616 * 9940570264628428797 % 18446744073709551616 = m at r1 r2 hm1
  have h2 : m * p ≤ 18446744073709551615 * p := Nat.mul_le_mul (by omega) (Nat.le_refl _)
  have t2 : T + x * b + m * p < W ^ 8 := by omega
  have hg : (D 8 (T + x * b)).getD 0 0 = (T + x * b) % 18446744073709551616 := by rw [D_getD' t1, Nat.pow_zero, Nat.div_one]; rfl
  have hl8 := D_len 8 (T + x * b)
  repeat (first|refine y_30 ?_|rw [hx]|(refine st_call (by rfl) (by rfl) (by rfl) (pstep_spec x T b 0 b6 b3 hxi (Nat.lt_trans hb hpl) t1 (by decide)) (.cons (by repeat first|apply Find.here|apply Find.there) (.cons (by repeat first|apply Find.here|apply Find.there) .nil)) (fun _ _ => trivial) (by rfl) ?_; rintro _ _ ⟨rfl, rfl⟩; rw [Nat.pow_zero, Nat.div_one])|rw [hg]|rw [hm]|(refine st_call (by rfl) (by rfl) (by rfl) (pstep_spec m (T + x * b) p 1 b6 b5 hm1 hpl t2 (by decide)) (.cons (by repeat first|apply Find.here|apply Find.there) (.cons (by repeat first|apply Find.here|apply Find.there) .nil)) (fun _ _ => trivial) (by rfl) ?_; rintro _ _ ⟨rfl, rfl⟩; rw [Nat.pow_one])|refine y_45 ?_|refine Z81 fun _ => ?_|refine Z82 fun _ => ?_)
  exact st_round (i + 1, (T + x * b + m * p) / W) ⟨by simp only; omega, r1, r2⟩ (by simp only; omega) (by repeat (first|apply subL.nil|refine subL.cons (by rfl) ?_)) (by repeat (first|apply SubW.nil|refine y_8 ?_))
 ·have hie : i = 6 := by omega
  subst hie
  rw [Nat.mod_eq_of_lt ha] at hq
  have hv := redv_of hq
  have hT6 : T < W ^ 6 := by omega
  have hl8 := D_len 8 T
  have hg6 : (D 8 T).getD 6 0 = 0 := by rw [D_getD' hT8, Nat.div_eq_of_lt hT6, Nat.zero_mod]
  have htk : List.take 6 (List.drop 0 (List.take 6 (D 8 T))) = D 6 T := by
   rw [List.drop_zero, List.take_take, Nat.min_self, show (8 : Nat) = 6 + 2 from rfl, D_add, List.take_left' (D_len 6 T)]
  have hlv : lessv 6 p T 0 = redv a b := by
   rw [← hv]; unfold lessv
   rw [Nat.zero_mul, Nat.add_zero]
   by_cases hlt : T < p
   ·rw [if_pos hlt, Nat.mod_eq_of_lt hlt]
   ·rw [if_neg hlt, Nat.mod_eq_sub_mod (by omega), Nat.mod_eq_of_lt (by omega)]
  have hlr := D_len 6 (redv a b)
  repeat (first|refine y_25 ?_|refine Z01 ?_|refine Z02 ?_|refine Z03 ?_|refine Z04 ?_|refine Z05 ?_|refine Z06 ?_|refine Z07 ?_|refine Z08 ?_|refine Z09 ?_|refine Z10 ?_|refine Z11 ?_|refine Z12 ?_|refine Z13 ?_|refine Z14 ?_|refine Z15 ?_|refine Z17 ?_|refine Z18 ?_|refine Z22 ?_|refine Z23 ?_|refine Z24 ?_|refine Z25 ?_|refine Z26 ?_|refine Z27 ?_|refine Z28 ?_|refine Z29 ?_|refine Z30 ?_|refine Z31 ?_|refine Z32 ?_|refine Z35 ?_|refine Z48 ?_|refine Z57 ?_|refine Z62 ?_|refine Z63 ?_|refine Z64 ?_|refine Z66 ?_|refine Z67 ?_|refine Z70 ?_|refine Z81 fun _ => ?_|refine Z82 fun _ => ?_)
  refine st_draw1 (by rfl) ?_
  repeat (first|(refine Zqf (by intro _ _ _;(first|refine Z01 ?_|refine Z02 ?_|refine Z15 ?_|refine Z17 ?_|refine Z18 ?_|refine Z22 ?_|refine Z23 ?_|refine Z35 ?_|refine Z48 ?_|refine Z57 ?_|refine Z62 ?_|refine Z63 ?_|refine Z64 ?_|refine Z66 ?_|refine Z70 ?_);exact Zq) ?_)|(refine Zqp (by intro _ _ _;(refine st_load_sptrN (ys := List.drop 0 (List.take 6 (D 8 T))) (by rfl) (by rfl) (by rfl) (RdW.arrN (by repeat first|apply Find.here|apply Find.there) (by omega) (by omega) hl8) (by rw [List.drop_zero, List.length_take]; omega) (by decide) (by rfl) ?_; rw [htk]);exact Zq) ?_)|(refine Zqp (by intro _ _ _;(refine st_load_N (by rfl) (by repeat first|apply Find.here|apply Find.there) (by omega) (by rfl) (by rfl) ?_; rw [hg6]);exact Zq) ?_)|(refine Zqp (by intro _ _ _;(refine st_callV (by rfl) (by rfl) (by rfl) (pless_spec hT6 (Nat.zero_le 1)) (fun _ _ => trivial) (by rfl) ?_; rw [hlv]);exact Zq) ?_)|(refine Zqp (by intro _ _ _;(first|refine Z24 ?_|refine Z25 ?_|refine Z26 ?_|refine Z27 ?_|refine Z28 ?_|refine Z67 ?_|refine Z23 ?_|refine Z62 ?_|refine Z66 ?_);exact Zq) ?_)|refine y_185 ?_|refine Zqn ?_)
  refine Zq0 ?_ (by kernel_rfl)
  repeat (first|refine y_45 ?_|refine Z81 fun _ => ?_|refine Z82 fun _ => ?_)
  refine Zec fun _ hw => post_of hw SubW.nil ⟨?_, rfl⟩
  rfl
end Go.Proofs.YtbpmbdlgmmabcaaGreat.L
namespace Go.Proofs.YtbpmbdlgmmabcaaGreat.L
open Go Go.Proofs
set_option maxRecDepth 100000
attribute [local irreducible] Code.wp wpList Af bodyPost L.Go
open Num
attribute [local simp] D_len
theorem Ri_2 : Ri * (W ^ 12 % p) * Ri % p = 1 := by decide +kernel
theorem Ri_3 : (W ^ 12 % p) * Ri % p = W ^ 6 % p := by decide +kernel
theorem redv_mod (a b : Nat) : redv (a % p) (b % p) = redv a b := by
 unfold redv
 rw [Nat.mul_mod (a % p * (b % p)), ← Nat.mul_mod a b, ← Nat.mul_mod]
theorem redv_l (a b : Nat) : redv (a % p) b = redv a b := by
 unfold redv
 rw [Nat.mul_assoc, Nat.mod_mul_mod, ← Nat.mul_assoc]
theorem redv_two (a b : Nat) : redv (redv a b) (W ^ 12 % p) = a * b % p := by
 show redv (a * b * Ri % p) (W ^ 12 % p) = _
 rw [redv_l]
 unfold redv
 have e : a * b * Ri * (W ^ 12 % p) * Ri = a * b * (Ri * (W ^ 12 % p) * Ri) := by
  generalize W ^ 12 % p = s
  simp only [Nat.mul_assoc]
 rw [e, Nat.mul_mod, Ri_2, Nat.mul_one, Nat.mod_mod]
theorem redv_pt (a b : Nat) : redv a b < W ^ 6 := Nat.lt_trans (redv_lt a b) p_lt
theorem sq_lt : W ^ 12 % p < p := Nat.mod_lt _ p_pos
theorem y_46 {a b : Prop} (k : b) (h : Rm b → a := by intro k;(first|refine Z03 ?_|refine Z04 ?_|refine Z05 ?_|refine Z06 ?_|refine Z07 ?_|refine Z08 ?_|refine Z09 ?_|refine Z10 ?_|refine Z11 ?_|refine Z12 ?_|refine Z13 ?_|refine Z14 ?_|refine Z24 ?_|refine Z25 ?_|refine Z26 ?_|refine Z27 ?_|refine Z28 ?_|refine Z29 ?_|refine Z30 ?_|refine Z31 ?_|refine Z32 ?_|refine Z67 ?_);exact k.h) : a := h ⟨k⟩
theorem y_47 {a b : Prop} (k : b) (h : Rm b → a := by intro k;(first|refine Z24 ?_|refine Z25 ?_|refine Z26 ?_|refine Z27 ?_|refine Z28 ?_|refine Z67 ?_);exact k.h) : a := h ⟨k⟩
theorem y_196 {a b : Prop} (k : b) (h : Rm b → a := by intro k;refine Zqp (by intro _ _ _;(first|refine y_47 ?_);exact Zq) ?_;exact k.h) : a := h ⟨k⟩
theorem y_259 {a b : Prop} (k : b) (h : Rm b → a := by intro k;(first|refine y_196 ?_|refine y_185 ?_|refine Zqn ?_);exact k.h) : a := h ⟨k⟩
theorem pmul_spec {a b : Nat} (ha : a < W ^ 6) (hb : b < W ^ 6) : Spec Tryz.prog 61 [LV .u64 (D 6 a), LV .u64 (D 6 b)] NoPre [] (IsV (LV .u64 (D 6 (a * b % p)))) := by
 refine mk_spec Tryz.func61 rfl rfl rfl fun w _ => ?_
 have hl0 := fun x => D_len 6 x
 have e1 := redv_mod a b
 have e2 := redv_two a b
 repeat (first|(refine y_35 ?_;intro _)|refine y_46 ?_|refine Z81 fun _ => ?_|refine Z82 fun _ => ?_)
 refine st_draw1 (by rfl) ?_
 repeat (first|(refine Zqf (by intro _ _ _;(first|contradiction);exact Zq) ?_)|refine y_41 (preduce_spec ha) ?_|refine y_41 (preduce_spec hb) ?_|(refine Zqp (by intro _ _ _;(refine st_callV (by rfl) (by rfl) (by rfl) (predd_spec (mod_p a) (Nat.mod_lt b p_pos)) (fun _ _ => trivial) (by rfl) ?_; rw [e1]);exact Zq) ?_)|(refine Zqp (by intro _ _ _;refine st_callV (by rfl) (by rfl) (by rfl) (psq_spec) (fun _ _ => trivial) (by rfl) ?_;exact Zq) ?_)|(refine Zqp (by intro _ _ _;(refine st_callV (by rfl) (by rfl) (by rfl) (predd_spec (redv_pt a b) sq_lt) (fun _ _ => trivial) (by rfl) ?_; rw [e2]);exact Zq) ?_)|refine y_259 ?_)
 refine Zq0 ?_ (by kernel_rfl)
 repeat (first|refine y_46 ?_|refine Z81 fun _ => ?_|refine Z82 fun _ => ?_)
 refine Zec fun _ hw => post_of hw SubW.nil ⟨?_, rfl⟩
 rfl
set_option maxHeartbeats 2000000 in
theorem pneg_spec {a : Nat} (ha : a < W ^ 6) : Spec Tryz.prog 68 [LV .u64 (D 6 a)] NoPre [] (IsV (LV .u64 (D 6 ((p - a % p) % p)))) := by
 refine mk_spec Tryz.func68 rfl rfl rfl fun w _ => ?_
 have hl0 := fun x => D_len 6 x
 have hA := Nat.mod_lt a p_pos
 have hlp := hl0 p
 repeat (first|(refine y_35 ?_;intro _)|refine y_3 (preduce_spec ha) ?_|refine y_192 ?_|refine Z81 fun _ => ?_|refine Z82 fun _ => ?_)
 generalize a % p = A at *
 have hpl := p_lt
 have hAl : A < W ^ 6 := by omega
 have hla := hl0 A
 rename_i b1 b2 b3
 refine st_loop (ι := Nat) (fun i => i ≤ 6) (fun i => [(1, pt b1 0), (2, pt b2 0), (3, pt b3 0), (4, N .u64 (crun subg (D 6 p) (D 6 A) i).2), (9, N .i64 i)])
  (fun i => [.blk b3 (LV .u64 ((crun subg (D 6 p) (D 6 A) i).1 ++ (D 6 p).drop i)) 27, .blk b1 (LV .u64 (D 6 A)) 27, .blk b2 (LV .u64 (List.replicate 6 0)) 27]) (fun i => 6 - i) 0 (by omega) (by rw [crun_0]; exact (by repeat (first|apply subL.nil|refine subL.cons (by rfl) ?_))) (by rw [crun_0]; exact (by repeat (first|apply SubW.nil|refine y_8 ?_))) ?_
 intro i hi
 have hc1 := crun_subD_le 6 p A i
 have hl := crun_len subg (D 6 p) (D 6 A) i
 have hol : ((crun subg (D 6 p) (D 6 A) i).1 ++ (D 6 p).drop i).length = 6 := by simp; omega
 have hdg := drop_get (xs := D 6 p) hl
 by_cases h : i < 6
 ·repeat (first|refine y_193 ?_|refine Z81 fun _ => ?_|refine Z82 fun _ => ?_)
  refine st_draw1 (by rfl) ?_
  repeat (first|(refine Zqf (by intro _ _ _;(first|refine st_callX (by rfl) (by rfl) (by rfl) (sub64X _ _ _ hc1) (by rfl) ?_|refine y_38 ?_);exact Zq) ?_)|refine y_257 ?_)
  refine Zq0 ?_ (by kernel_rfl)
  rw [hdg, ← subg_fst, ← subg_snd, ← crun_snd, crun_drop subg (D 6 p) (D 6 A) i (by omega)]
  repeat (first|refine y_39 ?_|refine Z81 fun _ => ?_|refine Z82 fun _ => ?_)
  exact st_round (i + 1) (by omega) (by omega) (by repeat (first|apply subL.nil|refine subL.cons (by rfl) ?_)) (by repeat (first|apply SubW.nil|refine y_8 ?_))
 ·have hie : i = 6 := by omega
  subst hie
  have hdr : (D 6 p).drop 6 = [] := List.drop_eq_nil_of_le (by omega)
  rw [crun_subD hpl hAl, hdr, List.append_nil, D_sbn (Nat.le_of_lt hA)] at *
  simp only at *
  have hv : lessv 6 p (p - A) 0 = (p - A) % p := by
   unfold lessv
   rw [Nat.zero_mul, Nat.add_zero]
   rcases Nat.eq_zero_or_pos A with h0 | h0
   ·subst h0; rw [Nat.sub_zero, if_neg (by omega), Nat.sub_self, Nat.mod_self]
   ·rw [if_pos (by omega), Nat.mod_eq_of_lt (by omega)]
  have hl3 := hl0 ((p - A) % p)
  repeat (first|refine y_25 ?_|(refine st_callV (by rfl) (by rfl) (by rfl) (pless_spec (a := p - A) (by omega) (Nat.zero_le 1)) (fun _ _ => trivial) (by rfl) ?_; rw [hv])|refine y_39 ?_|refine Z81 fun _ => ?_|refine Z82 fun _ => ?_)
  refine Zec fun _ hw => post_of hw SubW.nil ⟨?_, rfl⟩
  rfl
theorem psub_spec {a b : Nat} (ha : a < W ^ 6) (hb : b < W ^ 6) : Spec Tryz.prog 64 [LV .u64 (D 6 a), LV .u64 (D 6 b)] NoPre [] (IsV (LV .u64 (D 6 ((a + (p - b % p) % p) % p)))) := by
 refine mk_spec Tryz.func64 rfl rfl rfl fun w _ => ?_
 have hl0 := fun x => D_len 6 x
 repeat (first|(refine y_35 ?_;intro _)|refine y_46 ?_|refine Z81 fun _ => ?_|refine Z82 fun _ => ?_)
 refine st_draw1 (by rfl) ?_
 repeat (first|(refine Zqf (by intro _ _ _;(first|contradiction);exact Zq) ?_)|refine y_41 (pneg_spec hb) ?_|refine y_41 (padd_spec ha (mod_p (p - b % p))) ?_|refine y_259 ?_)
 refine Zq0 ?_ (by kernel_rfl)
 repeat (first|refine y_46 ?_|refine Z81 fun _ => ?_|refine Z82 fun _ => ?_)
 refine Zec fun _ hw => post_of hw SubW.nil ⟨?_, rfl⟩
 rfl
set_option maxHeartbeats 2000000 in
theorem minusOf_spec {a b : Nat} (ha : a < W ^ 6) (hb : b ≤ a) : Spec Tryz.prog 114 [LV .u64 (D 6 a), LV .u64 (D 6 b)] NoPre [] (IsV (LV .u64 (D 6 (a - b)))) := by
 refine mk_spec Tryz.func114 rfl rfl rfl fun w _ => ?_
 have hl0 := fun x => D_len 6 x
 have hla := hl0 a
 repeat (first|(refine y_35 ?_;intro _)|refine y_39 ?_|refine Z81 fun _ => ?_|refine Z82 fun _ => ?_)
 rename_i b2 b3 b4
 refine st_loop (ι := Nat) (fun i => i ≤ 6) (fun i => [(2, pt b2 0), (3, pt b3 0), (4, pt b4 0), (5, N .u64 (crun subg (D 6 a) (D 6 b) i).2), (7, N .i64 i)])
  (fun i => [.blk b2 (LV .u64 ((crun subg (D 6 a) (D 6 b) i).1 ++ (D 6 a).drop i)) 27, .blk b3 (LV .u64 (D 6 b)) 27, .blk b4 (LV .u64 (List.replicate 6 0)) 27]) (fun i => 6 - i) 0 (by omega) (by rw [crun_0]; exact (by repeat (first|apply subL.nil|refine subL.cons (by rfl) ?_))) (by rw [crun_0]; exact (by repeat (first|apply SubW.nil|refine y_8 ?_))) ?_
 intro i hi
 have hc1 := crun_subD_le 6 a b i
 have hl := crun_len subg (D 6 a) (D 6 b) i
 have hol : ((crun subg (D 6 a) (D 6 b) i).1 ++ (D 6 a).drop i).length = 6 := by simp; omega
 have hdg := drop_get (xs := D 6 a) hl
 by_cases h : i < 6
 ·repeat (first|refine y_193 ?_|refine Z81 fun _ => ?_|refine Z82 fun _ => ?_)
  refine st_draw1 (by rfl) ?_
  repeat (first|(refine Zqf (by intro _ _ _;(first|refine st_callX (by rfl) (by rfl) (by rfl) (sub64X _ _ _ hc1) (by rfl) ?_|refine y_38 ?_);exact Zq) ?_)|refine y_257 ?_)
  refine Zq0 ?_ (by kernel_rfl)
  rw [hdg, ← subg_fst, ← subg_snd, ← crun_snd, crun_drop subg (D 6 a) (D 6 b) i (by omega)]
  repeat (first|refine y_39 ?_|refine Z81 fun _ => ?_|refine Z82 fun _ => ?_)
  exact st_round (i + 1) (by omega) (by omega) (by repeat (first|apply subL.nil|refine subL.cons (by rfl) ?_)) (by repeat (first|apply SubW.nil|refine y_8 ?_))
 ·have hie : i = 6 := by omega
  subst hie
  have hdr : (D 6 a).drop 6 = [] := List.drop_eq_nil_of_le (by omega)
  rw [crun_subD ha (Nat.lt_of_le_of_lt hb ha), hdr, List.append_nil, D_sbn hb] at *
  simp only at *
  have hl3 := hl0 (a - b)
  repeat (first|refine y_194 ?_|refine Z81 fun _ => ?_|refine Z82 fun _ => ?_)
  refine Zec fun _ hw => post_of hw SubW.nil ⟨?_, rfl⟩
  rfl
theorem one6 : ([1] ++ List.replicate (6 - [1].length) 0 : List Nat) = D 6 1 := by decide +kernel
theorem zero6 : ([] ++ List.replicate (6 - ([] : List Nat).length) 0 : List Nat) = D 6 0 := by rw [D_zero]; rfl
theorem pw_sq (a x : Nat) : redv (a ^ x * W ^ 6 % p) (a ^ x * W ^ 6 % p) = a ^ (2 * x) * W ^ 6 % p := by
 rw [redv_mod]
 unfold redv
 have e : a ^ x * W ^ 6 * (a ^ x * W ^ 6) * Ri = a ^ (2 * x) * W ^ 6 * (W ^ 6 * Ri) := by
  rw [Nat.two_mul, Nat.pow_add]
  generalize a ^ x = y; generalize W ^ 6 = z
  simp only [Nat.mul_assoc, Nat.mul_left_comm]
 rw [e, Nat.mul_mod, Ri_1, Nat.mul_one, Nat.mod_mod]
theorem pw_mul (a x : Nat) : redv (a ^ x * W ^ 6 % p) (a * W ^ 6 % p) = a ^ (x + 1) * W ^ 6 % p := by
 rw [redv_mod]
 unfold redv
 have e : a ^ x * W ^ 6 * (a * W ^ 6) * Ri = a ^ (x + 1) * W ^ 6 * (W ^ 6 * Ri) := by
  rw [Nat.pow_succ a x]
  generalize a ^ x = y; generalize W ^ 6 = z
  simp only [Nat.mul_assoc, Nat.mul_left_comm]
 rw [e, Nat.mul_mod, Ri_1, Nat.mul_one, Nat.mod_mod]
theorem pw_base (a : Nat) : redv (a % p) (W ^ 12 % p) = a * W ^ 6 % p := by
 rw [redv_l]
 unfold redv
 rw [Nat.mul_assoc, Nat.mul_mod, Ri_3, ← Nat.mul_mod]
theorem pw_one' : redv 1 (W ^ 12 % p) = 1 * W ^ 6 % p := by decide +kernel
theorem pw_end (y : Nat) : redv (y * W ^ 6 % p) 1 = y % p := by
 rw [redv_l]
 unfold redv
 rw [Nat.mul_one, Nat.mul_assoc, Nat.mul_mod, Ri_1, Nat.mul_one, Nat.mod_mod]
theorem bit_and6 {ys : List Nat} (hy : Lt 18446744073709551616 ys) (i : Nat) : (ys.getD (i / 64) 0 >>> (i % 64) % 18446744073709551616 &&& 1 % 18446744073709551616) = V ys / 2 ^ i % 2 := by
 rw [show 1 % 18446744073709551616 = 1 from rfl, Nat.and_one_is_mod, Nat.mod_mod_of_dvd _ (by decide), V_getD hy]
 exact word_bit _ _
theorem y_48 {a b : Prop} (k : b) (h : Rm b → a := by intro k;refine st_buildP (kk := .u64) (vs := [1]) (by rfl) (by rfl) (by rfl) (by rfl) (by rfl) (by rfl) (by rfl) (by rfl) ?_; rw [one6];exact k.h) : a := h ⟨k⟩
theorem y_49 {a b : Prop} (k : b) (h : Rm b → a := by intro k;(first|refine Z01 ?_|refine Z02 ?_|refine Z03 ?_|refine Z04 ?_|refine Z05 ?_|refine Z06 ?_|refine Z07 ?_|refine Z08 ?_|refine Z09 ?_|refine Z10 ?_|refine Z11 ?_|refine Z12 ?_|refine Z13 ?_|refine Z14 ?_|refine Z16 ?_|refine Z17 ?_|refine Z18 ?_|refine Z20 ?_|refine Z21 ?_|refine Z22 ?_|refine Z23 ?_|refine Z24 ?_|refine Z25 ?_|refine Z26 ?_|refine Z27 ?_|refine Z28 ?_|refine Z29 ?_|refine Z30 ?_|refine Z31 ?_|refine Z32 ?_|refine Z36 ?_|refine Z37 ?_|refine Z38 ?_|refine Z40 ?_|refine Z42 ?_|refine Z58 ?_|refine Z59 ?_|refine Z65 ?_|refine Z67 ?_|refine Z71 ?_);exact k.h) : a := h ⟨k⟩
set_option maxHeartbeats 4000000 in
theorem ppow_spec {a : Nat} (ha : a < W ^ 6) (s : Value) (xs : List Nat) (hx : Lt 18446744073709551616 xs) (hl : xs.length < 65536) :
  Spec Tryz.prog 117 [LV .u64 (D 6 a), s] (fun w => Rd w s (xs.map (N .u64))) [] (IsV (LV .u64 (D 6 (a ^ V xs % p)))) := by
 refine mk_spec Tryz.func117 rfl rfl rfl fun w hr => ?_
 have hr := RdC.mk0 hr
 have hl0 := fun x => D_len 6 x
 have e1 := pw_base a
 have h1W : 1 < W ^ 6 := by decide
 have h1p : 1 < p := p_prime.1
 have hz : V xs / 2 ^ (64 * xs.length) = 0 := Nat.div_eq_of_lt (by rw [Nat.pow_mul, ← W_2]; exact V_lt hx)
 repeat (first|(refine y_35 ?_;intro _)|refine y_3 (preduce_spec ha) ?_|refine st_callV (by rfl) (by rfl) (by rfl) (psq_spec) (fun _ _ => trivial) (by rfl) ?_|(refine st_callV (by rfl) (by rfl) (by rfl) (predd_spec (mod_p a) sq_lt) (fun _ _ => trivial) (by rfl) ?_; rw [e1])|refine y_48 ?_|(refine st_callV (by rfl) (by rfl) (by rfl) (predd_spec h1W sq_lt) (fun _ _ => trivial) (by rfl) ?_; rw [pw_one'])|refine y_49 ?_|refine Z81 fun _ => ?_|refine Z82 fun _ => ?_)
 rename_i b2 b4 b5 b6
 refine st_loop (ι := Nat) (fun j => j ≤ 64 * xs.length) (fun j => [(1, s), (4, pt b4 0), (5, pt b5 0), (6, pt b6 0), (7, .int .i64 ((j : Int) - 1))])
  (fun j => [.blk b6 (LV .u64 (D 6 (a ^ (V xs / 2 ^ j) * W ^ 6 % p))) 27, .blk b5 (LV .u64 (D 6 (a * W ^ 6 % p))) 27, .blk b4 (LV .u64 (List.replicate 6 0)) 27]) (fun j => j) (64 * xs.length) (Nat.le_refl _) (by repeat (first|apply subL.nil|refine subL.cons (by rfl) ?_)) (by rw [hz, Nat.pow_zero]; exact (by repeat (first|apply SubW.nil|refine y_8 ?_))) ?_
 intro j hj
 have hl6 := fun x => hl0 (a ^ x * W ^ 6 % p)
 have hlb := hl0 (a * W ^ 6 % p)
 repeat (first|refine y_49 ?_|refine Z81 fun _ => ?_|refine Z82 fun _ => ?_)
 refine st_cond (by rfl) (fun h => ?_) (fun h => ?_)
 ·have h0 : (0 : Int) ≤ (j : Int) - 1 := h
  obtain ⟨i, rfl⟩ : ∃ i, j = i + 1 := ⟨j - 1, by omega⟩
  rw [show ((i + 1 : Nat) : Int) - 1 = Int.ofNat i by simp]
  have hst := bit_step (V xs) i
  have hbt := bit_and6 hx i
  generalize V xs / 2 ^ (i + 1) = x at hst ⊢
  have hla := hl6 x
  have hla2 := hl6 (2 * x)
  have hla3 := hl6 (2 * x + 1)
  have q1 := pw_sq a x
  have q2 := pw_mul a (2 * x)
  repeat (first|(refine st_callV (by rfl) (by rfl) (by rfl) (predd_spec (a := a ^ x * W ^ 6 % p) (b := a ^ x * W ^ 6 % p) (mod_p _) (Nat.mod_lt _ p_pos)) (fun _ _ => trivial) (by rfl) ?_; rw [q1])|refine st_shr (by rfl) (by rfl) (show i % 64 ≤ 64 by omega) (by rfl) ?_|rw [hbt]|refine y_49 ?_|refine Z81 fun _ => ?_|refine Z82 fun _ => ?_)
  refine st_cond (by rfl) (fun hb => ?_) (fun hb => ?_)
  ·have hx1 : V xs / 2 ^ i = 2 * x + 1 := by omega
   repeat (first|(refine st_callV (by rfl) (by rfl) (by rfl) (predd_spec (a := a ^ (2 * x) * W ^ 6 % p) (b := a * W ^ 6 % p) (mod_p _) (Nat.mod_lt _ p_pos)) (fun _ _ => trivial) (by rfl) ?_; rw [q2])|refine y_49 ?_|refine Z81 fun _ => ?_|refine Z82 fun _ => ?_)
   refine st_round i (by omega) (by omega) ?_ (by rw [hx1]; exact (by repeat (first|apply SubW.nil|refine y_8 ?_)))
   rw [show ((i : Int) - 1) = Int.ofNat i - Int.ofNat 1 from rfl]
   exact (by repeat (first|apply subL.nil|refine subL.cons (by rfl) ?_))
  ·have hx1 : V xs / 2 ^ i = 2 * x := by omega
   repeat (first|refine y_49 ?_|refine Z81 fun _ => ?_|refine Z82 fun _ => ?_)
   refine st_round i (by omega) (by omega) ?_ (by rw [hx1]; exact (by repeat (first|apply SubW.nil|refine y_8 ?_)))
   rw [show ((i : Int) - 1) = Int.ofNat i - Int.ofNat 1 from rfl]
   exact (by repeat (first|apply subL.nil|refine subL.cons (by rfl) ?_))
 ·have hp0 : ¬ (0 : Int) ≤ (j : Int) - 1 := h
  have hj0 : j = 0 := by omega
  subst hj0
  have hle := hl0 (a ^ V xs % p)
  have q3 := pw_end (a ^ V xs)
  rw [Nat.pow_zero, Nat.div_one]
  repeat (first|refine y_48 ?_|(refine st_callV (by rfl) (by rfl) (by rfl) (predd_spec (a := a ^ V xs * W ^ 6 % p) (mod_p _) h1p) (fun _ _ => trivial) (by rfl) ?_; rw [q3])|refine y_49 ?_|refine Z81 fun _ => ?_|refine Z82 fun _ => ?_)
  refine Zec fun _ hw => post_of hw SubW.nil ⟨?_, rfl⟩
  rfl
end Go.Proofs.YtbpmbdlgmmabcaaGreat.L
namespace Go.Proofs.YtbpmbdlgmmabcaaGreat.L
open Go Go.Proofs
set_option maxRecDepth 100000
attribute [local irreducible] Code.wp wpList Af bodyPost L.Go
open Num
attribute [local simp] D_len
theorem or_half (X i : Nat) : ((X / W ^ i % W) >>> 1 % 18446744073709551616 ||| (X / W ^ (i + 1) % W) <<< 63 % 18446744073709551616 % 18446744073709551616) = X / 2 / W ^ i % W := by
 have h := shift_word (w := 1) (by decide) X i
 rw [Nat.pow_one, show 64 - 1 = 63 from rfl] at h
 rw [← h]
 have hx : X / W ^ i % W < W := Nat.mod_lt _ W_pos
 generalize X / W ^ i % W = x at *
 generalize X / W ^ (i + 1) % W = y
 have e1 : x >>> 1 = x / 2 := by rw [Nat.shiftRight_eq_div_pow]
 have e2 : y <<< 63 % 18446744073709551616 = 2 ^ 63 * (y % 2) := by rw [Nat.shiftLeft_eq]; omega
 have hW : W = 18446744073709551616 := rfl
 rw [e1, e2, Nat.mod_eq_of_lt (a := x / 2) (by omega), Nat.mod_eq_of_lt (a := 2 ^ 63 * (y % 2)) (by omega), Nat.or_comm, ← Nat.two_pow_add_eq_or_of_lt (by omega), Nat.mod_eq_of_lt (a := x / 2 + 2 ^ 63 * (y % 2)) (by omega), Nat.add_comm]
theorem y_50 {a b : Prop} (k : b) (h : Rm b → a := by intro k;(first|refine Z01 ?_|refine Z02 ?_|refine Z03 ?_|refine Z04 ?_|refine Z05 ?_|refine Z06 ?_|refine Z07 ?_|refine Z08 ?_|refine Z09 ?_|refine Z10 ?_|refine Z11 ?_|refine Z12 ?_|refine Z13 ?_|refine Z14 ?_|refine Z15 ?_|refine Z17 ?_|refine Z18 ?_|refine Z22 ?_|refine Z23 ?_|refine Z24 ?_|refine Z25 ?_|refine Z26 ?_|refine Z27 ?_|refine Z28 ?_|refine Z29 ?_|refine Z30 ?_|refine Z31 ?_|refine Z32 ?_|refine Z41 ?_|refine Z42 ?_|refine Z43 ?_|refine Z46 ?_|refine Z47 ?_|refine Z67 ?_|refine Z70 ?_);exact k.h) : a := h ⟨k⟩
theorem y_51 {a b : Prop} (k : b) (h : Rm b → a := by intro k;(first|refine st_shr (by rfl) (by rfl) (show 1 ≤ 64 by decide) (by rfl) ?_|refine Z01 ?_|refine Z02 ?_|refine Z15 ?_|refine Z17 ?_|refine Z18 ?_|refine Z22 ?_|refine Z23 ?_|refine Z41 ?_|refine Z42 ?_|refine Z43 ?_|refine Z46 ?_|refine Z47 ?_|refine Z70 ?_);exact k.h) : a := h ⟨k⟩
set_option maxHeartbeats 4000000 in
theorem half_spec (a h ba : Nat) (ha : a < W ^ 6) (hh : h ≤ 1) :
  Spec Tryz.prog 138 [pt ba 0, N .u64 h] NoPre [.blk ba (LV .u64 (D 6 a)) 27] (fun v Wr => v = .tuple #[] ∧ Wr = [.blk ba (LV .u64 (D 6 ((a + h * W ^ 6) / 2))) 27]) := by
 refine mk_spec Tryz.func138 rfl rfl rfl fun w _ => ?_
 obtain ⟨X, hX⟩ : ∃ X, X = a + h * W ^ 6 := ⟨_, rfl⟩
 have hDX : D 6 a = D 6 X := by rw [hX, ← D_mod 6 (a + h * W ^ 6), Nat.add_mul_mod_self_right, D_mod]
 have hX6 : X / W ^ 6 % W = h := by
  rw [hX, Nat.add_mul_div_right _ _ (W_pow_pos 6), Nat.div_eq_of_lt ha, Nat.zero_add, Nat.mod_eq_of_lt (by have : W = 18446744073709551616 := rfl; omega)]
 rw [← hX, hDX]
 have hdx := D_len 6 X
 have hg : ∀ j, j < 6 → (D 6 X).getD j 0 = X / W ^ j % W := fun j hj => D_getD 6 X j hj
 repeat (first|refine y_50 ?_)
 refine st_loop (ι := Nat) (fun i => i ≤ 5) (fun i => [(0, pt ba 0), (1, N .u64 h), (5, N .i64 i)]) (fun i => [.blk ba (LV .u64 (D i (X / 2) ++ (D 6 X).drop i)) 27]) (fun i => 5 - i) 0 (by omega) (by repeat (first|apply subL.nil|refine subL.cons (by rfl) ?_)) (by rw [D_0, List.nil_append, List.drop_zero]; exact (by repeat (first|apply SubW.nil|refine y_8 ?_))) ?_
 intro i hi
 have hdl := D_len i (X / 2)
 have hpl : (D i (X / 2) ++ (D 6 X).drop i).length = 6 := by rw [List.length_append, hdl, List.length_drop, hdx]; omega
 have hg0 := (drop_get (xs := D 6 X) hdl).trans (hg i (by omega))
 by_cases h5 : i < 5
 ·have hg1 := (drop_get1 (xs := D 6 X) hdl).trans (hg (i + 1) (by omega))
  repeat (first|refine y_30 ?_|refine Z01 ?_|refine Z02 ?_|refine Z03 ?_|refine Z04 ?_|refine Z05 ?_|refine Z06 ?_|refine Z07 ?_|refine Z08 ?_|refine Z09 ?_|refine Z10 ?_|refine Z11 ?_|refine Z12 ?_|refine Z13 ?_|refine Z14 ?_|refine Z15 ?_|refine Z17 ?_|refine Z18 ?_|refine Z22 ?_|refine Z23 ?_|refine Z24 ?_|refine Z25 ?_|refine Z26 ?_|refine Z27 ?_|refine Z28 ?_|refine Z29 ?_|refine Z30 ?_|refine Z31 ?_|refine Z32 ?_|refine Z41 ?_|refine Z42 ?_|refine Z43 ?_|refine Z46 ?_|refine Z47 ?_|refine Z67 ?_|refine Z70 ?_)
  refine st_draw1 (by rfl) ?_
  repeat (first|(refine Zqf (by intro _ _ _;(first|refine y_51 ?_);exact Zq) ?_)|refine y_186 ?_|refine y_185 ?_|refine Zqn ?_)
  refine Zq0 ?_ (by kernel_rfl)
  rw [hg0, hg1, or_half, drop_set hdl (by omega), ← D_snoc]
  repeat (first|refine y_50 ?_)
  exact st_round (i + 1) (by omega) (by omega) (by repeat (first|apply subL.nil|refine subL.cons (by rfl) ?_)) (by repeat (first|apply SubW.nil|refine y_8 ?_))
 ·have hie : i = 5 := by omega
  subst hie
  have ho := or_half X 5
  rw [show (5 + 1 : Nat) = 6 from rfl, hX6] at ho
  repeat (first|refine y_25 ?_|refine Z01 ?_|refine Z02 ?_|refine Z03 ?_|refine Z04 ?_|refine Z05 ?_|refine Z06 ?_|refine Z07 ?_|refine Z08 ?_|refine Z09 ?_|refine Z10 ?_|refine Z11 ?_|refine Z12 ?_|refine Z13 ?_|refine Z14 ?_|refine Z15 ?_|refine Z17 ?_|refine Z18 ?_|refine Z22 ?_|refine Z23 ?_|refine Z24 ?_|refine Z25 ?_|refine Z26 ?_|refine Z27 ?_|refine Z28 ?_|refine Z29 ?_|refine Z30 ?_|refine Z31 ?_|refine Z32 ?_|refine Z41 ?_|refine Z42 ?_|refine Z43 ?_|refine Z46 ?_|refine Z47 ?_|refine Z67 ?_|refine Z70 ?_)
  refine st_draw1 (by rfl) ?_
  repeat (first|(refine Zqf (by intro _ _ _;(first|refine y_51 ?_);exact Zq) ?_)|refine y_186 ?_|refine y_185 ?_|refine Zqn ?_)
  refine Zq0 ?_ (by kernel_rfl)
  rw [hg0, ho, drop_set hdl (by omega), ← D_snoc, List.drop_eq_nil_of_le (by omega), List.append_nil]
  repeat (first|refine y_50 ?_)
  refine st_end0 (by rfl) fun _ hw => post_of hw (Wout := [.blk ba (LV .u64 (D 6 (X / 2))) 27]) (by exact (by repeat (first|apply SubW.nil|refine y_8 ?_))) ⟨rfl, rfl⟩
theorem low_bit {u : Nat} (hu : u < W ^ 6) : ((D 6 u).getD 0 0 % 18446744073709551616 &&& 1 % 18446744073709551616) = u % 2 := by
 rw [D_getD' hu, Nat.pow_zero, Nat.div_one, show 1 % 18446744073709551616 = 1 from rfl, Nat.and_one_is_mod, show W = 18446744073709551616 from rfl]
 omega
theorem p_odd : p % 2 = 1 := by decide +kernel
theorem halve {A x u : Nat} (h : A * (2 * x) % p = 2 * u % p) : A * x % p = u % p := by
 rw [Nat.mul_left_comm] at h
 have h2 : ¬ p ∣ 2 := fun hd => by
  have := Nat.le_of_dvd (by decide) hd
  have := p_odd
  have := p_prime.1
  have h3 : p = 2 := by omega
  omega
 rcases Nat.le_total (A * x) u with hle | hle
 ·exact (Pr.cancel p_prime h2 hle (by rw [Nat.mul_comm u, Nat.mul_comm (A * x)]; exact h.symm)).symm
 ·exact Pr.cancel p_prime h2 hle (by rw [Nat.mul_comm u, Nat.mul_comm (A * x)]; exact h)
theorem y_52 {a b : Prop} (k : b) (h : Rm b → a := by intro k;(first|refine Z01 ?_|refine Z02 ?_|refine Z03 ?_|refine Z04 ?_|refine Z05 ?_|refine Z06 ?_|refine Z07 ?_|refine Z08 ?_|refine Z09 ?_|refine Z10 ?_|refine Z11 ?_|refine Z12 ?_|refine Z13 ?_|refine Z14 ?_|refine Z15 ?_|refine Z17 ?_|refine Z18 ?_|refine Z19 ?_|refine Z22 ?_|refine Z23 ?_|refine Z24 ?_|refine Z25 ?_|refine Z26 ?_|refine Z27 ?_|refine Z28 ?_|refine Z29 ?_|refine Z30 ?_|refine Z31 ?_|refine Z32 ?_|refine Z40 ?_|refine Z46 ?_|refine Z47 ?_|refine Z67 ?_|refine Z70 ?_);exact k.h) : a := h ⟨k⟩
set_option maxHeartbeats 8000000 in
theorem even_spec (U X A bu bx : Nat) (hU : 0 < U) (hUW : U < W ^ 6) (hX : X < p) (hA : A * X % p = U % p) :
  Spec Tryz.prog 112 [pt bu 0, pt bx 0] NoPre [.blk bu (LV .u64 (D 6 U)) 27, .blk bx (LV .u64 (D 6 X)) 27]
   (fun v Wr => v = .tuple #[] ∧ ∃ u x, Wr = [.blk bu (LV .u64 (D 6 u)) 27, .blk bx (LV .u64 (D 6 x)) 27] ∧ u ∣ U ∧ u % 2 = 1 ∧ x < p ∧ A * x % p = u % p) := by
 refine mk_spec Tryz.func112 rfl rfl rfl fun w _ => ?_
 have hpl := p_lt
 have hp2 := p2_lt
 have hpo := p_odd
 have hl0 := fun x => D_len 6 x
 repeat (first|refine y_52 ?_|refine Z82 fun _ => ?_)
 refine st_loop (ι := Nat × Nat) (fun q => 0 < q.1 ∧ q.1 ∣ U ∧ q.2 < p ∧ A * q.2 % p = q.1 % p) (fun _ => [(0, pt bu 0), (1, pt bx 0)]) (fun q => [.blk bu (LV .u64 (D 6 q.1)) 27, .blk bx (LV .u64 (D 6 q.2)) 27]) (fun q => q.1) (U, X) ⟨hU, Nat.dvd_refl U, hX, hA⟩ (by repeat (first|apply subL.nil|refine subL.cons (by rfl) ?_)) (by repeat (first|apply SubW.nil|refine y_8 ?_)) ?_
 rintro ⟨u, x⟩ ⟨h1, h2, h3, h4⟩
 simp only at h1 h2 h3 h4 ⊢
 have huU := Nat.le_of_dvd hU h2
 have huW : u < W ^ 6 := by omega
 have hxW : x < W ^ 6 := by omega
 have hb1 := low_bit huW
 have hb2 := low_bit hxW
 have hlu := hl0 u
 have hlx := hl0 x
 repeat (first|rw [hb1]|refine y_52 ?_|refine Z82 fun _ => ?_)
 refine st_cond (by rfl) (fun he => ?_) (fun he => ?_)
 ·obtain ⟨y, rfl⟩ : ∃ y, u = 2 * y := ⟨u / 2, by omega⟩
  have hy : (2 * y + 0 * W ^ 6) / 2 = y := by rw [Nat.zero_mul]; omega
  have hly := hl0 y
  have hdv : y ∣ U := Nat.dvd_trans (Nat.dvd_mul_left y 2) h2
  repeat (first|(refine st_call (by rfl) (by rfl) (by rfl) (half_spec (2 * y) 0 bu huW (Nat.zero_le 1)) (.cons (by repeat first|apply Find.here|apply Find.there) .nil) (fun _ _ => trivial) (by rfl) ?_; rintro _ _ ⟨rfl, rfl⟩; rw [hy])|rw [hb2]|refine y_52 ?_|refine Z82 fun _ => ?_)
  refine st_cond (by rfl) (fun hx => ?_) (fun hx => ?_)
  ·obtain ⟨z, rfl⟩ : ∃ z, x = 2 * z := ⟨x / 2, by omega⟩
   have hz : (2 * z + 0 * W ^ 6) / 2 = z := by rw [Nat.zero_mul]; omega
   have hm := halve h4
   repeat (first|(refine st_call (by rfl) (by rfl) (by rfl) (half_spec (2 * z) 0 bx hxW (Nat.zero_le 1)) (.cons (by repeat first|apply Find.here|apply Find.there) .nil) (fun _ _ => trivial) (by rfl) ?_; rintro _ _ ⟨rfl, rfl⟩; rw [hz])|refine y_52 ?_|refine Z82 fun _ => ?_)
   exact st_round (y, z) ⟨by omega, hdv, by omega, hm⟩ (by simp only; omega) (by repeat (first|apply subL.nil|refine subL.cons (by rfl) ?_)) (by repeat (first|apply SubW.nil|refine y_8 ?_))
  ·have hlp := hl0 p
   have hm : A * ((x + p) / 2) % p = y % p := by
    refine halve ?_
    rw [show 2 * ((x + p) / 2) = x + p by omega, Nat.mul_add, Nat.add_mul_mod_self_right]
    exact h4
   have hs : (x + p) / 2 < p := by omega
   clear h4 hb1 hb2 h2 huU
   repeat (first|refine y_37 ?_|(refine y_35 ?_;intro _)|refine y_52 ?_|refine Z82 fun _ => ?_)
   rename_i b4
   refine st_loop (ι := Nat) (fun i => i ≤ 6) (fun i => [(0, pt bu 0), (1, pt bx 0), (4, pt b4 0), (5, N .u64 (crun addg (D 6 x) (D 6 p) i).2), (24, N .i64 i)])
    (fun i => [.blk bx (LV .u64 ((crun addg (D 6 x) (D 6 p) i).1 ++ (D 6 x).drop i)) 27, .blk bu (LV .u64 (D 6 y)) 27, .blk b4 (LV .u64 (D 6 p)) 27]) (fun i => 6 - i) 0 (by omega) (by rw [crun_0]; exact (by repeat (first|apply subL.nil|refine subL.cons (by rfl) ?_))) (by rw [crun_0]; exact (by repeat (first|apply SubW.nil|refine y_8 ?_))) ?_
   intro i hi
   have hc1 := crun_addD_le 6 x p i
   have hl := crun_len addg (D 6 x) (D 6 p) i
   have hol : ((crun addg (D 6 x) (D 6 p) i).1 ++ (D 6 x).drop i).length = 6 := by simp; omega
   have hdg := drop_get (xs := D 6 x) hl
   by_cases h : i < 6
   ·repeat (first|refine y_30 ?_|refine Z01 ?_|refine Z02 ?_|refine Z03 ?_|refine Z04 ?_|refine Z05 ?_|refine Z06 ?_|refine Z07 ?_|refine Z08 ?_|refine Z09 ?_|refine Z10 ?_|refine Z11 ?_|refine Z12 ?_|refine Z13 ?_|refine Z14 ?_|refine Z15 ?_|refine Z17 ?_|refine Z18 ?_|refine Z19 ?_|refine Z22 ?_|refine Z23 ?_|refine Z24 ?_|refine Z25 ?_|refine Z26 ?_|refine Z27 ?_|refine Z28 ?_|refine Z29 ?_|refine Z30 ?_|refine Z31 ?_|refine Z32 ?_|refine Z40 ?_|refine Z46 ?_|refine Z47 ?_|refine Z67 ?_|refine Z70 ?_|refine Z82 fun _ => ?_)
    refine st_draw1 (by rfl) ?_
    repeat (first|(refine Zqf (by intro _ _ _;(first|refine st_callX (by rfl) (by rfl) (by rfl) (add64X _ _ _ hc1) (by rfl) ?_|refine Z01 ?_|refine Z02 ?_|refine Z15 ?_|refine Z17 ?_|refine Z18 ?_|refine Z19 ?_|refine Z22 ?_|refine Z23 ?_|refine Z40 ?_|refine Z46 ?_|refine Z47 ?_|refine Z70 ?_);exact Zq) ?_)|refine y_257 ?_)
    refine Zq0 ?_ (by kernel_rfl)
    rw [hdg, ← addg_fst, ← addg_snd, ← crun_snd, crun_drop addg (D 6 x) (D 6 p) i (by omega)]
    repeat (first|refine y_52 ?_|refine Z82 fun _ => ?_)
    exact st_round (i + 1) (by omega) (by omega) (by repeat (first|apply subL.nil|refine subL.cons (by rfl) ?_)) (by repeat (first|apply SubW.nil|refine y_8 ?_))
   ·have hie : i = 6 := by omega
    subst hie
    have hdr : (D 6 x).drop 6 = [] := List.drop_eq_nil_of_le (by omega)
    have hxp : x + p < W ^ 6 := by omega
    have h0 : (x + p) / W ^ 6 = 0 := Nat.div_eq_of_lt hxp
    have hz : (x + p + 0 * W ^ 6) / 2 = (x + p) / 2 := by rw [Nat.zero_mul, Nat.add_zero]
    rw [crun_addD hxW hpl, hdr, List.append_nil] at *
    simp only [h0] at *
    have hlz := hl0 ((x + p) / 2)
    repeat (first|refine y_25 ?_|(refine st_call (by rfl) (by rfl) (by rfl) (half_spec (x + p) 0 bx hxp (Nat.zero_le 1)) (.cons (by repeat first|apply Find.here|apply Find.there) .nil) (fun _ _ => trivial) (by rfl) ?_; rintro _ _ ⟨rfl, rfl⟩; rw [hz])|refine y_52 ?_|refine Z82 fun _ => ?_)
    exact st_round (y, (x + p) / 2) ⟨by omega, hdv, hs, hm⟩ (by simp only; omega) (by repeat (first|apply subL.nil|refine subL.cons (by rfl) ?_)) (by repeat (first|apply SubW.nil|refine y_8 ?_))
 ·repeat (first|refine y_52 ?_|refine Z82 fun _ => ?_)
  refine st_end0 (by rfl) fun _ hw => post_of hw (Wout := [.blk bu (LV .u64 (D 6 u)) 27, .blk bx (LV .u64 (D 6 x)) 27]) (by exact (by repeat (first|apply SubW.nil|refine y_8 ?_))) ⟨rfl, u, x, rfl, h2, by omega, h3, h4⟩
end Go.Proofs.YtbpmbdlgmmabcaaGreat.L
namespace Go.Proofs.YtbpmbdlgmmabcaaGreat.L
open Go Go.Proofs
set_option maxRecDepth 100000
attribute [local irreducible] Code.wp wpList Af bodyPost L.Go
open Num
attribute [local simp] D_len
instance nzp : NeZero p := ⟨Nat.ne_of_gt p_pos⟩
theorem inv_val {a r : Nat} (h : a * r % p = 1) : r % p = a ^ (p - 2) % p := by
 have hk : Kf.κ p a * Kf.κ p r = 1 := by
  rw [← Kf.κ_mul, ← Kf.κ_1, Kf.κ_eq, h, Nat.mod_eq_of_lt p_prime.1]
 have h2 := Kf.inv_unique p_prime hk
 rw [Kf.inv, ← Kf.κ_pow, Kf.κ_eq] at h2
 exact h2.symm
theorem sub_val {A x y u v : Nat} (hx : A * x % p = u % p) (hy : A * y % p = v % p) (h : v ≤ u) : A * ((x + (p - y % p) % p) % p) % p = (u - v) % p := by
 have e1 : Kf.κ p A * Kf.κ p x = Kf.κ p u := by rw [← Kf.κ_mul, Kf.κ_eq]; exact hx
 have e2 : Kf.κ p A * Kf.κ p y = Kf.κ p v := by rw [← Kf.κ_mul, Kf.κ_eq]; exact hy
 rw [← Kf.κ_eq, Kf.κ_mul, Kf.κ_mod, Kf.κ_add, Kf.κ_mod, Kf.κ_neg (Nat.le_of_lt (Nat.mod_lt _ p_pos)), Kf.κ_mod, Kf.κ_sub h]
 grind
theorem gcd_dvd {a b c d : Nat} (h : Nat.gcd a b = 1) (hc : c ∣ a) (hd : d ∣ b) : Nat.gcd c d = 1 :=
 Nat.eq_one_of_dvd_one (h ▸ Nat.dvd_gcd (Nat.dvd_trans (Nat.gcd_dvd_left c d) hc) (Nat.dvd_trans (Nat.gcd_dvd_right c d) hd))
theorem gcd_subl {a b : Nat} (h : Nat.gcd a b = 1) (hle : b ≤ a) : Nat.gcd (a - b) b = 1 :=
 Nat.eq_one_of_dvd_one (h ▸ Nat.dvd_gcd (by
  have := Nat.dvd_add (Nat.gcd_dvd_left (a - b) b) (Nat.gcd_dvd_right (a - b) b)
  rwa [Nat.sub_add_cancel hle] at this) (Nat.gcd_dvd_right _ _))
theorem gcd_subr {a b : Nat} (h : Nat.gcd a b = 1) (hle : a ≤ b) : Nat.gcd a (b - a) = 1 := by
 rw [Nat.gcd_comm] at h ⊢
 exact gcd_subl h hle
theorem gcd_p {A : Nat} (h0 : 0 < A) (hA : A < p) : Nat.gcd A p = 1 := by
 rcases p_prime.2 _ (Nat.gcd_dvd_right A p) with h | h
 ·exact h
 ·have := Nat.le_of_dvd h0 (h ▸ Nat.gcd_dvd_left A p)
  omega
theorem y_53 {a b : Prop} (k : b) (h : Rm b → a := by intro k;refine st_buildP (kk := .u64) (vs := []) (by rfl) (by rfl) (by rfl) (by rfl) (by rfl) (by rfl) (by rfl) (by rfl) ?_; rw [zero6];exact k.h) : a := h ⟨k⟩
theorem y_54 {a b : Prop} (k : b) (h : Rm b → a := by intro k;(first|refine Z02 ?_|refine Z03 ?_|refine Z04 ?_|refine Z05 ?_|refine Z06 ?_|refine Z07 ?_|refine Z08 ?_|refine Z09 ?_|refine Z10 ?_|refine Z11 ?_|refine Z12 ?_|refine Z13 ?_|refine Z14 ?_|refine Z17 ?_|refine Z18 ?_|refine Z24 ?_|refine Z25 ?_|refine Z26 ?_|refine Z27 ?_|refine Z28 ?_|refine Z29 ?_|refine Z30 ?_|refine Z31 ?_|refine Z32 ?_|refine Z62 ?_|refine Z63 ?_|refine Z64 ?_|refine Z65 ?_|refine Z67 ?_|refine Z77 ?_|refine Z78 ?_|refine Z79 ?_);exact k.h) : a := h ⟨k⟩
theorem y_55 {a b : Prop} (k : b) (h : Rm b → a := by intro k;(first|refine Z02 ?_|refine Z17 ?_|refine Z18 ?_|refine Z62 ?_|refine Z63 ?_|refine Z64 ?_|refine Z65 ?_|refine Z77 ?_|refine Z78 ?_|refine Z79 ?_);exact k.h) : a := h ⟨k⟩
theorem y_56 {a b : Prop} (k : b) (h : Rm b → a := by intro k;(first|refine Z24 ?_|refine Z25 ?_|refine Z26 ?_|refine Z27 ?_|refine Z28 ?_|refine Z67 ?_|refine Z62 ?_);exact k.h) : a := h ⟨k⟩
theorem y_197 {a b : Prop} (k : b) (h : Rm b → a := by intro k;refine Zqf (by intro _ _ _;(first|refine y_55 ?_);exact Zq) ?_;exact k.h) : a := h ⟨k⟩
theorem y_198 {a b : Prop} (k : b) (h : Rm b → a := by intro k;refine Zqp (by intro _ _ _;(first|refine y_56 ?_);exact Zq) ?_;exact k.h) : a := h ⟨k⟩
theorem y_260 {a b : Prop} (k : b) (h : Rm b → a := by intro k;(first|refine y_198 ?_|refine y_185 ?_|refine Zqn ?_);exact k.h) : a := h ⟨k⟩
set_option maxHeartbeats 8000000 in
theorem pinv_spec {a : Nat} (ha : a < W ^ 6) : Spec Tryz.prog 67 [LV .u64 (D 6 a)] NoPre [] (IsV (LV .u64 (D 6 (a ^ (p - 2) % p)))) := by
 refine mk_spec Tryz.func67 rfl rfl rfl fun w _ => ?_
 have hpl := p_lt
 have hp0 := p_pos
 have hp1 := p_prime.1
 have hl0 := fun x => D_len 6 x
 have hlp := hl0 p
 have hAp := Nat.mod_lt a p_pos
 have hz0 := D6_eq (mod_p a) (show 0 < W ^ 6 by decide)
 repeat (first|(refine y_35 ?_;intro _)|refine y_3 (preduce_spec ha) ?_|refine y_37 ?_|refine y_48 ?_|refine y_53 ?_|refine Z02 ?_|refine Z03 ?_|refine Z04 ?_|refine Z05 ?_|refine Z06 ?_|refine Z07 ?_|refine Z08 ?_|refine Z09 ?_|refine Z10 ?_|refine Z11 ?_|refine Z12 ?_|refine Z13 ?_|refine Z14 ?_|refine Z17 ?_|refine Z18 ?_|refine Z24 ?_|refine Z25 ?_|refine Z26 ?_|refine Z27 ?_|refine Z28 ?_|refine Z29 ?_|refine Z30 ?_|refine Z31 ?_|refine Z32 ?_|refine Z62 ?_|refine Z63 ?_|refine Z64 ?_|refine Z65 ?_|refine Z67 ?_|refine Z77 ?_|refine Z78 ?_|refine Z79 ?_|refine Z81 fun _ => ?_|refine Z82 fun _ => ?_)
 refine st_cond (by rfl) (fun hb => ?_) (fun hb => ?_)
 ·rw [hz0] at hb
  have hv : a ^ (p - 2) % p = a % p := by
   rw [Nat.pow_mod, hb, Nat.zero_pow (by have := p_odd; omega), Nat.zero_mod]
  rw [← hv]
  rw [← hv] at hz0
  have hla := hl0 (a ^ (p - 2) % p)
  repeat (first|refine y_54 ?_|refine Z81 fun _ => ?_|refine Z82 fun _ => ?_)
  refine Zec fun _ hw => post_of hw SubW.nil ⟨?_, rfl⟩
  rfl
 ·rw [hz0] at hb
  have hA0 : 0 < a % p := by omega
  have hg0 := gcd_p hA0 hAp
  have hi0 : a % p * 1 % p = (a % p) % p := by rw [Nat.mul_one]
  have hi1 : a % p * 0 % p = p % p := by rw [Nat.mul_zero, Nat.mod_self, Nat.zero_mod]
  have hval : ∀ r, r < p → a % p * r % p = 1 % p → r = a ^ (p - 2) % p := by
   intro r hr h
   rw [Nat.mod_mul_mod, Nat.mod_eq_of_lt hp1] at h
   rw [← inv_val h, Nat.mod_eq_of_lt hr]
  generalize a ^ (p - 2) % p = R at *
  generalize a % p = A at *
  clear hb hz0
  repeat (first|(refine y_35 ?_;intro _)|refine y_54 ?_|refine Z81 fun _ => ?_|refine Z82 fun _ => ?_)
  rename_i b1 b2 b3 b4 b5 b6 b7
  refine st_loop (ι := (Nat × Nat) × (Nat × Nat)) (fun q => (0 < q.1.1 ∧ q.1.1 ≤ p ∧ q.2.1 < p ∧ A * q.2.1 % p = q.1.1 % p) ∧ (0 < q.1.2 ∧ q.1.2 ≤ p ∧ q.2.2 < p ∧ A * q.2.2 % p = q.1.2 % p) ∧ Nat.gcd q.1.1 q.1.2 = 1)
   (fun _ => [(2, pt b2 0), (3, pt b3 0), (4, pt b4 0), (5, pt b5 0), (6, pt b6 0), (7, pt b7 0)])
   (fun q => [.blk b2 (LV .u64 (List.replicate 6 0)) 27, .blk b3 (LV .u64 (D 6 q.1.1)) 27, .blk b4 (LV .u64 (D 6 q.1.2)) 27, .blk b5 (LV .u64 (D 6 q.2.1)) 27, .blk b6 (LV .u64 (D 6 q.2.2)) 27, .blk b7 (LV .u64 (D 6 1)) 27]) (fun q => q.1.1 + q.1.2) ((A, p), (1, 0))
   ⟨⟨hA0, Nat.le_of_lt hAp, hp1, hi0⟩, ⟨hp0, Nat.le_refl p, hp0, hi1⟩, hg0⟩ (by repeat (first|apply subL.nil|refine subL.cons (by rfl) ?_)) (by repeat (first|apply SubW.nil|refine y_8 ?_)) ?_
  rintro ⟨⟨u, v⟩, ⟨x, y⟩⟩ ⟨⟨hu0, hu, hx, hux⟩, ⟨hv0, hv, hy, hvy⟩, hg⟩
  simp only at hu0 hu hx hux hv0 hv hy hvy hg ⊢
  have huW : u < W ^ 6 := by omega
  have hvW : v < W ^ 6 := by omega
  repeat (first|(refine st_call (by rfl) (by rfl) (by rfl) (even_spec u x A b3 b5 hu0 huW hx hux) (.cons (by repeat first|apply Find.here|apply Find.there) (.cons (by repeat first|apply Find.here|apply Find.there) .nil)) (fun _ _ => trivial) (by rfl) ?_; rintro _ _ ⟨rfl, u1, x1, rfl, hd1, ho1, hx1, hux1⟩)|(refine st_call (by rfl) (by rfl) (by rfl) (even_spec v y A b4 b6 hv0 hvW hy hvy) (.cons (by repeat first|apply Find.here|apply Find.there) (.cons (by repeat first|apply Find.here|apply Find.there) .nil)) (fun _ _ => trivial) (by rfl) ?_; rintro _ _ ⟨rfl, v1, y1, rfl, hd2, ho2, hy1, hvy1⟩)|refine y_54 ?_|refine Z81 fun _ => ?_|refine Z82 fun _ => ?_)
  have hg1 := gcd_dvd hg hd1 hd2
  have hu1 := Nat.le_of_dvd hu0 hd1
  have hv1 := Nat.le_of_dvd hv0 hd2
  have huW1 : u1 < W ^ 6 := by omega
  have hvW1 : v1 < W ^ 6 := by omega
  have hz1 := D6_eq huW1 (show 1 < W ^ 6 by decide)
  have hz2 := D6_eq hvW1 (show 1 < W ^ 6 by decide)
  clear hux hvy hd1 hd2 hg
  have hlx1 := hl0 x1
  have hly1 := hl0 y1
  have hlu1 := hl0 u1
  have hlv1 := hl0 v1
  refine st_cond (by rfl) (fun hb => ?_) (fun hb => ?_)
  ·rw [hz1] at hb
   have hr := hval x1 hx1 (by rw [hux1, hb])
   repeat (first|refine y_54 ?_|refine Z81 fun _ => ?_|refine Z82 fun _ => ?_)
   refine Zec fun _ hw => post_of hw SubW.nil ⟨?_, rfl⟩
   rw [hr]
  rw [hz1] at hb
  repeat (first|refine y_54 ?_|refine Z81 fun _ => ?_|refine Z82 fun _ => ?_)
  refine st_cond (by rfl) (fun hb2 => ?_) (fun hb2 => ?_)
  ·rw [hz2] at hb2
   have hr := hval y1 hy1 (by rw [hvy1, hb2])
   repeat (first|refine y_54 ?_|refine Z81 fun _ => ?_|refine Z82 fun _ => ?_)
   refine Zec fun _ hw => post_of hw SubW.nil ⟨?_, rfl⟩
   rw [hr]
  rw [hz2] at hb2
  have hne : u1 ≠ v1 := by
   rintro rfl
   rw [Nat.gcd_self] at hg1
   exact hb hg1
  have hp1 := D_lt 6 u1
  have hp2 := D_lt 6 v1
  by_cases hlt : u1 < v1
  ·have q1 : 0 < u1 := by omega
   have q2 : u1 ≤ p := by omega
   have q3 : 0 < v1 - u1 := by omega
   have q4 : v1 - u1 ≤ p := by omega
   have ho : ord3 (V (D 6 u1)) (V (D 6 v1)) = -1 := by rw [V_D' huW1, V_D' hvW1]; exact ord3_lt hlt
   repeat (first|refine y_54 ?_|refine Z81 fun _ => ?_|refine Z82 fun _ => ?_)
   refine st_draw1 (by rfl) ?_
   repeat (first|refine y_197 ?_|(refine Zqp (by intro _ _ _;(refine st_callV (by rfl) (by rfl) (by rfl) (cmp_spec _ _ (D 6 u1) (D 6 v1) hp1 hp2 (by omega) (by omega)) (fun w hw => ⟨RdW.arrAll (m := 6) (by repeat first|apply Find.here|apply Find.there) hlu1 w hw, RdW.arrAll (m := 6) (by repeat first|apply Find.here|apply Find.there) hlv1 w hw⟩) (by rfl) ?_; rw [ho]);exact Zq) ?_)|refine y_260 ?_)
   refine Zq0 ?_ (by kernel_rfl)
   rw [show decide (Int.ofNat 0 ≤ -1) = false from by decide]
   repeat (first|refine y_54 ?_|refine Z81 fun _ => ?_|refine Z82 fun _ => ?_)
   refine st_draw1 (by rfl) ?_
   repeat (first|refine y_197 ?_|refine y_41 (minusOf_spec hvW1 (Nat.le_of_lt hlt)) ?_|refine y_41 (psub_spec (Nat.lt_trans hy1 hpl) (Nat.lt_trans hx1 hpl)) ?_|refine y_260 ?_)
   refine Zq0 ?_ (by kernel_rfl)
   repeat (first|refine y_54 ?_|refine Z81 fun _ => ?_|refine Z82 fun _ => ?_)
   exact st_round ((u1, v1 - u1), (x1, (y1 + (p - x1 % p) % p) % p)) ⟨⟨q1, q2, hx1, hux1⟩, ⟨q3, q4, Nat.mod_lt _ hp0, sub_val hvy1 hux1 (Nat.le_of_lt hlt)⟩, gcd_subr hg1 (Nat.le_of_lt hlt)⟩ (by simp only; omega) (by repeat (first|apply subL.nil|refine subL.cons (by rfl) ?_)) (by repeat (first|apply SubW.nil|refine y_8 ?_))
  ·have q1 : 0 < v1 := by omega
   have q2 : v1 ≤ p := by omega
   have q3 : 0 < u1 - v1 := by omega
   have q4 : u1 - v1 ≤ p := by omega
   have ho : ord3 (V (D 6 u1)) (V (D 6 v1)) = 1 := by rw [V_D' huW1, V_D' hvW1]; exact ord3_gt (by omega)
   repeat (first|refine y_54 ?_|refine Z81 fun _ => ?_|refine Z82 fun _ => ?_)
   refine st_draw1 (by rfl) ?_
   repeat (first|refine y_197 ?_|(refine Zqp (by intro _ _ _;(refine st_callV (by rfl) (by rfl) (by rfl) (cmp_spec _ _ (D 6 u1) (D 6 v1) hp1 hp2 (by omega) (by omega)) (fun w hw => ⟨RdW.arrAll (m := 6) (by repeat first|apply Find.here|apply Find.there) hlu1 w hw, RdW.arrAll (m := 6) (by repeat first|apply Find.here|apply Find.there) hlv1 w hw⟩) (by rfl) ?_; rw [ho]);exact Zq) ?_)|refine y_260 ?_)
   refine Zq0 ?_ (by kernel_rfl)
   rw [show decide ((0 : Nat) ≤ 1) = true from by decide]
   repeat (first|refine y_54 ?_|refine Z81 fun _ => ?_|refine Z82 fun _ => ?_)
   refine st_draw1 (by rfl) ?_
   repeat (first|refine y_197 ?_|refine y_41 (minusOf_spec huW1 (Nat.le_of_not_lt hlt)) ?_|refine y_41 (psub_spec (Nat.lt_trans hx1 hpl) (Nat.lt_trans hy1 hpl)) ?_|refine y_260 ?_)
   refine Zq0 ?_ (by kernel_rfl)
   repeat (first|refine y_54 ?_|refine Z81 fun _ => ?_|refine Z82 fun _ => ?_)
   exact st_round ((u1 - v1, v1), ((x1 + (p - y1 % p) % p) % p, y1)) ⟨⟨q3, q4, Nat.mod_lt _ hp0, sub_val hux1 hvy1 (Nat.le_of_not_lt hlt)⟩, ⟨q1, q2, hy1, hvy1⟩, gcd_subl hg1 (Nat.le_of_not_lt hlt)⟩ (by simp only; omega) (by repeat (first|apply subL.nil|refine subL.cons (by rfl) ?_)) (by repeat (first|apply SubW.nil|refine y_8 ?_))
end Go.Proofs.YtbpmbdlgmmabcaaGreat.L
namespace Go.Proofs.YtbpmbdlgmmabcaaGreat.L
open Go Go.Proofs
set_option maxRecDepth 100000
attribute [local irreducible] Code.wp wpList Af bodyPost L.Go
open Num
attribute [local simp] D_len
abbrev Fq := Fin p
abbrev kp (a : Nat) : Fq := Kf.κ p a
theorem kp_val (x : Fq) : kp x.val = x := Kf.κ_val x
theorem val_lt (x : Fq) : x.val < W ^ 6 := Nat.lt_trans x.isLt p_lt
theorem p_3 : Kf.P3 p := ⟨p_prime, by decide +kernel⟩
theorem kadd_eq (a b : Nat) : (a + b) % p = (kp a + kp b).val := by rw [← Kf.κ_add, Kf.val_κ]
theorem kmul_eq (a b : Nat) : a * b % p = (kp a * kp b).val := by rw [← Kf.κ_mul, Kf.val_κ]
theorem kneg_eq (a : Nat) : (p - a % p) % p = (- kp a).val := by rw [← Kf.val_κ (n := p), Kf.κ_neg (Nat.le_of_lt (Nat.mod_lt _ p_pos)), Kf.κ_mod]
theorem ksub_eq (a b : Nat) : (a + (p - b % p) % p) % p = (kp a - kp b).val := by
 rw [← Kf.val_κ (n := p), Kf.κ_add, Kf.κ_mod, Kf.κ_neg (Nat.le_of_lt (Nat.mod_lt _ p_pos)), Kf.κ_mod]
 exact congrArg Fin.val (by grind)
theorem kpow_eq (a e : Nat) : a ^ e % p = (kp a ^ e).val := by rw [← Kf.κ_pow, Kf.val_κ]
theorem kinv_eq (a : Nat) : a ^ (p - 2) % p = (Kf.inv (kp a)).val := by rw [kpow_eq]; rfl
theorem kred_spec {a : Nat} (ha : a < W ^ 6) : Spec Tryz.prog 73 [LV .u64 (D 6 a)] NoPre [] (IsV (LV .u64 (D 6 (kp a).val))) := preduce_spec ha
theorem kadd_spec {a b : Nat} (ha : a < W ^ 6) (hb : b < W ^ 6) : Spec Tryz.prog 63 [LV .u64 (D 6 a), LV .u64 (D 6 b)] NoPre [] (IsV (LV .u64 (D 6 (kp a + kp b).val))) := by
 rw [← kadd_eq]; exact padd_spec ha hb
theorem kmul_spec {a b : Nat} (ha : a < W ^ 6) (hb : b < W ^ 6) : Spec Tryz.prog 61 [LV .u64 (D 6 a), LV .u64 (D 6 b)] NoPre [] (IsV (LV .u64 (D 6 (kp a * kp b).val))) := by
 rw [← kmul_eq]; exact pmul_spec ha hb
theorem ksub_spec {a b : Nat} (ha : a < W ^ 6) (hb : b < W ^ 6) : Spec Tryz.prog 64 [LV .u64 (D 6 a), LV .u64 (D 6 b)] NoPre [] (IsV (LV .u64 (D 6 (kp a - kp b).val))) := by
 rw [← ksub_eq]; exact psub_spec ha hb
theorem kneg_spec {a : Nat} (ha : a < W ^ 6) : Spec Tryz.prog 68 [LV .u64 (D 6 a)] NoPre [] (IsV (LV .u64 (D 6 (- kp a).val))) := by
 rw [← kneg_eq]; exact pneg_spec ha
theorem kinv_spec {a : Nat} (ha : a < W ^ 6) : Spec Tryz.prog 67 [LV .u64 (D 6 a)] NoPre [] (IsV (LV .u64 (D 6 (Kf.inv (kp a)).val))) := by
 rw [← kinv_eq]; exact pinv_spec ha
theorem kpow_spec {a : Nat} (ha : a < W ^ 6) (s : Value) (xs : List Nat) (hx : Lt 18446744073709551616 xs) (hl : xs.length < 65536) :
  Spec Tryz.prog 117 [LV .u64 (D 6 a), s] (fun w => Rd w s (xs.map (N .u64))) [] (IsV (LV .u64 (D 6 (kp a ^ V xs).val))) := by
 rw [← kpow_eq]; exact ppow_spec ha s xs hx hl
theorem fadd_spec' (x y : Fq) : Spec Tryz.prog 63 [LV .u64 (D 6 x.val), LV .u64 (D 6 y.val)] NoPre [] (IsV (LV .u64 (D 6 (x + y).val))) := by
 have := kadd_spec (val_lt x) (val_lt y); rwa [kp_val, kp_val] at this
theorem fmul_spec' (x y : Fq) : Spec Tryz.prog 61 [LV .u64 (D 6 x.val), LV .u64 (D 6 y.val)] NoPre [] (IsV (LV .u64 (D 6 (x * y).val))) := by
 have := kmul_spec (val_lt x) (val_lt y); rwa [kp_val, kp_val] at this
theorem fsub_spec' (x y : Fq) : Spec Tryz.prog 64 [LV .u64 (D 6 x.val), LV .u64 (D 6 y.val)] NoPre [] (IsV (LV .u64 (D 6 (x - y).val))) := by
 have := ksub_spec (val_lt x) (val_lt y); rwa [kp_val, kp_val] at this
theorem fneg_spec' (x : Fq) : Spec Tryz.prog 68 [LV .u64 (D 6 x.val)] NoPre [] (IsV (LV .u64 (D 6 (-x).val))) := by
 have := kneg_spec (val_lt x); rwa [kp_val] at this
theorem finv_spec' (x : Fq) : Spec Tryz.prog 67 [LV .u64 (D 6 x.val)] NoPre [] (IsV (LV .u64 (D 6 (Kf.inv x).val))) := by
 have := kinv_spec (val_lt x); rwa [kp_val] at this
theorem D6_iff (x y : Fq) : (D 6 x.val = D 6 y.val) = (x = y) := by rw [D6_eq (val_lt x) (val_lt y)]; exact propext ⟨Fin.ext, fun h => h ▸ rfl⟩
theorem val_0 : (0 : Fq).val = 0 := rfl
theorem quarter_lit : ([17185665809301629611, 552535377879302143, 15693976698673184137, 15644892545385841839, 10576397981472451381, 468449654411884966] : List Nat) = D 6 ((p + 1) / 4) := by decide +kernel
theorem fsign_spec {a : Nat} (ha : a < W ^ 6) : Spec Tryz.prog 74 [LV .u64 (D 6 a)] NoPre [] (IsV (N .i64 (Kf.sg (kp a)))) := by
 refine mk_spec Tryz.func74 rfl rfl rfl fun w _ => ?_
 have hl0 := fun x => D_len 6 x
 have hla := hl0 (kp a).val
 have hb := low_bit (val_lt (kp a))
 repeat (first|refine y_3 (kred_spec ha) ?_|rw [hb]|refine Z02 ?_|refine Z03 ?_|refine Z04 ?_|refine Z05 ?_|refine Z06 ?_|refine Z07 ?_|refine Z08 ?_|refine Z09 ?_|refine Z10 ?_|refine Z11 ?_|refine Z12 ?_|refine Z13 ?_|refine Z14 ?_|refine Z24 ?_|refine Z25 ?_|refine Z26 ?_|refine Z27 ?_|refine Z28 ?_|refine Z40 ?_|refine Z44 ?_|refine Z45 ?_|refine Z57 ?_|refine Z67 ?_|refine Z74 ?_|refine Z80 ?_|refine Z81 fun _ => ?_)
 refine Ze1 fun _ hw => post_of hw SubW.nil ⟨?_, rfl⟩
 rfl
theorem quarter_spec : Spec Tryz.prog 116 [] NoPre [] (IsV (LV .u64 (D 6 ((p + 1) / 4)))) := by
 refine mk_spec Tryz.func116 rfl rfl rfl fun w _ => ?_
 repeat (first|(refine y_35 ?_;intro _)|refine st_buildP (kk := .u64) (vs := [17185665809301629611, 552535377879302143, 15693976698673184137, 15644892545385841839, 10576397981472451381, 468449654411884966]) (by rfl) (by rfl) (by rfl) (by rfl) (by rfl) (by rfl) (by rfl) (by rfl) ?_|refine Z03 ?_|refine Z04 ?_|refine Z05 ?_|refine Z06 ?_|refine Z07 ?_|refine Z08 ?_|refine Z09 ?_|refine Z10 ?_|refine Z11 ?_|refine Z12 ?_|refine Z13 ?_|refine Z14 ?_|refine Z29 ?_|refine Z30 ?_|refine Z31 ?_|refine Z32 ?_|refine Z65 ?_|refine Z82 fun _ => ?_)
 refine Zec fun _ hw => post_of hw SubW.nil ⟨?_, rfl⟩
 rw [← quarter_lit]; rfl
theorem y_57 {a b : Prop} (k : b) (h : Rm b → a := by intro k;(first|refine Z03 ?_|refine Z04 ?_|refine Z05 ?_|refine Z06 ?_|refine Z07 ?_|refine Z08 ?_|refine Z09 ?_|refine Z10 ?_|refine Z11 ?_|refine Z12 ?_|refine Z13 ?_|refine Z14 ?_|refine Z17 ?_|refine Z18 ?_|refine Z24 ?_|refine Z25 ?_|refine Z26 ?_|refine Z27 ?_|refine Z28 ?_|refine Z29 ?_|refine Z30 ?_|refine Z31 ?_|refine Z32 ?_|refine Z67 ?_);exact k.h) : a := h ⟨k⟩
theorem evn_spec (x : Fq) : Spec Tryz.prog 118 [LV .u64 (D 6 x.val)] NoPre [] (IsV (LV .u64 (D 6 (Kf.evn x).val))) := by
 refine mk_spec Tryz.func118 rfl rfl rfl fun w _ => ?_
 have hl0 := fun x => D_len 6 x
 have hs := fsign_spec (val_lt x)
 rw [kp_val] at hs
 repeat (first|(refine y_35 ?_;intro _)|refine y_3 hs ?_|refine y_57 ?_|refine Z81 fun _ => ?_|refine Z82 fun _ => ?_)
 refine st_cond (by rfl) (fun h => ?_) (fun h => ?_)
 ·have he : Kf.evn x = -x := if_pos h
  repeat (first|refine y_3 (fneg_spec' x) ?_|refine y_57 ?_|refine Z81 fun _ => ?_|refine Z82 fun _ => ?_)
  refine Zec fun _ hw => post_of hw SubW.nil ⟨?_, rfl⟩
  rw [he]
 ·have he : Kf.evn x = x := if_neg h
  repeat (first|refine y_57 ?_|refine Z81 fun _ => ?_|refine Z82 fun _ => ?_)
  refine Zec fun _ hw => post_of hw SubW.nil ⟨?_, rfl⟩
  rw [he]
theorem rt_eq (a : Nat) : kp a ^ V (D 6 ((p + 1) / 4)) = Kf.rt (kp a) := by
 rw [V_D' (by have := p_lt; omega)]; rfl
theorem y_58 {a b : Prop} (k : b) (h : Rm b → a := by intro k;(first|refine Z01 ?_|refine Z02 ?_|refine Z62 ?_|refine Z63 ?_|refine Z64 ?_|refine Z65 ?_|refine Z77 ?_|refine Z78 ?_|refine Z79 ?_);exact k.h) : a := h ⟨k⟩
theorem y_59 {a b : Prop} (k : b) (h : Rm b → a := by intro k;refine R.Zpb (by rfl) (by intro _ _ _;refine st_alloc (v := LV .u64 (List.replicate 6 0)) (by rfl) (by rfl) fun _ => ?_;exact R.Zpbx) ?_;exact k.h) : a := h ⟨k⟩
theorem y_60 {a b : Prop} (k : b) (h : Rm b → a := by intro k;refine R.Zpn (by rfl) (by intro _ _ _;(first|refine Z81 fun _ => ?_|refine Z82 fun _ => ?_);exact R.Zpx) ?_;exact k.h) : a := h ⟨k⟩
theorem y_61 {a b : Prop} (k : b) (h : Rm b → a := by intro k;(first|refine Z01 ?_|refine Z02 ?_|refine Z03 ?_|refine Z04 ?_|refine Z05 ?_|refine Z06 ?_|refine Z07 ?_|refine Z08 ?_|refine Z09 ?_|refine Z10 ?_|refine Z11 ?_|refine Z12 ?_|refine Z13 ?_|refine Z14 ?_|refine Z24 ?_|refine Z25 ?_|refine Z26 ?_|refine Z27 ?_|refine Z28 ?_|refine Z29 ?_|refine Z30 ?_|refine Z31 ?_|refine Z32 ?_|refine Z62 ?_|refine Z63 ?_|refine Z64 ?_|refine Z65 ?_|refine Z67 ?_|refine Z77 ?_|refine Z78 ?_|refine Z79 ?_);exact k.h) : a := h ⟨k⟩
theorem y_199 {a b : Prop} (k : b) (h : Rm b → a := by intro k;refine R.Zps (by rfl) (by intro _ _ _;(first|refine y_10 ?_);exact Zqq) ?_;exact k.h) : a := h ⟨k⟩
theorem fsqrt_spec {a : Nat} (ha : a < W ^ 6) : Spec Tryz.prog 70 [LV .u64 (D 6 a)] NoPre [] (IsV (.tuple [LV .u64 (D 6 (Kf.K2.fsq (kp a)).1.val), .bool (Kf.K2.fsq (kp a)).2].toArray)) := by
 refine mk_spec Tryz.func70 rfl rfl rfl fun w _ => ?_
 have hl0 := fun x => D_len 6 x
 have hlq := hl0 ((p + 1) / 4)
 have hpw := fun s => kpow_spec ha s (D 6 ((p + 1) / 4)) (D_lt _ _) (by omega)
 rw [rt_eq] at hpw
 repeat (first|(refine y_35 ?_;intro _)|refine st_callV (by rfl) (by rfl) (by rfl) (quarter_spec) (fun _ _ => trivial) (by rfl) ?_|refine Z01 ?_|refine Z02 ?_|refine Z03 ?_|refine Z04 ?_|refine Z05 ?_|refine Z06 ?_|refine Z07 ?_|refine Z08 ?_|refine Z09 ?_|refine Z10 ?_|refine Z11 ?_|refine Z12 ?_|refine Z13 ?_|refine Z14 ?_|refine Z24 ?_|refine Z25 ?_|refine Z26 ?_|refine Z27 ?_|refine Z28 ?_|refine Z29 ?_|refine Z30 ?_|refine Z31 ?_|refine Z32 ?_|refine Z62 ?_|refine Z63 ?_|refine Z64 ?_|refine Z65 ?_|refine Z67 ?_|refine Z77 ?_|refine Z78 ?_|refine Z79 ?_|refine Z81 fun _ => ?_|refine Z82 fun _ => ?_)
 refine R.st_perm [0, 1, 2, 3, 4] (by rfl) ?_
 repeat (first|(refine R.Zpf (by rfl) (by intro _ _ _;(first|refine y_58 ?_);exact Zq) ?_)|(refine R.Zpp (by rfl) (by intro _ _ _;(first|refine y_56 ?_);exact Zq) ?_)|(refine R.Zpp (by rfl) (by intro _ _ _;refine st_callV (by rfl) (by rfl) (by rfl) (hpw _) (RdW.arrAll (m := 6) (by repeat first|apply Find.here|apply Find.there) hlq) (by rfl) ?_;exact Zq) ?_)|refine y_199 ?_|(refine y_59 ?_;intro _)|(refine y_60 ?_;intro _)|refine R.Zpo (by rfl) ?_)
 refine R.Zp0 ?_
 repeat (first|refine y_61 ?_|refine Z81 fun _ => ?_|refine Z82 fun _ => ?_)
 refine st_draw1 (by rfl) ?_
 repeat (first|(refine Zqf (by intro _ _ _;(first|refine y_58 ?_);exact Zq) ?_)|refine y_41 (fmul_spec' (Kf.rt (kp a)) (Kf.rt (kp a))) ?_|refine y_41 (kred_spec ha) ?_|refine y_260 ?_)
 refine Zq0 ?_ (by kernel_rfl)
 repeat (first|refine y_61 ?_|refine Z81 fun _ => ?_|refine Z82 fun _ => ?_)
 by_cases h2 : Kf.rt (kp a) * Kf.rt (kp a) = kp a
 ·have hq : Kf.K2.fsq (kp a) = (Kf.evn (Kf.rt (kp a)), true) := if_pos h2
  have hb : (!decide (D 6 (Kf.rt (kp a) * Kf.rt (kp a)).val = D 6 (kp a).val)) = false := by rw [h2]; simp
  rw [hq, hb]
  have hle := hl0 (Kf.evn (Kf.rt (kp a))).val
  repeat (first|refine y_3 (evn_spec (Kf.rt (kp a))) ?_|refine y_61 ?_|refine Z81 fun _ => ?_|refine Z82 fun _ => ?_)
  refine st_endc2_LV (by rfl) (by rfl) (by rfl) (by repeat first|apply Find.here|apply Find.there) (by rfl) (by rfl) (by first | with_reducible assumption | (simp [*]; done)) fun _ hw => post_of hw SubW.nil ⟨?_, rfl⟩
  rfl
 ·have hq : Kf.K2.fsq (kp a) = (0, false) := if_neg h2
  have hb : (!decide (D 6 (Kf.rt (kp a) * Kf.rt (kp a)).val = D 6 (kp a).val)) = true := by simp [D6_iff, h2]
  rw [hq, hb]
  repeat (first|refine y_53 ?_|refine Z01 ?_|refine Z02 ?_|refine Z03 ?_|refine Z04 ?_|refine Z05 ?_|refine Z06 ?_|refine Z07 ?_|refine Z08 ?_|refine Z09 ?_|refine Z10 ?_|refine Z11 ?_|refine Z12 ?_|refine Z13 ?_|refine Z14 ?_|refine Z24 ?_|refine Z25 ?_|refine Z26 ?_|refine Z27 ?_|refine Z28 ?_|refine Z29 ?_|refine Z30 ?_|refine Z31 ?_|refine Z32 ?_|refine Z62 ?_|refine Z63 ?_|refine Z64 ?_|refine Z65 ?_|refine Z67 ?_|refine Z77 ?_|refine Z78 ?_|refine Z79 ?_|refine Z81 fun _ => ?_|refine Z82 fun _ => ?_)
  refine st_endc2_LV (by rfl) (by rfl) (by rfl) (by repeat first|apply Find.here|apply Find.there) (by rfl) (by rfl) (by first | with_reducible assumption | (simp [*]; done)) fun _ hw => post_of hw SubW.nil ⟨?_, rfl⟩
  rfl
end Go.Proofs.YtbpmbdlgmmabcaaGreat.L
namespace Go.Proofs.YtbpmbdlgmmabcaaGreat.L
open Go Go.Proofs
set_option maxRecDepth 100000
attribute [local irreducible] Code.wp wpList Af bodyPost L.Go PartAt
open Num
attribute [local simp] D_len
abbrev F2 := Kf.K2 p
abbrev k2 (a b : Nat) : F2 := ⟨kp a, kp b⟩
abbrev E2 (x : F2) : List Nat := D 6 x.re.val ++ D 6 x.im.val
theorem k2_val (x : F2) : k2 x.re.val x.im.val = x := by unfold k2; rw [kp_val, kp_val]
theorem E2_len (x : F2) : (E2 x).length = 12 := by simp
theorem y_62 {a b : Prop} (k : b) (h : Rm b → a := by intro k;refine st_alloc (v := LV .u64 (List.replicate 12 0)) (by rfl) (by rfl) ?_;exact k.h) : a := h ⟨k⟩
theorem y_63 {a b : Prop} (k : b) (h : Rm b → a := by intro k;(first|refine Z03 ?_|refine Z04 ?_|refine Z05 ?_|refine Z06 ?_|refine Z07 ?_|refine Z08 ?_|refine Z09 ?_|refine Z10 ?_|refine Z11 ?_|refine Z12 ?_|refine Z13 ?_|refine Z14 ?_|refine Z24 ?_|refine Z25 ?_|refine Z26 ?_|refine Z27 ?_|refine Z28 ?_|refine Z29 ?_|refine Z30 ?_|refine Z31 ?_|refine Z32 ?_|refine Z65 ?_|refine Z67 ?_);exact k.h) : a := h ⟨k⟩
theorem y_64 {a b : Prop} (k : b) (h : Rm b → a := by intro k;refine st_fld (by rfl) (by first | exact (show _ = some (0, 6) from rfl) | exact (show _ = some (6, 6) from rfl) | exact (show _ = some (0, 12) from rfl) | exact (show _ = some (12, 12) from rfl) | exact (show _ = some (24, 1) from rfl)) (by rfl) (by rfl) ?_;exact k.h) : a := h ⟨k⟩
theorem y_65 {a b : Prop} (k : b) (h : Rm b → a := by intro k;refine st_build2 (by rfl) (by rfl) (by rfl) (by rfl) (by simp; done) (by simp; done) (by rfl) ?_;exact k.h) : a := h ⟨k⟩
theorem y_66 {a b : Prop} (k : b) (h : Rm b → a := by intro k;refine Zqp (by intro _ _ _;(refine st_ldp (by rfl) (by repeat first|apply Find.here|apply Find.there) (by rfl) (by rfl) (by first | (refine PartAt.l ?_; (simp; done)) | (refine PartAt.r ?_ ?_ <;> (simp; done)) | (refine PartAt.all ?_; (simp; done))) (by rfl) ?_);exact Zq) ?_;exact k.h) : a := h ⟨k⟩
theorem y_200 {a b : Prop} (k : b) (h : Rm b → a := by intro k;(first|refine y_64 ?_|refine y_65 ?_|refine Z65 ?_);exact k.h) : a := h ⟨k⟩
theorem y_261 {a b : Prop} (k : b) (h : Rm b → a := by intro k;refine Zqf (by intro _ _ _;(first|refine y_200 ?_);exact Zq) ?_;exact k.h) : a := h ⟨k⟩
theorem y_279 {a b : Prop} (k : b) (h : Rm b → a := by intro k;(first|refine y_261 ?_|refine y_66 ?_);exact k.h) : a := h ⟨k⟩
theorem sred_spec {a b : Nat} (ha : a < W ^ 6) (hb : b < W ^ 6) : Spec Tryz.prog 69 [LV .u64 (D 6 a ++ D 6 b)] NoPre [] (IsV (LV .u64 (E2 (k2 a b)))) := by
 refine mk_spec Tryz.func69 rfl rfl rfl fun w _ => ?_
 have hl0 := fun x => D_len 6 x
 repeat (first|(refine y_62 ?_;intro _)|refine y_63 ?_|refine Z81 fun _ => ?_|refine Z82 fun _ => ?_)
 refine st_draw1 (by rfl) ?_
 repeat (first|refine y_279 ?_|refine y_41 (kred_spec ha) ?_|refine y_41 (kred_spec hb) ?_|refine y_259 ?_)
 refine Zq0 ?_ (by kernel_rfl)
 repeat (first|refine y_63 ?_|refine Z81 fun _ => ?_|refine Z82 fun _ => ?_)
 refine Zec fun _ hw => post_of hw SubW.nil ⟨?_, rfl⟩
 rfl
theorem sadd_spec {a b e f : Nat} (ha : a < W ^ 6) (hb : b < W ^ 6) (he : e < W ^ 6) (hf : f < W ^ 6) : Spec Tryz.prog 32 [LV .u64 (D 6 a ++ D 6 b), LV .u64 (D 6 e ++ D 6 f)] NoPre [] (IsV (LV .u64 (E2 (Kf.K2.add (k2 a b) (k2 e f))))) := by
 refine mk_spec Tryz.func32 rfl rfl rfl fun w _ => ?_
 have hl0 := fun x => D_len 6 x
 repeat (first|(refine y_62 ?_;intro _)|refine y_63 ?_|refine Z81 fun _ => ?_|refine Z82 fun _ => ?_)
 refine st_draw1 (by rfl) ?_
 repeat (first|refine y_279 ?_|refine y_41 (kadd_spec ha he) ?_|refine y_41 (kadd_spec hb hf) ?_|refine y_259 ?_)
 refine Zq0 ?_ (by kernel_rfl)
 repeat (first|refine y_63 ?_|refine Z81 fun _ => ?_|refine Z82 fun _ => ?_)
 refine Zec fun _ hw => post_of hw SubW.nil ⟨?_, rfl⟩
 rfl
theorem sneg_spec {a b : Nat} (ha : a < W ^ 6) (hb : b < W ^ 6) : Spec Tryz.prog 33 [LV .u64 (D 6 a ++ D 6 b)] NoPre [] (IsV (LV .u64 (E2 (Kf.K2.neg (k2 a b))))) := by
 refine mk_spec Tryz.func33 rfl rfl rfl fun w _ => ?_
 have hl0 := fun x => D_len 6 x
 repeat (first|(refine y_62 ?_;intro _)|refine y_63 ?_|refine Z81 fun _ => ?_|refine Z82 fun _ => ?_)
 refine st_draw1 (by rfl) ?_
 repeat (first|refine y_279 ?_|refine y_41 (kneg_spec ha) ?_|refine y_41 (kneg_spec hb) ?_|refine y_259 ?_)
 refine Zq0 ?_ (by kernel_rfl)
 repeat (first|refine y_63 ?_|refine Z81 fun _ => ?_|refine Z82 fun _ => ?_)
 refine Zec fun _ hw => post_of hw SubW.nil ⟨?_, rfl⟩
 rfl
theorem ssub_spec {a b e f : Nat} (ha : a < W ^ 6) (hb : b < W ^ 6) (he : e < W ^ 6) (hf : f < W ^ 6) : Spec Tryz.prog 42 [LV .u64 (D 6 a ++ D 6 b), LV .u64 (D 6 e ++ D 6 f)] NoPre [] (IsV (LV .u64 (E2 (Kf.K2.sub (k2 a b) (k2 e f))))) := by
 refine mk_spec Tryz.func42 rfl rfl rfl fun w _ => ?_
 have hl0 := fun x => D_len 6 x
 repeat (first|(refine y_62 ?_;intro _)|refine y_63 ?_|refine Z81 fun _ => ?_|refine Z82 fun _ => ?_)
 refine st_draw1 (by rfl) ?_
 repeat (first|refine y_279 ?_|refine y_41 (ksub_spec ha he) ?_|refine y_41 (ksub_spec hb hf) ?_|refine y_259 ?_)
 refine Zq0 ?_ (by kernel_rfl)
 repeat (first|refine y_63 ?_|refine Z81 fun _ => ?_|refine Z82 fun _ => ?_)
 refine Zec fun _ hw => post_of hw SubW.nil ⟨?_, rfl⟩
 rfl
theorem sconj_spec {a b : Nat} (ha : a < W ^ 6) (hb : b < W ^ 6) : Spec Tryz.prog 66 [LV .u64 (D 6 a ++ D 6 b)] NoPre [] (IsV (LV .u64 (E2 (Kf.K2.conj (k2 a b))))) := by
 refine mk_spec Tryz.func66 rfl rfl rfl fun w _ => ?_
 have hl0 := fun x => D_len 6 x
 repeat (first|(refine y_62 ?_;intro _)|refine y_63 ?_|refine Z81 fun _ => ?_|refine Z82 fun _ => ?_)
 refine st_draw1 (by rfl) ?_
 repeat (first|refine y_279 ?_|refine y_41 (kred_spec ha) ?_|refine y_41 (kneg_spec hb) ?_|refine y_259 ?_)
 refine Zq0 ?_ (by kernel_rfl)
 repeat (first|refine y_63 ?_|refine Z81 fun _ => ?_|refine Z82 fun _ => ?_)
 refine Zec fun _ hw => post_of hw SubW.nil ⟨?_, rfl⟩
 rfl
theorem sscale_spec {a b e : Nat} (ha : a < W ^ 6) (hb : b < W ^ 6) (he : e < W ^ 6) : Spec Tryz.prog 65 [LV .u64 (D 6 a ++ D 6 b), LV .u64 (D 6 e)] NoPre [] (IsV (LV .u64 (E2 (Kf.K2.scale (k2 a b) (kp e))))) := by
 refine mk_spec Tryz.func65 rfl rfl rfl fun w _ => ?_
 have hl0 := fun x => D_len 6 x
 repeat (first|(refine y_62 ?_;intro _)|refine y_63 ?_|refine Z81 fun _ => ?_|refine Z82 fun _ => ?_)
 refine st_draw1 (by rfl) ?_
 repeat (first|refine y_279 ?_|refine y_41 (kmul_spec ha he) ?_|refine y_41 (kmul_spec hb he) ?_|refine y_259 ?_)
 refine Zq0 ?_ (by kernel_rfl)
 repeat (first|refine y_63 ?_|refine Z81 fun _ => ?_|refine Z82 fun _ => ?_)
 refine Zec fun _ hw => post_of hw SubW.nil ⟨?_, rfl⟩
 rfl
theorem smix_spec (u v a b e f : Nat) (ha : a < W ^ 6) (hb : b < W ^ 6) (he : e < W ^ 6) (hf : f < W ^ 6) : Spec Tryz.prog 62 [pt u 0, pt v 0] (fun w => HasB w u (LV .u64 (D 6 a ++ D 6 b)) 29 ∧ HasB w v (LV .u64 (D 6 e ++ D 6 f)) 29) [] (IsV (LV .u64 (D 6 ((kp a + kp b) * (kp e + kp f)).val))) := by
 refine mk_spec Tryz.func62 rfl rfl rfl fun w hr => ?_
 have h1 := OldB.mk0 hr.1
 have h2 := OldB.mk0 hr.2
 have hl0 := fun x => D_len 6 x
 repeat (first|(refine y_35 ?_;intro _)|refine y_46 ?_|refine Z82 fun _ => ?_)
 refine st_draw1 (by rfl) ?_
 repeat (first|(refine Zqf (by intro _ _ _;(first|(refine st_ldo (by rfl) ((h1).shift (by assumption)) (by rfl) (by rfl) (by first | (refine PartAt.l ?_; (simp; done)) | (refine PartAt.r ?_ ?_ <;> (simp; done)) | (refine PartAt.all ?_; (simp; done))) (by rfl) ?_)|(refine st_ldo (by rfl) ((h2).shift (by assumption)) (by rfl) (by rfl) (by first | (refine PartAt.l ?_; (simp; done)) | (refine PartAt.r ?_ ?_ <;> (simp; done)) | (refine PartAt.all ?_; (simp; done))) (by rfl) ?_)|refine y_64 ?_);exact Zq) ?_)|refine y_66 ?_|refine y_41 (kadd_spec ha hb) ?_|refine y_41 (kadd_spec he hf) ?_|refine y_41 (fmul_spec' (kp a + kp b) (kp e + kp f)) ?_|refine y_259 ?_)
 refine Zq0 ?_ (by kernel_rfl)
 repeat (first|refine y_46 ?_|refine Z82 fun _ => ?_)
 refine Zec fun _ hw => post_of hw SubW.nil ⟨?_, rfl⟩
 rfl
end Go.Proofs.YtbpmbdlgmmabcaaGreat.L
namespace Go.Proofs.YtbpmbdlgmmabcaaGreat.L
open Go Go.Proofs
set_option maxRecDepth 100000
attribute [local irreducible] Code.wp wpList Af bodyPost L.Go PartAt
open Num
attribute [local simp] D_len
theorem y_67 {a b : Prop} (k : b) (h : Rm b → a := by intro k;(first|refine Z01 ?_|refine Z02 ?_|refine Z03 ?_|refine Z04 ?_|refine Z05 ?_|refine Z06 ?_|refine Z07 ?_|refine Z08 ?_|refine Z09 ?_|refine Z10 ?_|refine Z11 ?_|refine Z12 ?_|refine Z13 ?_|refine Z14 ?_|refine Z24 ?_|refine Z25 ?_|refine Z26 ?_|refine Z27 ?_|refine Z28 ?_|refine Z29 ?_|refine Z30 ?_|refine Z31 ?_|refine Z32 ?_|refine Z48 ?_|refine Z65 ?_|refine Z67 ?_);exact k.h) : a := h ⟨k⟩
theorem y_68 {a b : Prop} (k : b) (h : Rm b → a := by intro k;refine R.Zpp (by rfl) (by intro _ _ _;(refine st_ldp (by rfl) (by repeat first|apply Find.here|apply Find.there) (by rfl) (by rfl) (by first | (refine PartAt.l ?_; (simp; done)) | (refine PartAt.r ?_ ?_ <;> (simp; done)) | (refine PartAt.all ?_; (simp; done))) (by rfl) ?_);exact Zq) ?_;exact k.h) : a := h ⟨k⟩
theorem y_69 {S1 a b : Prop} (s1 : S1) (k : b) (h : S1 → Rm b → a := by intro s1 k;refine R.Zpp (by rfl) (by intro _ _ _;refine st_callV (by rfl) (by rfl) (by rfl) s1 (fun _ _ => trivial) (by rfl) ?_;exact Zq) ?_;exact k.h) : a := h s1 ⟨k⟩
theorem y_201 {a b : Prop} (k : b) (h : Rm b → a := by intro k;(first|refine y_64 ?_|refine y_65 ?_|refine Z01 ?_|refine Z02 ?_|refine Z48 ?_|refine Z65 ?_);exact k.h) : a := h ⟨k⟩
theorem y_202 {a b : Prop} (k : b) (h : Rm b → a := by intro k;refine R.Zpp (by rfl) (by intro _ _ _;(first|refine y_47 ?_);exact Zq) ?_;exact k.h) : a := h ⟨k⟩
set_option maxHeartbeats 4000000 in
theorem smul_spec {a b e f : Nat} (ha : a < W ^ 6) (hb : b < W ^ 6) (he : e < W ^ 6) (hf : f < W ^ 6) : Spec Tryz.prog 29 [LV .u64 (D 6 a ++ D 6 b), LV .u64 (D 6 e ++ D 6 f)] NoPre [] (IsV (LV .u64 (E2 (Kf.K2.mul (k2 a b) (k2 e f))))) := by
 refine mk_spec Tryz.func29 rfl rfl rfl fun w _ => ?_
 have hl0 := fun x => D_len 6 x
 have hmix : (kp a + kp b) * (kp e + kp f) - (kp a * kp e + kp b * kp f) = kp a * kp f + kp b * kp e := by grind
 repeat (first|(refine y_62 ?_;intro _)|refine y_67 ?_|refine Z81 fun _ => ?_|refine Z82 fun _ => ?_)
 refine R.st_perm [0, 1, 2, 3, 4, 5, 6, 7, 8, 9, 10, 11, 12, 13] (by rfl) ?_
 repeat (first|(refine R.Zpf (by rfl) (by intro _ _ _;(first|refine y_201 ?_);exact Zq) ?_)|refine y_202 ?_|refine y_68 ?_|refine y_69 (kmul_spec ha he) ?_|refine y_69 (kmul_spec hb hf) ?_|refine y_199 ?_|(refine R.Zpbb (by rfl) (by rfl) (by intro _ _ _;refine st_alloc (v := LV .u64 (List.replicate 6 0)) (by rfl) (by rfl) fun _ => ?_;exact R.Zpbx) (by intro _ _ _;refine st_alloc (v := LV .u64 (List.replicate 6 0)) (by rfl) (by rfl) fun _ => ?_;exact R.Zpbx) (fun _ => ?_) (fun _ => ?_))|(refine y_59 ?_;intro _)|(refine y_60 ?_;intro _)|refine R.Zpo (by rfl) ?_)
 all_goals
  repeat (first|(refine R.Zpf (by rfl) (by intro _ _ _;(first|refine y_201 ?_);exact Zq) ?_)|refine y_202 ?_|refine y_68 ?_|refine y_69 (kmul_spec ha he) ?_|refine y_69 (kmul_spec hb hf) ?_|refine y_199 ?_|(refine R.Zpbb (by rfl) (by rfl) (by intro _ _ _;refine st_alloc (v := LV .u64 (List.replicate 6 0)) (by rfl) (by rfl) fun _ => ?_;exact R.Zpbx) (by intro _ _ _;refine st_alloc (v := LV .u64 (List.replicate 6 0)) (by rfl) (by rfl) fun _ => ?_;exact R.Zpbx) (fun _ => ?_) (fun _ => ?_))|(refine y_59 ?_;intro _)|(refine y_60 ?_;intro _)|refine R.Zpo (by rfl) ?_)
 all_goals refine R.Zp0 ?_
 all_goals
  repeat (first|refine y_67 ?_|refine Z81 fun _ => ?_|refine Z82 fun _ => ?_)
  refine st_draw1 (by rfl) ?_
  repeat (first|(refine Zqf (by intro _ _ _;(first|refine y_201 ?_);exact Zq) ?_)|refine y_66 ?_|refine y_41 (fsub_spec' (kp a * kp e) (kp b * kp f)) ?_|refine y_41 (fadd_spec' (kp a * kp e) (kp b * kp f)) ?_|(refine Zqp (by intro _ _ _;refine st_callV (by rfl) (by rfl) (by rfl) (smix_spec _ _ a b e f ha hb he hf) (fun w hw => ⟨HasB.own (by repeat first|apply Find.here|apply Find.there) w hw, HasB.own (by repeat first|apply Find.here|apply Find.there) w hw⟩) (by rfl) ?_;exact Zq) ?_)|(refine Zqp (by intro _ _ _;(refine st_callV (by rfl) (by rfl) (by rfl) (fsub_spec' ((kp a + kp b) * (kp e + kp f)) (kp a * kp e + kp b * kp f)) (fun _ _ => trivial) (by rfl) ?_; rw [hmix]);exact Zq) ?_)|refine y_259 ?_)
  refine Zq0 ?_ (by kernel_rfl)
  repeat (first|refine y_67 ?_|refine Z81 fun _ => ?_|refine Z82 fun _ => ?_)
  refine Zec fun _ hw => post_of hw SubW.nil ⟨?_, rfl⟩
  rfl
theorem smulE (x y : F2) : Spec Tryz.prog 29 [LV .u64 (E2 x), LV .u64 (E2 y)] NoPre [] (IsV (LV .u64 (E2 (Kf.K2.mul x y)))) := by
 have := smul_spec (val_lt x.re) (val_lt x.im) (val_lt y.re) (val_lt y.im); rwa [k2_val, k2_val] at this
theorem saddE (x y : F2) : Spec Tryz.prog 32 [LV .u64 (E2 x), LV .u64 (E2 y)] NoPre [] (IsV (LV .u64 (E2 (Kf.K2.add x y)))) := by
 have := sadd_spec (val_lt x.re) (val_lt x.im) (val_lt y.re) (val_lt y.im); rwa [k2_val, k2_val] at this
theorem ssubE (x y : F2) : Spec Tryz.prog 42 [LV .u64 (E2 x), LV .u64 (E2 y)] NoPre [] (IsV (LV .u64 (E2 (Kf.K2.sub x y)))) := by
 have := ssub_spec (val_lt x.re) (val_lt x.im) (val_lt y.re) (val_lt y.im); rwa [k2_val, k2_val] at this
theorem snegE (x : F2) : Spec Tryz.prog 33 [LV .u64 (E2 x)] NoPre [] (IsV (LV .u64 (E2 (Kf.K2.neg x)))) := by
 have := sneg_spec (val_lt x.re) (val_lt x.im); rwa [k2_val] at this
theorem sscaleE (x : F2) (k : Fq) : Spec Tryz.prog 65 [LV .u64 (E2 x), LV .u64 (D 6 k.val)] NoPre [] (IsV (LV .u64 (E2 (Kf.K2.scale x k)))) := by
 have := sscale_spec (val_lt x.re) (val_lt x.im) (val_lt k); rwa [k2_val, kp_val] at this
theorem E2_iff (x y : F2) : (decide (D 6 x.re.val = D 6 y.re.val) && decide (D 6 x.im.val = D 6 y.im.val)) = decide (x = y) := by
 rw [← Bool.decide_and]
 refine decide_eq_decide.2 ?_
 rw [D6_iff, D6_iff]
 exact ⟨fun h => Kf.K2.ext' h.1 h.2, fun h => h ▸ ⟨rfl, rfl⟩⟩
set_option maxHeartbeats 4000000 in
theorem sinv_spec {a b : Nat} (ha : a < W ^ 6) (hb : b < W ^ 6) : Spec Tryz.prog 30 [LV .u64 (D 6 a ++ D 6 b)] NoPre [] (IsV (LV .u64 (E2 (Kf.K2.inv (k2 a b))))) := by
 refine mk_spec Tryz.func30 rfl rfl rfl fun w _ => ?_
 have hl0 := fun x => D_len 6 x
 repeat (first|(refine y_62 ?_;intro _)|refine y_46 ?_|refine Z81 fun _ => ?_|refine Z82 fun _ => ?_)
 refine R.st_perm [0, 1, 2, 3, 4, 5, 6, 7, 8, 9, 10, 11, 12] (by rfl) ?_
 repeat (first|(refine R.Zpf (by rfl) (by intro _ _ _;(first|refine y_64 ?_);exact Zq) ?_)|refine y_202 ?_|refine y_68 ?_|refine y_69 (kmul_spec ha ha) ?_|refine y_69 (kmul_spec hb hb) ?_|refine y_69 (fadd_spec' (kp a * kp a) (kp b * kp b)) ?_|refine y_199 ?_|(refine y_59 ?_;intro _)|(refine y_60 ?_;intro _)|refine R.Zpo (by rfl) ?_)
 refine R.Zp0 ?_
 repeat (first|refine y_46 ?_|refine Z81 fun _ => ?_|refine Z82 fun _ => ?_)
 refine st_draw1 (by rfl) ?_
 repeat (first|(refine Zqf (by intro _ _ _;(first|refine y_64 ?_);exact Zq) ?_)|refine y_66 ?_|refine y_41 (sconj_spec ha hb) ?_|refine y_41 (finv_spec' (kp a * kp a + kp b * kp b)) ?_|refine y_41 (sscaleE (Kf.K2.conj (k2 a b)) (Kf.inv (kp a * kp a + kp b * kp b))) ?_|refine y_259 ?_)
 refine Zq0 ?_ (by kernel_rfl)
 repeat (first|refine y_46 ?_|refine Z81 fun _ => ?_|refine Z82 fun _ => ?_)
 refine Zec fun _ hw => post_of hw SubW.nil ⟨?_, rfl⟩
 rfl
theorem sinvE (x : F2) : Spec Tryz.prog 30 [LV .u64 (E2 x)] NoPre [] (IsV (LV .u64 (E2 (Kf.K2.inv x)))) := by
 have := sinv_spec (val_lt x.re) (val_lt x.im); rwa [k2_val] at this
end Go.Proofs.YtbpmbdlgmmabcaaGreat.L
namespace Go.Proofs.YtbpmbdlgmmabcaaGreat.L
open Go Go.Proofs
set_option maxRecDepth 100000
attribute [local irreducible] Code.wp wpList Af bodyPost L.Go PartAt
open Num
attribute [local simp] D_len
abbrev hv : Fq := Kf.K2.hv p
theorem half_lit : ([15924587544893707606, 1105070755758604287, 12941209323636816658, 12843041017062132063, 2706051889235351147, 936899308823769933] : List Nat) = D 6 ((p + 1) / 2 % p) := by decide +kernel
theorem half2_spec : Spec Tryz.prog 72 [] NoPre [] (IsV (LV .u64 (D 6 hv.val))) := by
 refine mk_spec Tryz.func72 rfl rfl rfl fun w _ => ?_
 repeat (first|(refine y_35 ?_;intro _)|refine st_buildP (kk := .u64) (vs := [15924587544893707606, 1105070755758604287, 12941209323636816658, 12843041017062132063, 2706051889235351147, 936899308823769933]) (by rfl) (by rfl) (by rfl) (by rfl) (by rfl) (by rfl) (by rfl) (by rfl) ?_|refine Z03 ?_|refine Z04 ?_|refine Z05 ?_|refine Z06 ?_|refine Z07 ?_|refine Z08 ?_|refine Z09 ?_|refine Z10 ?_|refine Z11 ?_|refine Z12 ?_|refine Z13 ?_|refine Z14 ?_|refine Z29 ?_|refine Z30 ?_|refine Z31 ?_|refine Z32 ?_|refine Z65 ?_|refine Z82 fun _ => ?_)
 refine Zec fun _ hw => post_of hw SubW.nil ⟨?_, rfl⟩
 rw [show hv.val = (p + 1) / 2 % p from rfl, ← half_lit]; rfl
theorem zero6F : ([] ++ List.replicate (6 - ([] : List Nat).length) 0 : List Nat) = D 6 (0 : Fq).val := by rw [val_0]; exact zero6
theorem fsqrtF (x : Fq) : Spec Tryz.prog 70 [LV .u64 (D 6 x.val)] NoPre [] (IsV (.tuple [LV .u64 (D 6 (Kf.K2.fsq x).1.val), .bool (Kf.K2.fsq x).2].toArray)) := by
 have := fsqrt_spec (val_lt x); rwa [kp_val] at this
theorem y_70 {a b : Prop} (k : b) (h : Rm b → a := by intro k;refine st_buildP (kk := .u64) (vs := []) (by rfl) (by rfl) (by rfl) (by rfl) (by rfl) (by rfl) (by rfl) (by rfl) ?_; rw [zero6F];exact k.h) : a := h ⟨k⟩
theorem y_71 {a b : Prop} (k : b) (h : Rm b → a := by intro k;refine st_ldp (by rfl) (by repeat first|apply Find.here|apply Find.there) (by rfl) (by rfl) (by first | (refine PartAt.l ?_; (simp; done)) | (refine PartAt.r ?_ ?_ <;> (simp; done)) | (refine PartAt.all ?_; (simp; done))) (by rfl) ?_;exact k.h) : a := h ⟨k⟩
theorem y_72 {a b : Prop} (k : b) (h : Rm b → a := by intro k;refine st_build20 (by rfl) (by rfl) (by rfl) (by rfl) ?_;exact k.h) : a := h ⟨k⟩
theorem y_73 {a b : Prop} (k : b) (h : Rm b → a := by intro k;refine st_eq2 (by rfl) (by rfl) (by rfl) (by kernel_rfl) (by rfl) (by rfl) (by rfl) (by rfl) (by rfl) (by rfl) (by rfl) (by rfl) (by rfl) (by rfl) (by kernel_rfl) (by simp; done) (by simp; done) (by simp; done) (by simp; done) (by rfl) ?_;exact k.h) : a := h ⟨k⟩
theorem y_74 {a b : Prop} (k : b) (h : Rm b → a := by intro k;(first|refine Z02 ?_|refine Z03 ?_|refine Z04 ?_|refine Z05 ?_|refine Z06 ?_|refine Z07 ?_|refine Z08 ?_|refine Z09 ?_|refine Z10 ?_|refine Z11 ?_|refine Z12 ?_|refine Z13 ?_|refine Z14 ?_|refine Z24 ?_|refine Z25 ?_|refine Z26 ?_|refine Z27 ?_|refine Z28 ?_|refine Z65 ?_|refine Z67 ?_|refine Z77 ?_|refine Z78 ?_|refine Z79 ?_);exact k.h) : a := h ⟨k⟩
theorem y_203 {a b : Prop} (k : b) (h : Rm b → a := by intro k;(first|refine y_64 ?_|refine y_71 ?_|refine y_72 ?_|refine y_73 ?_);exact k.h) : a := h ⟨k⟩
theorem ssign_spec {a b : Nat} (ha : a < W ^ 6) (hb : b < W ^ 6) : Spec Tryz.prog 39 [LV .u64 (D 6 a ++ D 6 b)] NoPre [] (IsV (N .i64 (Kf.K2.sgn (k2 a b)))) := by
 refine mk_spec Tryz.func39 rfl rfl rfl fun w _ => ?_
 have hl0 := fun x => D_len 6 x
 repeat (first|refine y_70 ?_|refine y_64 ?_|refine y_71 ?_|refine y_72 ?_|refine y_73 ?_|refine y_3 (kred_spec ha) ?_|refine y_74 ?_|refine Z81 fun _ => ?_)
 refine st_cond (by rfl) (fun h => ?_) (fun h => ?_)
 ·rw [D6_iff] at h
  have hs : Kf.K2.sgn (k2 a b) = Kf.sg (kp b) := if_pos h
  repeat (first|refine y_203 ?_|refine y_3 (fsign_spec hb) ?_|refine y_74 ?_|refine Z81 fun _ => ?_)
  refine Ze1 fun _ hw => post_of hw SubW.nil ⟨?_, rfl⟩
  rw [hs]
 ·rw [D6_iff] at h
  have hs : Kf.K2.sgn (k2 a b) = Kf.sg (kp a) := if_neg h
  repeat (first|refine y_203 ?_|refine y_3 (fsign_spec ha) ?_|refine y_74 ?_|refine Z81 fun _ => ?_)
  refine Ze1 fun _ hw => post_of hw SubW.nil ⟨?_, rfl⟩
  rw [hs]
theorem ssignE (x : F2) : Spec Tryz.prog 39 [LV .u64 (E2 x)] NoPre [] (IsV (N .i64 (Kf.K2.sgn x))) := by
 have := ssign_spec (val_lt x.re) (val_lt x.im); rwa [k2_val] at this
theorem E2_congr {x y : F2} (h : x = y) : E2 x = E2 y := by rw [h]
theorem E2_mk {a b : Fq} {o : F2} (ho : o = ⟨a, b⟩) : D 6 a.val ++ D 6 b.val = E2 o := by rw [ho]
end Go.Proofs.YtbpmbdlgmmabcaaGreat.L
namespace Go.Proofs.YtbpmbdlgmmabcaaGreat.L
open Go Go.Proofs
set_option maxRecDepth 100000
attribute [local irreducible] Code.wp wpList Af bodyPost L.Go
open Num
theorem y_75 {a b : Prop} (k : b) (h : Rm b → a := by intro k;(first|refine Z01 ?_|refine Z02 ?_|refine Z03 ?_|refine Z04 ?_|refine Z05 ?_|refine Z06 ?_|refine Z07 ?_|refine Z08 ?_|refine Z09 ?_|refine Z10 ?_|refine Z11 ?_|refine Z12 ?_|refine Z13 ?_|refine Z14 ?_|refine Z15 ?_|refine Z17 ?_|refine Z18 ?_|refine Z42 ?_|refine Z44 ?_|refine Z45 ?_|refine Z57 ?_|refine Z70 ?_|refine Z74 ?_|refine Z80 ?_);exact k.h) : a := h ⟨k⟩
theorem y_76 {a b : Prop} (k : b) (h : Rm b → a := by intro k;refine st_index_tab bl (by rfl) (by rfl) (by rfl) (by omega) (by kernel_rfl) (by kernel_rfl) (by rfl) ?_;exact k.h) : a := h ⟨k⟩
theorem y_204 {a b : Prop} (k : b) (h : Rm b → a := by intro k;(first|refine y_76 ?_|refine Z01 ?_|refine Z02 ?_|refine Z03 ?_|refine Z04 ?_|refine Z05 ?_|refine Z06 ?_|refine Z07 ?_|refine Z08 ?_|refine Z09 ?_|refine Z10 ?_|refine Z11 ?_|refine Z12 ?_|refine Z13 ?_|refine Z14 ?_|refine Z15 ?_|refine Z17 ?_|refine Z18 ?_|refine Z42 ?_|refine Z44 ?_|refine Z45 ?_|refine Z57 ?_|refine Z70 ?_|refine Z74 ?_|refine Z80 ?_);exact k.h) : a := h ⟨k⟩
theorem len64_spec (x : Nat) (hx : x < 18446744073709551616) : Spec Tryz.prog 142 [N .u64 x] NoPre [] (IsV (N .i64 (bl x))) := by
 refine mk_spec Tryz.func142 rfl rfl rfl fun w _ => ?_
 repeat (first|refine y_75 ?_)
 refine st_cond (by rfl) (fun h32 => ?_) (fun h32 => ?_)
 ·have e32 := bl_shift x 32 h32
  have l32 : x >>> 32 < 4294967296 := by rw [Nat.shiftRight_eq_div_pow]; omega
  repeat (first|refine y_75 ?_)
  refine st_cond (by rfl) (fun h16 => ?_) (fun h16 => ?_)
  ·have e16 := bl_shift (x >>> 32) 16 h16
   have l16 : x >>> 32 >>> 16 < 65536 := by rw [Nat.shiftRight_eq_div_pow (x >>> 32)]; omega
   repeat (first|refine y_75 ?_)
   refine st_cond (by rfl) (fun h8 => ?_) (fun h8 => ?_)
   ·have e8 := bl_shift (x >>> 32 >>> 16) 8 (by omega)
    have l8 : (x >>> 32 >>> 16) >>> 8 < 256 := by rw [Nat.shiftRight_eq_div_pow]; omega
    have hx8 : (x >>> 32 >>> 16) >>> 8 % 256 = (x >>> 32 >>> 16) >>> 8 := Nat.mod_eq_of_lt (by omega)
    have hbl := bl_le ((x >>> 32 >>> 16) >>> 8) 8 (by omega)
    repeat (first|rw [hx8]|refine y_204 ?_)
    refine Ze1 fun _ hw => post_of hw SubW.nil ⟨?_, rfl⟩
    exact congrArg (N .i64) (by omega)
   ·have hx8 : x >>> 32 >>> 16 % 256 = x >>> 32 >>> 16 := Nat.mod_eq_of_lt (by omega)
    have hbl := bl_le (x >>> 32 >>> 16) 8 (by omega)
    repeat (first|rw [hx8]|refine y_204 ?_)
    refine Ze1 fun _ hw => post_of hw SubW.nil ⟨?_, rfl⟩
    exact congrArg (N .i64) (by omega)
  ·repeat (first|refine y_75 ?_)
   refine st_cond (by rfl) (fun h8 => ?_) (fun h8 => ?_)
   ·have e8 := bl_shift (x >>> 32) 8 (by omega)
    have l8 : (x >>> 32) >>> 8 < 256 := by rw [Nat.shiftRight_eq_div_pow]; omega
    have hx8 : (x >>> 32) >>> 8 % 256 = (x >>> 32) >>> 8 := Nat.mod_eq_of_lt (by omega)
    have hbl := bl_le ((x >>> 32) >>> 8) 8 (by omega)
    repeat (first|rw [hx8]|refine y_204 ?_)
    refine Ze1 fun _ hw => post_of hw SubW.nil ⟨?_, rfl⟩
    exact congrArg (N .i64) (by omega)
   ·have hx8 : x >>> 32 % 256 = x >>> 32 := Nat.mod_eq_of_lt (by omega)
    have hbl := bl_le (x >>> 32) 8 (by omega)
    repeat (first|rw [hx8]|refine y_204 ?_)
    refine Ze1 fun _ hw => post_of hw SubW.nil ⟨?_, rfl⟩
    exact congrArg (N .i64) (by omega)
 ·repeat (first|refine y_75 ?_)
  refine st_cond (by rfl) (fun h16 => ?_) (fun h16 => ?_)
  ·have e16 := bl_shift x 16 h16
   have l16 : x >>> 16 < 65536 := by rw [Nat.shiftRight_eq_div_pow]; omega
   repeat (first|refine y_75 ?_)
   refine st_cond (by rfl) (fun h8 => ?_) (fun h8 => ?_)
   ·have e8 := bl_shift (x >>> 16) 8 (by omega)
    have l8 : (x >>> 16) >>> 8 < 256 := by rw [Nat.shiftRight_eq_div_pow]; omega
    have hx8 : (x >>> 16) >>> 8 % 256 = (x >>> 16) >>> 8 := Nat.mod_eq_of_lt (by omega)
    have hbl := bl_le ((x >>> 16) >>> 8) 8 (by omega)
    repeat (first|rw [hx8]|refine y_204 ?_)
    refine Ze1 fun _ hw => post_of hw SubW.nil ⟨?_, rfl⟩
    exact congrArg (N .i64) (by omega)
   ·have hx8 : x >>> 16 % 256 = x >>> 16 := Nat.mod_eq_of_lt (by omega)
    have hbl := bl_le (x >>> 16) 8 (by omega)
    repeat (first|rw [hx8]|refine y_204 ?_)
    refine Ze1 fun _ hw => post_of hw SubW.nil ⟨?_, rfl⟩
    exact congrArg (N .i64) (by omega)
  ·repeat (first|refine y_75 ?_)
   refine st_cond (by rfl) (fun h8 => ?_) (fun h8 => ?_)
   ·have e8 := bl_shift (x) 8 (by omega)
    have l8 : (x) >>> 8 < 256 := by rw [Nat.shiftRight_eq_div_pow]; omega
    have hx8 : (x) >>> 8 % 256 = (x) >>> 8 := Nat.mod_eq_of_lt (by omega)
    have hbl := bl_le ((x) >>> 8) 8 (by omega)
    repeat (first|rw [hx8]|refine y_204 ?_)
    refine Ze1 fun _ hw => post_of hw SubW.nil ⟨?_, rfl⟩
    exact congrArg (N .i64) (by omega)
   ·have hx8 : x % 256 = x := Nat.mod_eq_of_lt (by omega)
    have hbl := bl_le (x) 8 (by omega)
    repeat (first|rw [hx8]|refine y_204 ?_)
    refine Ze1 fun _ hw => post_of hw SubW.nil ⟨?_, rfl⟩
    exact congrArg (N .i64) (by omega)
theorem lz64_spec (x : Nat) (hx : x < 18446744073709551616) : Spec Tryz.prog 136 [N .u64 x] NoPre [] (IsV (N .i64 (64 - bl x))) := by
 refine mk_spec Tryz.func136 rfl rfl rfl fun w _ => ?_
 have hb := bl_le x 64 hx
 repeat (first|refine y_3 (len64_spec x hx) ?_|refine Z01 ?_|refine Z02 ?_|refine Z03 ?_|refine Z04 ?_|refine Z05 ?_|refine Z06 ?_|refine Z07 ?_|refine Z08 ?_|refine Z09 ?_|refine Z10 ?_|refine Z11 ?_|refine Z12 ?_|refine Z13 ?_|refine Z14 ?_|refine Z16 ?_|refine Z71 ?_)
 refine Ze1 fun _ hw => post_of hw SubW.nil ⟨?_, rfl⟩
 rfl
end Go.Proofs.YtbpmbdlgmmabcaaGreat.L
namespace Go.Proofs.YtbpmbdlgmmabcaaGreat.L
open Go Go.Proofs
set_option maxRecDepth 100000
attribute [local irreducible] Code.wp wpList Af bodyPost L.Go
open Num
theorem y_77 {a b : Prop} (k : b) (h : Rm b → a := by intro k;(first|refine Z01 ?_|refine Z02 ?_|refine Z03 ?_|refine Z04 ?_|refine Z05 ?_|refine Z06 ?_|refine Z07 ?_|refine Z08 ?_|refine Z09 ?_|refine Z10 ?_|refine Z11 ?_|refine Z12 ?_|refine Z13 ?_|refine Z14 ?_|refine Z17 ?_|refine Z18 ?_|refine Z24 ?_|refine Z25 ?_|refine Z26 ?_|refine Z27 ?_|refine Z28 ?_|refine Z33 ?_|refine Z34 ?_|refine Z35 ?_|refine Z37 ?_|refine Z38 ?_|refine Z40 ?_|refine Z41 ?_|refine Z42 ?_|refine Z43 ?_|refine Z44 ?_|refine Z45 ?_|refine Z49 ?_|refine Z50 ?_|refine Z51 ?_|refine Z52 ?_|refine Z53 ?_|refine Z67 ?_|refine Z74 ?_|refine Z80 ?_);exact k.h) : a := h ⟨k⟩
theorem y_205 {a b : Prop} (k : b) (h : Rm b → a := by intro k;(first|refine y_30 ?_|refine y_25 ?_);exact k.h) : a := h ⟨k⟩
set_option maxHeartbeats 4000000 in
theorem div64_spec (hi lo y : Nat) (hy : hi < y) (hlo : lo < 18446744073709551616) (hyW : y < 18446744073709551616) :
  Spec Tryz.prog 106 [N .u64 hi, N .u64 lo, N .u64 y] NoPre [] (IsV (.tuple [N .u64 ((hi * 18446744073709551616 + lo) / y), N .u64 ((hi * 18446744073709551616 + lo) % y)].toArray)) := by
 refine mk_spec Tryz.func106 rfl rfl rfl fun w _ => ?_
 repeat (first|refine y_25 ?_|refine Z01 ?_|refine Z02 ?_|refine Z03 ?_|refine Z04 ?_|refine Z05 ?_|refine Z06 ?_|refine Z07 ?_|refine Z08 ?_|refine Z09 ?_|refine Z10 ?_|refine Z11 ?_|refine Z12 ?_|refine Z13 ?_|refine Z14 ?_|refine Z17 ?_|refine Z18 ?_|refine Z24 ?_|refine Z25 ?_|refine Z26 ?_|refine Z27 ?_|refine Z28 ?_|refine Z33 ?_|refine Z34 ?_|refine Z35 ?_|refine Z37 ?_|refine Z38 ?_|refine Z40 ?_|refine Z41 ?_|refine Z42 ?_|refine Z43 ?_|refine Z44 ?_|refine Z45 ?_|refine Z49 ?_|refine Z50 ?_|refine Z51 ?_|refine Z52 ?_|refine Z53 ?_|refine Z67 ?_|refine Z74 ?_|refine Z80 ?_)
 refine st_cond (by rfl) (fun h0 => ?_) (fun h0 => ?_)
 ·subst h0
  repeat (first|refine y_77 ?_)
  refine st_draw1 (by rfl) ?_
  repeat (first|(refine Zqf (by intro _ _ _;(first|refine st_udiv (by rfl) (by rfl) (by rfl) (by omega) (by omega) (by rfl) ?_|refine st_umod (by rfl) (by rfl) (by omega) (by rfl) ?_|refine Z01 ?_|refine Z02 ?_|refine Z17 ?_|refine Z18 ?_|refine Z33 ?_|refine Z34 ?_|refine Z35 ?_|refine Z37 ?_|refine Z38 ?_|refine Z40 ?_|refine Z41 ?_|refine Z42 ?_|refine Z43 ?_|refine Z44 ?_|refine Z45 ?_|refine Z49 ?_|refine Z50 ?_|refine Z74 ?_|refine Z80 ?_);exact Zq) ?_)|refine y_196 ?_|refine Zqn ?_)
  refine Zq0 ?_ (by kernel_rfl)
  repeat (first|refine y_77 ?_)
  refine Ze2 fun _ hw => post_of hw SubW.nil ⟨?_, rfl⟩
  rw [Nat.zero_mul, Nat.zero_add]
 obtain ⟨hb1, hb2, hb3⟩ := bl_spec y (by omega)
 have hb4 := bl_le y 64 hyW
 obtain ⟨s, hs⟩ : ∃ s, s = 64 - bl y := ⟨_, rfl⟩
 have hsl : s ≤ 63 := by omega
 obtain ⟨Y, hYs⟩ : ∃ Y, Y = y * 2 ^ s := ⟨_, rfl⟩
 have hYW : Y < 18446744073709551616 := by
  have := Nat.mul_lt_mul_of_pos_right hb1 (Nat.two_pow_pos s)
  rw [← Nat.pow_add, show bl y + s = 64 by omega] at this
  rw [hYs]; exact this
 have hYb : 9223372036854775808 ≤ Y := by
  have := Nat.mul_le_mul_right (2 ^ s) hb2
  rw [← Nat.pow_add, show bl y - 1 + s = 63 by omega] at this
  rw [hYs]; exact this
 have hYp : 0 < Y := by omega
 obtain ⟨v1, hv1⟩ : ∃ v1, v1 = Y / 4294967296 := ⟨_, rfl⟩
 obtain ⟨v0, hv0⟩ : ∃ v0, v0 = Y % 4294967296 := ⟨_, rfl⟩
 have hYv : Y = v1 * 4294967296 + v0 := by omega
 have hv1p : 0 < v1 := by omega
 have hv1l : v1 < 4294967296 := by omega
 have hv0l : v0 < 4294967296 := by omega
 obtain ⟨u, hu⟩ : ∃ u, u = hi * 2 ^ s + lo / 2 ^ (64 - s) := ⟨_, rfl⟩
 obtain ⟨u10, hu10'⟩ : ∃ u10, u10 = lo * 2 ^ s % 18446744073709551616 := ⟨_, rfl⟩
 obtain ⟨hN, huY⟩ := norm_div (s := s) hy hlo (by omega)
 rw [← hu, ← hu10'] at hN
 rw [← hu, ← hYs] at huY
 obtain ⟨u1, hu1'⟩ : ∃ u1, u1 = u10 / 4294967296 := ⟨_, rfl⟩
 obtain ⟨u0, hu0'⟩ : ∃ u0, u0 = u10 % 4294967296 := ⟨_, rfl⟩
 have hu10l : u10 < 18446744073709551616 := by rw [hu10']; exact Nat.mod_lt _ (by decide)
 have hu1 : u1 < 4294967296 := by omega
 have hu0 : u0 < 4294967296 := by omega
 have hu10 : u1 * 4294967296 + u0 = u10 := by rw [hu1', hu0', Nat.mul_comm]; exact Nat.div_add_mod _ _
 have e1 : (64 - bl y) % 18446744073709551616 = s := by omega
 have e2 : y <<< s % 18446744073709551616 = Y := by rw [Nat.shiftLeft_eq, ← hYs, Nat.mod_eq_of_lt hYW]
 have e3 : Y >>> 32 = v1 := by rw [shr32, hv1]
 have e4 : Y % 18446744073709551616 &&& 4294967295 % 18446744073709551616 = v0 := by rw [and32, hv0]
 have hlq : lo / 2 ^ (64 - s) < 2 ^ s := by
  rw [Nat.div_lt_iff_lt_mul (Nat.two_pow_pos _), ← Nat.pow_add, show s + (64 - s) = 64 by omega]; exact hlo
 have hhs : hi * 2 ^ s < 18446744073709551616 := Nat.lt_of_le_of_lt (by rw [hu]; exact Nat.le_add_right _ _) (Nat.lt_trans huY hYW)
 have e5 : (64 + (18446744073709551616 - s % 18446744073709551616)) % 18446744073709551616 = 64 - s := by omega
 have e6 : hi <<< s % 18446744073709551616 % 18446744073709551616 ||| lo >>> (64 - s) % 18446744073709551616 = u := by
  rw [Nat.shiftLeft_eq, Nat.shiftRight_eq_div_pow, Nat.mod_mod, Nat.mod_eq_of_lt hhs, Nat.mod_eq_of_lt (a := lo / 2 ^ (64 - s)) (Nat.lt_of_le_of_lt (Nat.div_le_self _ _) hlo), or_plus hlq, hu]
 have e7 : lo <<< s % 18446744073709551616 = u10 := by rw [Nat.shiftLeft_eq, hu10']
 have e8 : u10 >>> 32 = u1 := by rw [shr32, hu1']
 have e9 : u10 % 18446744073709551616 &&& 4294967295 % 18446744073709551616 = u0 := by rw [and32, hu0']
 have hwr := wrap_sub1 (a := u) (c := u / v1 * v1) (d := u % v1) (div_rem_eq _ _) (Nat.lt_trans (Nat.mod_lt _ hv1p) (by omega))
 obtain ⟨q1, hq1⟩ : ∃ q1, q1 = (u * 4294967296 + u1) / Y := ⟨_, rfl⟩
 repeat (first|refine y_3 (lz64_spec y hyW) ?_|refine st_shr (by rfl) (by rfl) (show 64 - s ≤ 64 by omega) (by rfl) ?_|rw [e1]|rw [e2]|rw [e3]|rw [e4]|rw [e5]|rw [e6]|rw [e7]|rw [e8]|rw [e9]|refine st_udiv (by rfl) (by rfl) (by rfl) hv1p (by omega) (by rfl) ?_|rw [hwr]|refine st_block_join (ι := Unit) (fun _ => True) (fun _ => [(2, N .u64 Y), (8, N .u64 s), (9, N .u64 v1), (10, N .u64 v0), (11, N .u64 u), (13, N .u64 u1), (14, N .u64 u0), (15, N .u64 q1)]) (fun _ => []) ?_ ?_|refine y_77 ?_)
 ·clear e1 e2 e3 e4 e5 e6 e7 e8 e9 hwr hN hu10' hu1' hu0' hlq hhs hu hs hb1 hb2 hb3 hb4 hYs hu10 hu10l
  refine st_loop (ι := Nat × Nat) (fun p => p.1 * v1 + p.2 = u ∧ p.2 < 4294967296 ∧ (u * 4294967296 + u1) / Y ≤ p.1)
   (fun p => [(2, N .u64 Y), (8, N .u64 s), (9, N .u64 v1), (10, N .u64 v0), (11, N .u64 u), (13, N .u64 u1), (14, N .u64 u0), (15, N .u64 p.1), (16, N .u64 p.2)]) (fun p => []) (fun p => p.1) (u / v1, u % v1)
   ⟨(div_rem_eq _ _).symm, by simp only; have := Nat.mod_lt u hv1p; omega, by simp only; rw [hYv]; exact qhat_ge hv1p hu1⟩ (by repeat (first|apply subL.nil|refine subL.cons (by rfl) ?_)) (by repeat (first|apply SubW.nil|refine y_8 ?_)) ?_
  rintro ⟨q, r⟩ ⟨hqr, hr, hqq⟩
  simp only at hqr hr hqq ⊢
  have hqle : q ≤ u := Nat.le_trans (Nat.le_mul_of_pos_right q hv1p) (by omega)
  by_cases hbig : 4294967296 ≤ q
  ·have hlt := qhat_step (v0 := v0) (u1 := u1) (by rw [← hYv]; exact huY) hqr hu1 (.inl hbig)
   rw [← hYv] at hlt
   have hqpos : 0 < q := Nat.lt_of_le_of_lt (Nat.zero_le _) hlt
   have hdq := wrap_dec (q := q) hqpos (by omega)
   have hrr : (r + v1) % 18446744073709551616 = r + v1 := Nat.mod_eq_of_lt (by omega)
   have hqr' : (q - 1) * v1 + (r + v1) = u := by
    obtain ⟨k, rfl⟩ : ∃ k, q = k + 1 := ⟨q - 1, by omega⟩
    rw [Nat.add_mul, Nat.one_mul] at hqr
    simp only [Nat.add_sub_cancel]; omega
   repeat (first|refine y_205 ?_|rw [hdq]|rw [hrr]|rw [hp2]|rw [hp3]|refine y_77 ?_)
   refine st_cond (by rfl) (fun hbr => ?_) (fun hbr => ?_)
   ·have hend : q - 1 = q1 := by rw [hq1, hYv]; rw [hYv] at hlt; exact qhat_stop (by omega) hqr' (qhat_break (by omega) (by rw [← hYv]; exact huY) hqr' hbr) (by omega)
    repeat (first|refine y_77 ?_)
    rw [hend]
    exact st_met () trivial (by repeat (first|apply subL.nil|refine subL.cons (by rfl) ?_)) (by repeat (first|apply SubW.nil|refine y_8 ?_))
   ·repeat (first|refine y_77 ?_)
    exact st_round (q - 1, r + v1) ⟨hqr', by simp only; omega, by simp only; omega⟩ (by simp only; omega) (by repeat (first|apply subL.nil|refine subL.cons (by rfl) ?_)) (by repeat (first|apply SubW.nil|refine y_8 ?_))
  ·have hp1 : q * v0 < 18446744073709551616 := Nat.lt_of_le_of_lt (Nat.mul_le_mul (show q ≤ 4294967295 by omega) (show v0 ≤ 4294967295 by omega)) (by decide)
   have hp2 : q * v0 % 18446744073709551616 = q * v0 := Nat.mod_eq_of_lt hp1
   have hp3 : (4294967296 * r % 18446744073709551616 + u1) % 18446744073709551616 = r * 4294967296 + u1 := by omega
   by_cases hc : r * 4294967296 + u1 < q * v0
   ·have hlt := qhat_step (v0 := v0) (u1 := u1) (by rw [← hYv]; exact huY) hqr hu1 (.inr hc)
    rw [← hYv] at hlt
    have hqpos : 0 < q := Nat.lt_of_le_of_lt (Nat.zero_le _) hlt
    have hdq := wrap_dec (q := q) hqpos (by omega)
    have hrr : (r + v1) % 18446744073709551616 = r + v1 := Nat.mod_eq_of_lt (by omega)
    have hqr' : (q - 1) * v1 + (r + v1) = u := by
     obtain ⟨k, rfl⟩ : ∃ k, q = k + 1 := ⟨q - 1, by omega⟩
     rw [Nat.add_mul, Nat.one_mul] at hqr
     simp only [Nat.add_sub_cancel]; omega
    repeat (first|refine y_205 ?_|rw [hdq]|rw [hrr]|rw [hp2]|rw [hp3]|refine y_77 ?_)
    refine st_cond (by rfl) (fun hbr => ?_) (fun hbr => ?_)
    ·have hend : q - 1 = q1 := by rw [hq1, hYv]; rw [hYv] at hlt; exact qhat_stop (by omega) hqr' (qhat_break (by omega) (by rw [← hYv]; exact huY) hqr' hbr) (by omega)
     repeat (first|refine y_77 ?_)
     rw [hend]
     exact st_met () trivial (by repeat (first|apply subL.nil|refine subL.cons (by rfl) ?_)) (by repeat (first|apply SubW.nil|refine y_8 ?_))
    ·repeat (first|refine y_77 ?_)
     exact st_round (q - 1, r + v1) ⟨hqr', by simp only; omega, by simp only; omega⟩ (by simp only; omega) (by repeat (first|apply subL.nil|refine subL.cons (by rfl) ?_)) (by repeat (first|apply SubW.nil|refine y_8 ?_))
   ·have hend : q = q1 := by rw [hq1, hYv]; rw [hYv] at hqq; exact qhat_stop (by omega) hqr (by omega) hqq
    repeat (first|refine y_25 ?_|rw [hp2]|rw [hp3]|refine y_77 ?_)
    rw [hend]
    exact st_met () trivial (by repeat (first|apply subL.nil|refine subL.cons (by rfl) ?_)) (by repeat (first|apply SubW.nil|refine y_8 ?_))
 intro _ _
 clear e1 e2 e3 e4 e5 e6 e7 e8 e9 hwr
 have hq1l : q1 < 4294967296 := by rw [hq1]; exact qhat_lt huY hu1
 obtain ⟨un21, hun21⟩ : ∃ z, z = (u * 4294967296 + u1) % Y := ⟨_, rfl⟩
 have h21Y : un21 < Y := by rw [hun21]; exact Nat.mod_lt _ hYp
 have hw21 := wrap_sub (a := u * 4294967296) (b := u1) (c := q1 * Y) (d := un21) (by rw [hq1, hun21]; exact div_rem_eq _ _) (by omega)
 have hd1 : un21 / v1 < 18446744073709551616 := Nat.lt_of_le_of_lt (Nat.div_le_self _ _) (by omega)
 have hwr := wrap_sub1 (a := un21) (c := un21 / v1 * v1) (d := un21 % v1) (div_rem_eq _ _) (Nat.lt_trans (Nat.mod_lt _ hv1p) (by omega))
 obtain ⟨q0, hq0⟩ : ∃ q0, q0 = (un21 * 4294967296 + u0) / Y := ⟨_, rfl⟩
 repeat (first|rw [hw21]|refine st_udiv (by rfl) (by rfl) (by rfl) hv1p (by omega) (by rfl) ?_|rw [hwr]|refine st_block_join (ι := Unit) (fun _ => True) (fun _ => [(2, N .u64 Y), (8, N .u64 s), (14, N .u64 u0), (15, N .u64 q1), (17, N .u64 un21), (18, N .u64 q0)]) (fun _ => []) ?_ ?_|refine y_77 ?_)
 ·clear hwr hN hu10' hu1' hu0' hlq hhs hu hs hb1 hb2 hb3 hb4 hYs hu10 hu10l hq1 hun21 hw21 huY
  refine st_loop (ι := Nat × Nat) (fun p => p.1 * v1 + p.2 = un21 ∧ p.2 < 4294967296 ∧ (un21 * 4294967296 + u0) / Y ≤ p.1)
   (fun p => [(2, N .u64 Y), (8, N .u64 s), (9, N .u64 v1), (10, N .u64 v0), (14, N .u64 u0), (15, N .u64 q1), (16, N .u64 p.2), (17, N .u64 un21), (18, N .u64 p.1)]) (fun p => []) (fun p => p.1) (un21 / v1, un21 % v1)
   ⟨(div_rem_eq _ _).symm, by simp only; have := Nat.mod_lt un21 hv1p; omega, by simp only; rw [hYv]; exact qhat_ge hv1p hu0⟩ (by repeat (first|apply subL.nil|refine subL.cons (by rfl) ?_)) (by repeat (first|apply SubW.nil|refine y_8 ?_)) ?_
  rintro ⟨q, r⟩ ⟨hqr, hr, hqq⟩
  simp only at hqr hr hqq ⊢
  have hqle : q ≤ un21 := Nat.le_trans (Nat.le_mul_of_pos_right q hv1p) (by omega)
  by_cases hbig : 4294967296 ≤ q
  ·have hlt := qhat_step (v0 := v0) (u1 := u0) (by rw [← hYv]; exact h21Y) hqr hu0 (.inl hbig)
   rw [← hYv] at hlt
   have hqpos : 0 < q := Nat.lt_of_le_of_lt (Nat.zero_le _) hlt
   have hdq := wrap_dec (q := q) hqpos (by omega)
   have hrr : (r + v1) % 18446744073709551616 = r + v1 := Nat.mod_eq_of_lt (by omega)
   have hqr' : (q - 1) * v1 + (r + v1) = un21 := by
    obtain ⟨k, rfl⟩ : ∃ k, q = k + 1 := ⟨q - 1, by omega⟩
    rw [Nat.add_mul, Nat.one_mul] at hqr
    simp only [Nat.add_sub_cancel]; omega
   repeat (first|refine y_205 ?_|rw [hdq]|rw [hrr]|rw [hp2]|rw [hp3]|refine y_77 ?_)
   refine st_cond (by rfl) (fun hbr => ?_) (fun hbr => ?_)
   ·have hend : q - 1 = q0 := by rw [hq0, hYv]; rw [hYv] at hlt; exact qhat_stop (by omega) hqr' (qhat_break (by omega) (by rw [← hYv]; exact h21Y) hqr' hbr) (by omega)
    repeat (first|refine y_77 ?_)
    rw [hend]
    exact st_met () trivial (by repeat (first|apply subL.nil|refine subL.cons (by rfl) ?_)) (by repeat (first|apply SubW.nil|refine y_8 ?_))
   ·repeat (first|refine y_77 ?_)
    exact st_round (q - 1, r + v1) ⟨hqr', by simp only; omega, by simp only; omega⟩ (by simp only; omega) (by repeat (first|apply subL.nil|refine subL.cons (by rfl) ?_)) (by repeat (first|apply SubW.nil|refine y_8 ?_))
  ·have hp1 : q * v0 < 18446744073709551616 := Nat.lt_of_le_of_lt (Nat.mul_le_mul (show q ≤ 4294967295 by omega) (show v0 ≤ 4294967295 by omega)) (by decide)
   have hp2 : q * v0 % 18446744073709551616 = q * v0 := Nat.mod_eq_of_lt hp1
   have hp3 : (4294967296 * r % 18446744073709551616 + u0) % 18446744073709551616 = r * 4294967296 + u0 := by omega
   by_cases hc : r * 4294967296 + u0 < q * v0
   ·have hlt := qhat_step (v0 := v0) (u1 := u0) (by rw [← hYv]; exact h21Y) hqr hu0 (.inr hc)
    rw [← hYv] at hlt
    have hqpos : 0 < q := Nat.lt_of_le_of_lt (Nat.zero_le _) hlt
    have hdq := wrap_dec (q := q) hqpos (by omega)
    have hrr : (r + v1) % 18446744073709551616 = r + v1 := Nat.mod_eq_of_lt (by omega)
    have hqr' : (q - 1) * v1 + (r + v1) = un21 := by
     obtain ⟨k, rfl⟩ : ∃ k, q = k + 1 := ⟨q - 1, by omega⟩
     rw [Nat.add_mul, Nat.one_mul] at hqr
     simp only [Nat.add_sub_cancel]; omega
    repeat (first|refine y_205 ?_|rw [hdq]|rw [hrr]|rw [hp2]|rw [hp3]|refine y_77 ?_)
    refine st_cond (by rfl) (fun hbr => ?_) (fun hbr => ?_)
    ·have hend : q - 1 = q0 := by rw [hq0, hYv]; rw [hYv] at hlt; exact qhat_stop (by omega) hqr' (qhat_break (by omega) (by rw [← hYv]; exact h21Y) hqr' hbr) (by omega)
     repeat (first|refine y_77 ?_)
     rw [hend]
     exact st_met () trivial (by repeat (first|apply subL.nil|refine subL.cons (by rfl) ?_)) (by repeat (first|apply SubW.nil|refine y_8 ?_))
    ·repeat (first|refine y_77 ?_)
     exact st_round (q - 1, r + v1) ⟨hqr', by simp only; omega, by simp only; omega⟩ (by simp only; omega) (by repeat (first|apply subL.nil|refine subL.cons (by rfl) ?_)) (by repeat (first|apply SubW.nil|refine y_8 ?_))
   ·have hend : q = q0 := by rw [hq0, hYv]; rw [hYv] at hqq; exact qhat_stop (by omega) hqr (by omega) hqq
    repeat (first|refine y_25 ?_|rw [hp2]|rw [hp3]|refine y_77 ?_)
    rw [hend]
    exact st_met () trivial (by repeat (first|apply subL.nil|refine subL.cons (by rfl) ?_)) (by repeat (first|apply SubW.nil|refine y_8 ?_))
 intro _ _
 have hr2 := wrap_sub (a := un21 * 4294967296) (b := u0) (c := q0 * Y) (d := (un21 * 4294967296 + u0) % Y) (by rw [hq0]; exact div_rem_eq _ _) (Nat.lt_trans (Nat.mod_lt _ hYp) hYW)
 have hQ0 : q0 < 4294967296 := by rw [hq0]; exact qhat_lt h21Y hu0
 have hqq : q1 * 4294967296 % 18446744073709551616 = q1 * 4294967296 := Nat.mod_eq_of_lt (by omega)
 have hqs : (q1 * 4294967296 + q0) % 18446744073709551616 = q1 * 4294967296 + q0 := Nat.mod_eq_of_lt (by omega)
 repeat (first|rw [hr2]|rw [hqq]|rw [hqs]|refine st_shr (by rfl) (by rfl) (show s ≤ 64 by omega) (by rfl) ?_|refine y_77 ?_)
 refine Ze2 fun _ hw => post_of hw SubW.nil ⟨?_, rfl⟩
 obtain ⟨g1, g2⟩ := div_two (u := u) (u1 := u1) (u0 := u0) hYp
 rw [← hq1, ← hun21] at g1
 rw [← hun21] at g2
 rw [← hq0] at g1
 rw [hu10, hN, hYs, Nat.mul_div_mul_right _ _ (Nat.two_pow_pos s)] at g1
 rw [hu10, hN, hYs, Nat.mul_mod_mul_right] at g2
 rw [g1, hYs, g2, Nat.shiftRight_eq_div_pow, Nat.mul_div_cancel _ (Nat.two_pow_pos s)]
end Go.Proofs.YtbpmbdlgmmabcaaGreat.L
namespace Go.Proofs.YtbpmbdlgmmabcaaGreat.L
open Go Go.Proofs
set_option maxRecDepth 100000
attribute [local irreducible] Code.wp wpList Af bodyPost L.Go
open Num
attribute [local simp] D_len
theorem qP_spec : Spec Tryz.prog 105 [] NoPre [] (IsV (LV .u64 (D 6 p))) := by
 refine mk_spec Tryz.func105 rfl rfl rfl fun w _ => ?_
 repeat (first|(refine y_35 ?_;intro _)|refine y_191 ?_|refine Z82 fun _ => ?_)
 refine Zec fun _ hw => post_of hw SubW.nil ⟨?_, rfl⟩
 rw [← p_lit]; rfl
theorem less_word {a b c s : Nat} (ha : a < 18446744073709551616) (hb : b ≤ 1) (hc : c < 18446744073709551616) (hs : s ≤ 340282366920938463426481119284349108225) :
  ∃ d b' c', d = (a + 18446744073709551616 - (s % 18446744073709551616 + c) % 18446744073709551616 - b) % 18446744073709551616 ∧ b' = (if a < (s % 18446744073709551616 + c) % 18446744073709551616 + b then 1 else 0) ∧
   c' = (s / 18446744073709551616 + (s % 18446744073709551616 + c) / 18446744073709551616) % 18446744073709551616 ∧ d + s + c + b = a + 18446744073709551616 * (b' + c') ∧ b' ≤ 1 ∧ c' < 18446744073709551616 ∧ d < 18446744073709551616 := by
 refine ⟨_, _, _, rfl, rfl, rfl, ?_, ?_, Nat.mod_lt _ (by decide), Nat.mod_lt _ (by decide)⟩
 ·split <;> omega
 ·split <;> omega
theorem less_step {V0 V' A P q Wi Wj d s b c b' c' Am a Pm pd : Nat} (hs : s = pd * q) (hWj : Wj = Wi * 18446744073709551616) (h1 : V0 + Pm * q = Am + Wi * (b + c)) (h2 : d + s + c + b = a + 18446744073709551616 * (b' + c')) (hV : V' = V0 + Wi * d)
  (hA : A = Am + Wi * a) (hP : P = Pm + Wi * pd) : V' + P * q = A + Wj * (b' + c') := by
 have h3 : Wi * (d + s + c + b) = Wi * (a + 18446744073709551616 * (b' + c')) := by rw [h2]
 subst hs hWj hV hA hP
 simp only [Nat.mul_add, Nat.add_mul, Nat.mul_assoc] at *
 omega
theorem y_78 {a b : Prop} (k : b) (h : Rm b → a := by intro k;refine st_callV (by rfl) (by rfl) (by rfl) (qP_spec) (fun _ _ => trivial) (by rfl) ?_;exact k.h) : a := h ⟨k⟩
theorem y_79 {a b : Prop} (k : b) (h : Rm b → a := by intro k;(first|refine Z01 ?_|refine Z02 ?_|refine Z03 ?_|refine Z04 ?_|refine Z05 ?_|refine Z06 ?_|refine Z07 ?_|refine Z08 ?_|refine Z09 ?_|refine Z10 ?_|refine Z11 ?_|refine Z12 ?_|refine Z13 ?_|refine Z14 ?_|refine Z15 ?_|refine Z17 ?_|refine Z18 ?_|refine Z19 ?_|refine Z22 ?_|refine Z23 ?_|refine Z24 ?_|refine Z25 ?_|refine Z26 ?_|refine Z27 ?_|refine Z28 ?_|refine Z29 ?_|refine Z30 ?_|refine Z31 ?_|refine Z32 ?_|refine Z33 ?_|refine Z67 ?_|refine Z70 ?_);exact k.h) : a := h ⟨k⟩
set_option maxHeartbeats 4000000 in
theorem qless_spec {A q : Nat} (hA : A < W ^ 7) (hq : q < 18446744073709551616) (h : p * q ≤ A) :
  Spec Tryz.prog 107 [LV .u64 (D 7 A), N .u64 q] NoPre [] (IsV (LV .u64 (D 7 (A - p * q)))) := by
 refine mk_spec Tryz.func107 rfl rfl rfl fun w _ => ?_
 have hla := D_len 7 A
 have hlp := D_len 6 p
 repeat (first|refine y_78 ?_|refine st_alloc (v := LV .u64 (List.replicate 7 0)) (by rfl) (by rfl) fun _ => ?_|(refine y_35 ?_;intro _)|refine y_79 ?_|refine Z81 fun _ => ?_|refine Z82 fun _ => ?_)
 rename_i b2 b4 b5 b8
 refine st_loop (ι := (Nat × List Nat) × (Nat × Nat)) (fun s => s.1.1 ≤ 7 ∧ s.1.2.length = s.1.1 ∧ Lt 18446744073709551616 s.1.2 ∧ s.2.1 < 18446744073709551616 ∧ s.2.2 ≤ 1 ∧ V s.1.2 + p % W ^ s.1.1 * q = A % W ^ s.1.1 + W ^ s.1.1 * (s.2.2 + s.2.1))
  (fun s => [(1, N .u64 q), (2, pt b2 0), (4, pt b4 0), (5, pt b5 0), (6, N .u64 s.2.1), (7, N .u64 s.2.2), (8, pt b8 0), (9, N .i64 s.1.1)])
  (fun s => [.blk b8 (LV .u64 (s.1.2 ++ (List.replicate 7 0).drop s.1.1)) 99, .blk b5 (LV .u64 (D 6 p)) 27, .blk b4 (LV .u64 (List.replicate 7 0)) 99, .blk b2 (LV .u64 (D 7 A)) 99]) (fun s => 7 - s.1.1)
  ((0, []), (0, 0)) ⟨by decide, rfl, Lt.nil _, by decide, by decide, by simp [Nat.mod_one, V_nil]⟩ (by repeat (first|apply subL.nil|refine subL.cons (by rfl) ?_)) (by repeat (first|apply SubW.nil|refine y_8 ?_)) ?_
 rintro ⟨⟨i, P⟩, ⟨c, b⟩⟩ ⟨hi, hl, hP, hc, hb, hV⟩
 simp only at hi hl hP hc hb hV ⊢
 have hol : (P ++ (List.replicate 7 0).drop i).length = 7 := by simp [hl]; omega
 have hda := (D_lt 7 A).getD (by decide) i
 have hga := D_getD' hA i
 by_cases h7 : i < 7
 ·have hst : ∀ y, (P ++ (List.replicate 7 0).drop i).set i y = P ++ [y] ++ (List.replicate 7 0).drop (i + 1) := fun y => drop_set hl (by simpa using h7) y
  have hmA := W_mod_succ A i
  rw [← hga] at hmA
  by_cases h6 : i < 6
  ·have hdp := (D_lt 6 p).getD (by decide) i
   have hmp := W_mod_succ p i
   rw [← D_getD' p_lt i] at hmp
   obtain ⟨d, b', c', hd, hb', hc', he, hb2, hc2, hd2⟩ := less_word (a := (D 7 A).getD i 0) hda hb hc (mul_bound hdp hq)
   have hV2 := less_step rfl (Nat.pow_succ ..) hV he (V_snoc hl d) hmA hmp
   have hP2 : Lt 18446744073709551616 (P ++ [d]) := hP.append (Lt.cons hd2 (Lt.nil _))
   clear hV he hmA hmp
   repeat (first|refine y_30 ?_|refine y_3 (mul64_spec ((D 6 p).getD i 0) q hdp hq) ?_|refine y_44 ?_|refine st_callX (by rfl) (by rfl) (by rfl) (sub64X _ _ _ hb) (by rfl) ?_|rw [← hc']|rw [← hd]|rw [← hb']|rw [hst]|refine y_79 ?_|refine Z81 fun _ => ?_|refine Z82 fun _ => ?_)
   exact st_round ((i + 1, P ++ [d]), (c', b')) ⟨by simp only; omega, by simp [hl], hP2, hc2, hb2, hV2⟩ (by simp only; omega) (by repeat (first|apply subL.nil|refine subL.cons (by rfl) ?_)) (by repeat (first|apply SubW.nil|refine y_8 ?_))
  ·have hie : i = 6 := by omega
   subst hie
   obtain ⟨d, b', c', hd, hb', hc', he, hb2, hc2, hd2⟩ := less_word (a := (D 7 A).getD 6 0) (s := 0) hda hb hc (by decide)
   have hV2 := less_step (pd := 0) (Nat.zero_mul q).symm (Nat.pow_succ ..) hV he (V_snoc hl d) hmA (P := p % W ^ (6 + 1)) (by rw [Nat.mod_eq_of_lt p_lt, Nat.mul_zero, Nat.add_zero]; exact Nat.mod_eq_of_lt (Nat.lt_trans p_lt (by decide)))
   have hP2 : Lt 18446744073709551616 (P ++ [d]) := hP.append (Lt.cons hd2 (Lt.nil _))
   rw [Nat.zero_mod] at hd hb' hc'
   rw [Nat.zero_div] at hc'
   clear hV he hmA
   repeat (first|refine y_205 ?_|refine st_callX (by rfl) (by rfl) (by rfl) (add64X0 0 c) (by rfl) ?_|refine st_callX (by rfl) (by rfl) (by rfl) (sub64X _ _ _ hb) (by rfl) ?_|rw [← hc']|rw [← hd]|rw [← hb']|rw [hst]|refine y_79 ?_|refine Z81 fun _ => ?_|refine Z82 fun _ => ?_)
   exact st_round ((7, P ++ [d]), (c', b')) ⟨by simp only; omega, by simp [hl], hP2, hc2, hb2, hV2⟩ (by simp only; omega) (by repeat (first|apply subL.nil|refine subL.cons (by rfl) ?_)) (by repeat (first|apply SubW.nil|refine y_8 ?_))
 ·have hie : i = 7 := by omega
  subst hie
  have hpW : p < W ^ 7 := Nat.lt_trans p_lt (by decide)
  rw [Nat.mod_eq_of_lt hpW, Nat.mod_eq_of_lt hA] at hV
  have hPl : V P < W ^ 7 := by have := V_lt hP; rwa [hl] at this
  have h0 : b + c = 0 := by
   rcases Nat.eq_zero_or_pos (b + c) with h0 | h0
   ·exact h0
   ·have : W ^ 7 * 1 ≤ W ^ 7 * (b + c) := Nat.mul_le_mul_left _ h0
    omega
  have hPD : P = D 7 (A - p * q) := by
   refine D_of_V hP hl ?_
   rw [h0] at hV
   omega
  have hfin : P ++ (List.replicate 7 0).drop 7 = D 7 (A - p * q) := by rw [← hPD]; simp
  have hlz := D_len 7 (A - p * q)
  rw [hfin] at *
  clear hV h0 hPD
  repeat (first|refine y_25 ?_|refine Z01 ?_|refine Z02 ?_|refine Z03 ?_|refine Z04 ?_|refine Z05 ?_|refine Z06 ?_|refine Z07 ?_|refine Z08 ?_|refine Z09 ?_|refine Z10 ?_|refine Z11 ?_|refine Z12 ?_|refine Z13 ?_|refine Z14 ?_|refine Z15 ?_|refine Z17 ?_|refine Z18 ?_|refine Z19 ?_|refine Z22 ?_|refine Z23 ?_|refine Z24 ?_|refine Z25 ?_|refine Z26 ?_|refine Z27 ?_|refine Z28 ?_|refine Z29 ?_|refine Z30 ?_|refine Z31 ?_|refine Z32 ?_|refine Z33 ?_|refine Z67 ?_|refine Z70 ?_|refine Z81 fun _ => ?_|refine Z82 fun _ => ?_)
  refine Zec fun _ hw => post_of hw SubW.nil ⟨?_, rfl⟩
  rfl
theorem div_next (A i : Nat) : A / W ^ i = A / W ^ (i + 1) * W + A / W ^ i % W := by
 rw [Nat.pow_succ, ← Nat.div_div_eq_div_mul, Nat.mul_comm, Nat.div_add_mod]
theorem below_lt {A B i : Nat} (h : A / W ^ (i + 1) = B / W ^ (i + 1)) (hne : A / W ^ i % W ≠ B / W ^ i % W) : decide (A / W ^ i % W < B / W ^ i % W) = decide (A < B) := by
 have h1 := div_next A i
 have h2 := div_next B i
 rw [h] at h1
 generalize A / W ^ i % W = x at *
 generalize B / W ^ i % W = y at *
 generalize B / W ^ (i + 1) * W = z at *
 refine decide_eq_decide.2 ⟨fun hl => ?_, fun hl => ?_⟩
 ·rcases Nat.lt_or_ge A B with h3 | h3
  ·exact h3
  ·have := Nat.div_le_div_right (c := W ^ i) h3
   omega
 ·have := Nat.div_le_div_right (c := W ^ i) (Nat.le_of_lt hl)
  omega
theorem y_80 {a b : Prop} (k : b) (h : Rm b → a := by intro k;(first|refine Z01 ?_|refine Z02 ?_|refine Z03 ?_|refine Z04 ?_|refine Z05 ?_|refine Z06 ?_|refine Z07 ?_|refine Z08 ?_|refine Z09 ?_|refine Z10 ?_|refine Z11 ?_|refine Z12 ?_|refine Z13 ?_|refine Z14 ?_|refine Z16 ?_|refine Z17 ?_|refine Z18 ?_|refine Z22 ?_|refine Z23 ?_|refine Z24 ?_|refine Z25 ?_|refine Z26 ?_|refine Z27 ?_|refine Z28 ?_|refine Z29 ?_|refine Z30 ?_|refine Z31 ?_|refine Z32 ?_|refine Z67 ?_|refine Z71 ?_);exact k.h) : a := h ⟨k⟩
theorem y_81 {a b : Prop} (k : b) (h : Rm b → a := by intro k;refine Zqf (by intro _ _ _;(first|refine Z01 ?_|refine Z02 ?_|refine Z16 ?_|refine Z17 ?_|refine Z18 ?_|refine Z22 ?_|refine Z23 ?_|refine Z71 ?_);exact Zq) ?_;exact k.h) : a := h ⟨k⟩
theorem qbelow_spec {a : Nat} (ha : a < W ^ 6) : Spec Tryz.prog 124 [LV .u64 (D 6 a)] NoPre [] (IsV (.bool (decide (a < p)))) := by
 refine mk_spec Tryz.func124 rfl rfl rfl fun w _ => ?_
 have hla := D_len 6 a
 have hlp := D_len 6 p
 repeat (first|refine y_78 ?_|(refine y_35 ?_;intro _)|refine y_80 ?_|refine Z81 fun _ => ?_|refine Z82 fun _ => ?_)
 rename_i b1 b3
 refine st_loop (ι := Nat) (fun j => j ≤ 6 ∧ a / W ^ j = p / W ^ j) (fun j => [(1, pt b1 0), (3, pt b3 0), (4, .int .i64 ((j : Int) - 1))])
  (fun j => [.blk b1 (LV .u64 (D 6 a)) 27, .blk b3 (LV .u64 (D 6 p)) 27]) (fun j => j) 6 ⟨Nat.le_refl 6, by rw [Nat.div_eq_of_lt ha, Nat.div_eq_of_lt p_lt]⟩ (by repeat (first|apply subL.nil|refine subL.cons (by rfl) ?_)) (by repeat (first|apply SubW.nil|refine y_8 ?_)) ?_
 rintro j ⟨hj, he⟩
 repeat (first|refine y_80 ?_|refine Z81 fun _ => ?_|refine Z82 fun _ => ?_)
 refine st_cond (by rfl) (fun h => ?_) (fun h => ?_)
 ·have h0 : (0 : Int) ≤ (j : Int) - 1 := h
  obtain ⟨i, rfl⟩ : ∃ i, j = i + 1 := ⟨j - 1, by omega⟩
  rw [show ((i + 1 : Nat) : Int) - 1 = Int.ofNat i by simp]
  have hga := D_getD' ha i
  have hgp := D_getD' p_lt i
  repeat (first|refine y_80 ?_|refine Z81 fun _ => ?_|refine Z82 fun _ => ?_)
  refine st_draw1 (by rfl) ?_
  repeat (first|refine y_81 ?_|refine y_186 ?_|refine y_185 ?_|refine Zqn ?_)
  refine Zq0 ?_ (by kernel_rfl)
  repeat (first|refine y_80 ?_|refine Z81 fun _ => ?_|refine Z82 fun _ => ?_)
  refine st_cond (by rfl) (fun hne => ?_) (fun hne => ?_)
  ·rw [hga, hgp] at hne
   have hr := below_lt he hne
   rw [← hga, ← hgp] at hr
   repeat (first|refine y_80 ?_|refine Z81 fun _ => ?_|refine Z82 fun _ => ?_)
   refine st_draw1 (by rfl) ?_
   repeat (first|refine y_81 ?_|refine y_186 ?_|refine y_185 ?_|refine Zqn ?_)
   refine Zq0 ?_ (by kernel_rfl)
   rw [hr]
   repeat (first|refine y_80 ?_|refine Z81 fun _ => ?_|refine Z82 fun _ => ?_)
   refine Ze1 fun _ hw => post_of hw SubW.nil ⟨?_, rfl⟩
   rfl
  ·have hne2 : a / W ^ i = p / W ^ i := by
    rw [hga, hgp] at hne
    rw [div_next a, div_next p, he, Classical.not_not.1 hne]
   repeat (first|refine y_80 ?_|refine Z81 fun _ => ?_|refine Z82 fun _ => ?_)
   refine st_round i ⟨by omega, hne2⟩ (by omega) ?_ (by repeat (first|apply SubW.nil|refine y_8 ?_))
   rw [show ((i : Int) - 1) = Int.ofNat i - Int.ofNat 1 from rfl]
   exact (by repeat (first|apply subL.nil|refine subL.cons (by rfl) ?_))
 ·have hp0 : ¬ (0 : Int) ≤ (j : Int) - 1 := h
  have hj0 : j = 0 := by omega
  subst hj0
  rw [Nat.pow_zero, Nat.div_one, Nat.div_one] at he
  have hr : decide (a < p) = false := decide_eq_false (by omega)
  repeat (first|refine y_80 ?_|refine Z81 fun _ => ?_|refine Z82 fun _ => ?_)
  refine Ze1 fun _ hw => post_of hw SubW.nil ⟨?_, rfl⟩
  rw [hr]
set_option maxHeartbeats 2000000 in
theorem qminus_spec {a b : Nat} (ha : a < W ^ 6) (hb : b ≤ a) : Spec Tryz.prog 125 [LV .u64 (D 6 a), LV .u64 (D 6 b)] NoPre [] (IsV (LV .u64 (D 6 (a - b)))) := by
 refine mk_spec Tryz.func125 rfl rfl rfl fun w _ => ?_
 have hl0 := fun x => D_len 6 x
 have hla := hl0 a
 have hlb := hl0 b
 repeat (first|(refine y_35 ?_;intro _)|refine y_39 ?_|refine Z81 fun _ => ?_|refine Z82 fun _ => ?_)
 rename_i b2 b3 b4 b5
 refine st_loop (ι := Nat) (fun i => i ≤ 6) (fun i => [(2, pt b2 0), (3, pt b3 0), (4, pt b4 0), (5, pt b5 0), (6, N .u64 (crun subg (D 6 a) (D 6 b) i).2), (7, N .i64 i)])
  (fun i => [.blk b5 (LV .u64 ((crun subg (D 6 a) (D 6 b) i).1 ++ List.replicate (6 - i) 0)) 27, .blk b3 (LV .u64 (D 6 b)) 27, .blk b4 (LV .u64 (List.replicate 6 0)) 27, .blk b2 (LV .u64 (D 6 a)) 27]) (fun i => 6 - i) 0 (by omega) (by rw [crun_0]; exact (by repeat (first|apply subL.nil|refine subL.cons (by rfl) ?_))) (by rw [crun_0]; exact (by repeat (first|apply SubW.nil|refine y_8 ?_))) ?_
 intro i hi
 have hc1 := crun_subD_le 6 a b i
 have hl := crun_len subg (D 6 a) (D 6 b) i
 have hol : ((crun subg (D 6 a) (D 6 b) i).1 ++ List.replicate (6 - i) 0).length = 6 := by simp; omega
 by_cases h : i < 6
 ·repeat (first|refine y_193 ?_|refine Z81 fun _ => ?_|refine Z82 fun _ => ?_)
  refine st_draw1 (by rfl) ?_
  repeat (first|(refine Zqf (by intro _ _ _;(first|refine st_callX (by rfl) (by rfl) (by rfl) (sub64X _ _ _ hc1) (by rfl) ?_|refine y_38 ?_);exact Zq) ?_)|refine y_257 ?_)
  refine Zq0 ?_ (by kernel_rfl)
  rw [← subg_fst, ← subg_snd, ← crun_snd]
  repeat (first|rw [crun_new subg (D 6 a) (D 6 b) i 6 h]|refine y_39 ?_|refine Z81 fun _ => ?_|refine Z82 fun _ => ?_)
  exact st_round (i + 1) (by omega) (by omega) (by repeat (first|apply subL.nil|refine subL.cons (by rfl) ?_)) (by repeat (first|apply SubW.nil|refine y_8 ?_))
 ·have hie : i = 6 := by omega
  subst hie
  rw [crun_subD ha (Nat.lt_of_le_of_lt hb ha), D_sbn hb, Nat.sub_self, List.replicate_zero, List.append_nil] at *
  simp only at *
  have hl3 := hl0 (a - b)
  repeat (first|refine y_194 ?_|refine Z81 fun _ => ?_|refine Z82 fun _ => ?_)
  refine Zec fun _ hw => post_of hw SubW.nil ⟨?_, rfl⟩
  rfl
theorem y_82 {a b : Prop} (k : b) (h : Rm b → a := by intro k;(first|refine Z03 ?_|refine Z04 ?_|refine Z05 ?_|refine Z06 ?_|refine Z07 ?_|refine Z08 ?_|refine Z09 ?_|refine Z10 ?_|refine Z11 ?_|refine Z12 ?_|refine Z13 ?_|refine Z14 ?_|refine Z24 ?_|refine Z25 ?_|refine Z26 ?_|refine Z27 ?_|refine Z28 ?_|refine Z29 ?_|refine Z30 ?_|refine Z31 ?_|refine Z32 ?_|refine Z54 ?_|refine Z67 ?_);exact k.h) : a := h ⟨k⟩
theorem y_83 {a b : Prop} (k : b) (h : Rm b → a := by intro k;refine Zqp (by intro _ _ _;refine st_callV (by rfl) (by rfl) (by rfl) (qP_spec) (fun _ _ => trivial) (by rfl) ?_;exact Zq) ?_;exact k.h) : a := h ⟨k⟩
theorem qreduce_spec {a : Nat} (ha : a < W ^ 6) : Spec Tryz.prog 87 [LV .u64 (D 6 a)] NoPre [] (IsV (LV .u64 (D 6 (a % p)))) := by
 refine mk_spec Tryz.func87 rfl rfl rfl fun w _ => ?_
 have hla := D_len 6 a
 repeat (first|(refine y_35 ?_;intro _)|refine y_82 ?_|refine Z81 fun _ => ?_|refine Z82 fun _ => ?_)
 rename_i b1 b2
 refine st_loop (ι := Nat) (fun x => x < W ^ 6 ∧ x % p = a % p) (fun _ => [(1, pt b1 0), (2, pt b2 0)])
  (fun x => [.blk b1 (LV .u64 (D 6 x)) 27, .blk b2 (LV .u64 (List.replicate 6 0)) 27]) (fun x => x) a ⟨ha, rfl⟩ (by repeat (first|apply subL.nil|refine subL.cons (by rfl) ?_)) (by repeat (first|apply SubW.nil|refine y_8 ?_)) ?_
 rintro x ⟨hx, hxa⟩
 have hlx := D_len 6 x
 have hp0 := p_pos
 by_cases h : x < p
 ·have hv : (!decide (x < p)) = false := by simp [h]
  repeat (first|refine y_3 (qbelow_spec hx) ?_|rw [hv]|refine y_82 ?_|refine Z81 fun _ => ?_|refine Z82 fun _ => ?_)
  refine Zec fun _ hw => post_of hw SubW.nil ⟨?_, rfl⟩
  rw [← hxa, Nat.mod_eq_of_lt h]
 ·have hv : (!decide (x < p)) = true := by simp [h]
  have hl2 := D_len 6 (x - p)
  repeat (first|refine y_3 (qbelow_spec hx) ?_|rw [hv]|refine y_82 ?_|refine Z81 fun _ => ?_|refine Z82 fun _ => ?_)
  refine st_draw1 (by rfl) ?_
  repeat (first|(refine Zqf (by intro _ _ _;(first|refine Z54 ?_);exact Zq) ?_)|refine y_83 ?_|refine y_41 (qminus_spec hx (Nat.le_of_not_lt h)) ?_|refine y_259 ?_)
  refine Zq0 ?_ (by kernel_rfl)
  repeat (first|refine y_82 ?_|refine Z81 fun _ => ?_|refine Z82 fun _ => ?_)
  exact st_round (x - p) ⟨by omega, by rw [← hxa, ← Nat.mod_eq_sub_mod (by omega)]⟩ (by omega) (by repeat (first|apply subL.nil|refine subL.cons (by rfl) ?_)) (by repeat (first|apply SubW.nil|refine y_8 ?_))
theorem seven_D {a x : Nat} (hx : x < 18446744073709551616) (ha : a < W ^ 6) : [x, (D 6 a).getD 0 0, (D 6 a).getD 1 0, (D 6 a).getD 2 0, (D 6 a).getD 3 0, (D 6 a).getD 4 0, (D 6 a).getD 5 0] = D 7 (a * W + x) := by
 have h6 : [(D 6 a).getD 0 0, (D 6 a).getD 1 0, (D 6 a).getD 2 0, (D 6 a).getD 3 0, (D 6 a).getD 4 0, (D 6 a).getD 5 0] = D 6 a := six (D_len 6 a)
 rw [h6]
 refine D_of_V (Lt.cons hx (D_lt _ _)) (by simp) ?_
 rw [V_def, val_cons, ← V_def, V_D' ha]
 rw [Nat.mul_comm a, Nat.add_comm]
theorem six_D {X : Nat} : [(D 7 X).getD 0 0, (D 7 X).getD 1 0, (D 7 X).getD 2 0, (D 7 X).getD 3 0, (D 7 X).getD 4 0, (D 7 X).getD 5 0] = D 6 X := by
 rw [← six (D_len 6 X)]
 simp only [D_getD _ _ _ (show 0 < 7 by decide), D_getD _ _ _ (show 1 < 7 by decide), D_getD _ _ _ (show 2 < 7 by decide), D_getD _ _ _ (show 3 < 7 by decide), D_getD _ _ _ (show 4 < 7 by decide), D_getD _ _ _ (show 5 < 7 by decide),
  D_getD _ _ _ (show 0 < 6 by decide), D_getD _ _ _ (show 1 < 6 by decide), D_getD _ _ _ (show 2 < 6 by decide), D_getD _ _ _ (show 3 < 6 by decide), D_getD _ _ _ (show 4 < 6 by decide), D_getD _ _ _ (show 5 < 6 by decide)]
theorem p_top : (D 6 p).getD 5 0 = 1873798617647539866 := by rw [← p_lit]; rfl
theorem p_hi : p < 1873798617647539867 * W ^ 5 := by decide +kernel
theorem y_84 {a b : Prop} (k : b) (h : Rm b → a := by intro k;(first|refine Z01 ?_|refine Z02 ?_|refine Z03 ?_|refine Z04 ?_|refine Z05 ?_|refine Z06 ?_|refine Z07 ?_|refine Z08 ?_|refine Z09 ?_|refine Z10 ?_|refine Z11 ?_|refine Z12 ?_|refine Z13 ?_|refine Z14 ?_|refine Z17 ?_|refine Z18 ?_|refine Z19 ?_|refine Z22 ?_|refine Z23 ?_|refine Z24 ?_|refine Z25 ?_|refine Z26 ?_|refine Z27 ?_|refine Z28 ?_|refine Z29 ?_|refine Z30 ?_|refine Z31 ?_|refine Z32 ?_|refine Z33 ?_|refine Z65 ?_|refine Z67 ?_);exact k.h) : a := h ⟨k⟩
set_option maxHeartbeats 4000000 in
theorem qnext_spec {a x : Nat} (ha : a < p) (hx : x < 18446744073709551616) : Spec Tryz.prog 60 [LV .u64 (D 6 a), N .u64 x] NoPre [] (IsV (LV .u64 (D 6 ((a * W + x) % p)))) := by
 refine mk_spec Tryz.func60 rfl rfl rfl fun w _ => ?_
 have hpl := p_lt
 have haW : a < W ^ 6 := by omega
 have hla := D_len 6 a
 have hlp := D_len 6 p
 have h7 := seven_D hx haW
 have hpt := p_top
 obtain ⟨Z, hZ⟩ : ∃ Z, Z = a * W + x := ⟨_, rfl⟩
 rw [← hZ] at h7 ⊢
 have hlz := D_len 7 Z
 have hg6 := D_getD 7 Z 6 (by decide)
 have hg5 := D_getD 7 Z 5 (by decide)
 have hZW : Z < W ^ 7 := by
  rw [hZ, Nat.pow_succ]
  have : a * W + W ≤ W ^ 6 * W := by rw [← Nat.succ_mul]; exact Nat.mul_le_mul_right _ haW
  have hW : W = 18446744073709551616 := rfl
  omega
 have h56 : Z / W ^ 6 % W * W + Z / W ^ 5 % W = Z / W ^ 5 := by
  rw [Nat.mod_eq_of_lt (Nat.div_lt_of_lt_mul (by rw [← Nat.pow_succ]; exact hZW)), ← div_next]
 have hq1 : Z / W ^ 5 / 1873798617647539867 * p ≤ Z := by
  refine Nat.le_trans (Nat.mul_le_mul_left _ (Nat.le_of_lt p_hi)) ?_
  rw [← Nat.mul_assoc]
  exact Nat.le_trans (Nat.mul_le_mul_right _ (Nat.div_mul_le_self _ _)) (Nat.div_mul_le_self _ _)
 have ht6 : Z / W ^ 6 % W < 1873798617647539867 := by
  have : Z / W ^ 6 < 1873798617647539867 := by
   refine Nat.div_lt_of_lt_mul ?_
   have h1 : a * W + W ≤ p * W := by rw [← Nat.succ_mul]; exact Nat.mul_le_mul_right _ ha
   have h2 : p * W < 1873798617647539867 * W ^ 5 * W := Nat.mul_lt_mul_of_pos_right p_hi W_pos
   have hW : W = 18446744073709551616 := rfl
   rw [Nat.mul_comm, Nat.pow_succ, ← Nat.mul_assoc]
   omega
  exact Nat.lt_of_le_of_lt (Nat.mod_le _ _) this
 have hg65 : (D 7 Z).getD 6 0 < 1873798617647539867 := by rw [hg6]; exact ht6
 have hg55 := (D_lt 7 Z).getD (by decide) 5
 have hq0 : ((D 7 Z).getD 6 0 * 18446744073709551616 + (D 7 Z).getD 5 0) / 1873798617647539867 = Z / W ^ 5 / 1873798617647539867 := by
  rw [hg6, hg5, show (18446744073709551616 : Nat) = W from rfl, h56]
 have hq2 := quo_lt hg65 hg55
 rw [hq0] at hq2
 generalize Z / W ^ 5 / 1873798617647539867 = Q at *
 rw [Nat.mul_comm Q] at hq1
 have h7p : [x, (D 6 a).getD 0 0, (D 6 a).getD 1 0, (D 6 a).getD 2 0, (D 6 a).getD 3 0, (D 6 a).getD 4 0, (D 6 a).getD 5 0] ++ List.replicate (7 - [x, (D 6 a).getD 0 0, (D 6 a).getD 1 0, (D 6 a).getD 2 0, (D 6 a).getD 3 0, (D 6 a).getD 4 0, (D 6 a).getD 5 0].length) 0 = D 7 Z := (List.append_nil _).trans h7
 have hl9 := D_len 7 (Z - p * Q)
 repeat (first|refine y_78 ?_|refine st_alloc (v := LV .u64 (List.replicate 7 0)) (by rfl) (by rfl) fun _ => ?_|(refine y_35 ?_;intro _)|(refine st_buildP (kk := .u64) (vs := [x, (D 6 a).getD 0 0, (D 6 a).getD 1 0, (D 6 a).getD 2 0, (D 6 a).getD 3 0, (D 6 a).getD 4 0, (D 6 a).getD 5 0]) (by rfl) (by rfl) (by rfl) (by rfl) (by rfl) (by rfl) (by rfl) (by rfl) ?_; rw [h7p])|rw [hpt]|(refine st_callV (by rfl) (by rfl) (by rfl) (div64_spec ((D 7 Z).getD 6 0) ((D 7 Z).getD 5 0) 1873798617647539867 hg65 hg55 (by decide)) (fun _ _ => trivial) (by rfl) ?_; rw [hq0])|refine y_3 (qless_spec hZW hq2 hq1) ?_|refine y_84 ?_|refine Z81 fun _ => ?_|refine Z82 fun _ => ?_)
 rename_i b2 b4 b5 b6
 have hmo : (Z - p * Q) % p = Z % p := by
  have : Z = (Z - p * Q) + p * Q := by omega
  conv => rhs; rw [this, Nat.add_mul_mod_self_left]
 have hX0 : Z - p * Q < W ^ 7 := by omega
 generalize Z - p * Q = X0 at *
 clear h7 h7p hg6 hg5 hg65 hg55 hq0 hq1 hq2 h56 ht6
 refine st_loop (ι := Nat) (fun X => X < W ^ 7 ∧ X % p = Z % p) (fun _ => [(2, pt b2 0), (4, pt b4 0), (5, pt b5 0), (6, pt b6 0)])
  (fun X => [.blk b6 (LV .u64 (D 7 X)) 99, .blk b5 (LV .u64 (D 6 p)) 27, .blk b4 (LV .u64 (List.replicate 6 0)) 27, .blk b2 (LV .u64 (D 6 a)) 27]) (fun X => X) X0 ⟨hX0, hmo⟩ (by repeat (first|apply subL.nil|refine subL.cons (by rfl) ?_)) (by repeat (first|apply SubW.nil|refine y_8 ?_)) ?_
 rintro X ⟨hX, hXm⟩
 have hlx := D_len 7 X
 have hgx := D_getD 7 X 6 (by decide)
 have hgx2 : (D 7 X).getD 6 0 = X / W ^ 6 := by rw [hgx, Nat.mod_eq_of_lt (Nat.div_lt_of_lt_mul (by rw [← Nat.pow_succ]; exact hX))]
 repeat (first|refine y_84 ?_|refine Z81 fun _ => ?_|refine Z82 fun _ => ?_)
 refine st_cond (by rfl) (fun hc => ?_) (fun hc => ?_)
 ·have hXp : p * 1 ≤ X := by
   rw [hgx2] at hc
   have := Nat.div_mul_le_self X (W ^ 6)
   have : 1 * W ^ 6 ≤ X / W ^ 6 * W ^ 6 := Nat.mul_le_mul_right _ hc
   omega
  have hl8 := D_len 7 (X - p * 1)
  have hp0 := p_pos
  repeat (first|refine st_callV (by rfl) (by rfl) (by rfl) (qless_spec hX (by decide) hXp) (fun _ _ => trivial) (by rfl) ?_|refine y_84 ?_|refine Z81 fun _ => ?_|refine Z82 fun _ => ?_)
  exact st_round (X - p * 1) ⟨by omega, by rw [← hXm, Nat.mul_one, ← Nat.mod_eq_sub_mod (by omega)]⟩ (by omega) (by repeat (first|apply subL.nil|refine subL.cons (by rfl) ?_)) (by repeat (first|apply SubW.nil|refine y_8 ?_))
 ·have hXW : X < W ^ 6 := by
   rw [hgx2] at hc
   have h0 : X / W ^ 6 = 0 := by omega
   rcases Nat.div_eq_zero_iff.1 h0 with h | h
   ·exact absurd h (by decide)
   ·exact h
  have h6p : [(D 7 X).getD 0 0, (D 7 X).getD 1 0, (D 7 X).getD 2 0, (D 7 X).getD 3 0, (D 7 X).getD 4 0, (D 7 X).getD 5 0] ++ List.replicate (6 - [(D 7 X).getD 0 0, (D 7 X).getD 1 0, (D 7 X).getD 2 0, (D 7 X).getD 3 0, (D 7 X).getD 4 0, (D 7 X).getD 5 0].length) 0 = D 6 X := (List.append_nil _).trans six_D
  have hl8 := D_len 6 (X % p)
  repeat (first|(refine st_buildP (kk := .u64) (vs := [(D 7 X).getD 0 0, (D 7 X).getD 1 0, (D 7 X).getD 2 0, (D 7 X).getD 3 0, (D 7 X).getD 4 0, (D 7 X).getD 5 0]) (by rfl) (by rfl) (by rfl) (by rfl) (by rfl) (by rfl) (by rfl) (by rfl) ?_; rw [h6p])|refine y_3 (qreduce_spec hXW) ?_|refine y_84 ?_|refine Z81 fun _ => ?_|refine Z82 fun _ => ?_)
  refine Zec fun _ hw => post_of hw SubW.nil ⟨?_, rfl⟩
  rw [hXm]
end Go.Proofs.YtbpmbdlgmmabcaaGreat.L
namespace Go.Proofs.YtbpmbdlgmmabcaaGreat.L
open Go Go.Proofs
set_option maxRecDepth 100000
attribute [local irreducible] Code.wp wpList Af bodyPost L.Go
open Num
attribute [local simp] D_len
set_option maxHeartbeats 2000000 in
theorem qadd_spec {a b : Nat} (ha : a < W ^ 6) (hb : b < W ^ 6) : Spec Tryz.prog 86 [LV .u64 (D 6 a), LV .u64 (D 6 b)] NoPre [] (IsV (LV .u64 (D 6 ((a + b) % p)))) := by
 refine mk_spec Tryz.func86 rfl rfl rfl fun w _ => ?_
 have hl0 := fun x => D_len 6 x
 have hm : (a % p + b % p) % p = (a + b) % p := (Nat.add_mod _ _ _).symm
 have hA := Nat.mod_lt a p_pos
 have hB := Nat.mod_lt b p_pos
 have hp2 := p2_lt
 repeat (first|(refine y_35 ?_;intro _)|refine y_3 (qreduce_spec ha) ?_|refine y_3 (qreduce_spec hb) ?_|refine y_39 ?_|refine Z81 fun _ => ?_|refine Z82 fun _ => ?_)
 generalize a % p = A at *
 generalize b % p = B at *
 rename_i b2 b3 b4 b5 b6
 refine st_loop (ι := Nat) (fun i => i ≤ 6) (fun i => [(4, pt b4 0), (5, pt b5 0), (6, pt b6 0), (7, N .u64 (crun addg (D 6 A) (D 6 B) i).2), (8, N .i64 i)])
  (fun i => [.blk b5 (LV .u64 ((crun addg (D 6 A) (D 6 B) i).1 ++ (D 6 A).drop i)) 27, .blk b6 (LV .u64 (D 6 B)) 27, .blk b4 (LV .u64 (List.replicate 6 0)) 27]) (fun i => 6 - i) 0 (by omega) (by rw [crun_0]; exact (by repeat (first|apply subL.nil|refine subL.cons (by rfl) ?_))) (by rw [crun_0]; exact (by repeat (first|apply SubW.nil|refine y_8 ?_))) ?_
 intro i hi
 have hc1 := crun_addD_le 6 A B i
 have hl := crun_len addg (D 6 A) (D 6 B) i
 have hla := hl0 A
 have hol : ((crun addg (D 6 A) (D 6 B) i).1 ++ (D 6 A).drop i).length = 6 := by simp; omega
 have hdg := drop_get (xs := D 6 A) hl
 by_cases h : i < 6
 ·repeat (first|refine y_193 ?_|refine Z81 fun _ => ?_|refine Z82 fun _ => ?_)
  refine st_draw1 (by rfl) ?_
  repeat (first|(refine Zqf (by intro _ _ _;(first|refine st_callX (by rfl) (by rfl) (by rfl) (add64X _ _ _ hc1) (by rfl) ?_|refine y_38 ?_);exact Zq) ?_)|refine y_257 ?_)
  refine Zq0 ?_ (by kernel_rfl)
  rw [hdg, ← addg_fst, ← addg_snd, ← crun_snd]
  repeat (first|rw [crun_drop addg (D 6 A) (D 6 B) i (by omega)]|refine y_39 ?_|refine Z81 fun _ => ?_|refine Z82 fun _ => ?_)
  exact st_round (i + 1) (by omega) (by omega) (by repeat (first|apply subL.nil|refine subL.cons (by rfl) ?_)) (by repeat (first|apply SubW.nil|refine y_8 ?_))
 ·have hie : i = 6 := by omega
  subst hie
  have hdr : (D 6 A).drop 6 = [] := List.drop_eq_nil_of_le (by omega)
  rw [crun_addD (by omega) (by omega), hdr, List.append_nil] at *
  simp only at *
  repeat (first|refine y_25 ?_|(refine st_callV (by rfl) (by rfl) (by rfl) (qreduce_spec (a := A + B) (by omega)) (fun _ _ => trivial) (by rfl) ?_; rw [hm])|refine y_39 ?_|refine Z81 fun _ => ?_|refine Z82 fun _ => ?_)
  refine Zec fun _ hw => post_of hw SubW.nil ⟨?_, rfl⟩
  rfl
theorem qneg_spec {a : Nat} (ha : a < W ^ 6) : Spec Tryz.prog 89 [LV .u64 (D 6 a)] NoPre [] (IsV (LV .u64 (D 6 ((p - a % p) % p)))) := by
 refine mk_spec Tryz.func89 rfl rfl rfl fun w _ => ?_
 have hl0 := fun x => D_len 6 x
 have hA := Nat.mod_lt a p_pos
 have hpl := p_lt
 repeat (first|(refine y_35 ?_;intro _)|refine y_46 ?_|refine Z81 fun _ => ?_|refine Z82 fun _ => ?_)
 refine st_draw1 (by rfl) ?_
 repeat (first|(refine Zqf (by intro _ _ _;(first|contradiction);exact Zq) ?_)|refine y_83 ?_|refine y_41 (qreduce_spec ha) ?_|refine y_41 (qminus_spec (a := p) (b := a % p) hpl (Nat.le_of_lt hA)) ?_|(refine Zqp (by intro _ _ _;refine st_callV (by rfl) (by rfl) (by rfl) (qreduce_spec (a := p - a % p) (by omega)) (fun _ _ => trivial) (by rfl) ?_;exact Zq) ?_)|refine y_259 ?_)
 refine Zq0 ?_ (by kernel_rfl)
 repeat (first|refine y_46 ?_|refine Z81 fun _ => ?_|refine Z82 fun _ => ?_)
 refine Zec fun _ hw => post_of hw SubW.nil ⟨?_, rfl⟩
 rfl
theorem qsub_spec {a b : Nat} (ha : a < W ^ 6) (hb : b < W ^ 6) : Spec Tryz.prog 84 [LV .u64 (D 6 a), LV .u64 (D 6 b)] NoPre [] (IsV (LV .u64 (D 6 ((a + (p - b % p) % p) % p)))) := by
 refine mk_spec Tryz.func84 rfl rfl rfl fun w _ => ?_
 have hl0 := fun x => D_len 6 x
 repeat (first|(refine y_35 ?_;intro _)|refine y_46 ?_|refine Z81 fun _ => ?_|refine Z82 fun _ => ?_)
 refine st_draw1 (by rfl) ?_
 repeat (first|(refine Zqf (by intro _ _ _;(first|contradiction);exact Zq) ?_)|refine y_41 (qneg_spec hb) ?_|refine y_41 (qadd_spec ha (mod_p (p - b % p))) ?_|refine y_259 ?_)
 refine Zq0 ?_ (by kernel_rfl)
 repeat (first|refine y_46 ?_|refine Z81 fun _ => ?_|refine Z82 fun _ => ?_)
 refine Zec fun _ hw => post_of hw SubW.nil ⟨?_, rfl⟩
 rfl
theorem six12 (T : Nat) : [(D 12 T).getD 6 0, (D 12 T).getD 7 0, (D 12 T).getD 8 0, (D 12 T).getD 9 0, (D 12 T).getD 10 0, (D 12 T).getD 11 0] = D 6 (T / W ^ 6) := by
 rw [← six (D_len 6 (T / W ^ 6))]
 simp only [D_getD _ _ _ (show 6 < 12 by decide), D_getD _ _ _ (show 7 < 12 by decide), D_getD _ _ _ (show 8 < 12 by decide), D_getD _ _ _ (show 9 < 12 by decide), D_getD _ _ _ (show 10 < 12 by decide), D_getD _ _ _ (show 11 < 12 by decide),
  D_getD _ _ _ (show 0 < 6 by decide), D_getD _ _ _ (show 1 < 6 by decide), D_getD _ _ _ (show 2 < 6 by decide), D_getD _ _ _ (show 3 < 6 by decide), D_getD _ _ _ (show 4 < 6 by decide), D_getD _ _ _ (show 5 < 6 by decide), Nat.div_div_eq_div_mul, ← Nat.pow_add]
theorem y_85 {a b : Prop} (k : b) (h : Rm b → a := by intro k;(first|refine Z01 ?_|refine Z02 ?_|refine Z03 ?_|refine Z04 ?_|refine Z05 ?_|refine Z06 ?_|refine Z07 ?_|refine Z08 ?_|refine Z09 ?_|refine Z10 ?_|refine Z11 ?_|refine Z12 ?_|refine Z13 ?_|refine Z14 ?_|refine Z15 ?_|refine Z16 ?_|refine Z17 ?_|refine Z18 ?_|refine Z19 ?_|refine Z22 ?_|refine Z23 ?_|refine Z24 ?_|refine Z25 ?_|refine Z26 ?_|refine Z27 ?_|refine Z28 ?_|refine Z29 ?_|refine Z30 ?_|refine Z31 ?_|refine Z32 ?_|refine Z33 ?_|refine Z65 ?_|refine Z67 ?_|refine Z70 ?_|refine Z71 ?_);exact k.h) : a := h ⟨k⟩
theorem y_86 {a b : Prop} (k : b) (h : Rm b → a := by intro k;(first|refine Z01 ?_|refine Z02 ?_|refine Z15 ?_|refine Z16 ?_|refine Z17 ?_|refine Z18 ?_|refine Z19 ?_|refine Z22 ?_|refine Z23 ?_|refine Z33 ?_|refine Z65 ?_|refine Z70 ?_|refine Z71 ?_);exact k.h) : a := h ⟨k⟩
theorem y_206 {a b : Prop} (k : b) (h : Rm b → a := by intro k;(first|refine y_30 ?_|refine Z01 ?_|refine Z02 ?_|refine Z03 ?_|refine Z04 ?_|refine Z05 ?_|refine Z06 ?_|refine Z07 ?_|refine Z08 ?_|refine Z09 ?_|refine Z10 ?_|refine Z11 ?_|refine Z12 ?_|refine Z13 ?_|refine Z14 ?_|refine Z15 ?_|refine Z16 ?_|refine Z17 ?_|refine Z18 ?_|refine Z19 ?_|refine Z22 ?_|refine Z23 ?_|refine Z24 ?_|refine Z25 ?_|refine Z26 ?_|refine Z27 ?_|refine Z28 ?_|refine Z29 ?_|refine Z30 ?_|refine Z31 ?_|refine Z32 ?_|refine Z33 ?_|refine Z65 ?_|refine Z67 ?_|refine Z70 ?_|refine Z71 ?_);exact k.h) : a := h ⟨k⟩
set_option maxHeartbeats 8000000 in
theorem qmul_spec {a b : Nat} (ha : a < W ^ 6) (hb : b < W ^ 6) : Spec Tryz.prog 85 [LV .u64 (D 6 a), LV .u64 (D 6 b)] NoPre [] (IsV (LV .u64 (D 6 (a * b % p)))) := by
 refine mk_spec Tryz.func85 rfl rfl rfl fun w _ => ?_
 have hl0 := fun x => D_len 6 x
 have hAp := Nat.mod_lt a p_pos
 have hBp := Nat.mod_lt b p_pos
 have hmm : (a % p) * (b % p) % p = a * b % p := (Nat.mul_mod _ _ _).symm
 have hpl := p_lt
 repeat (first|(refine y_35 ?_;intro _)|(refine y_62 ?_;intro _)|refine y_3 (qreduce_spec ha) ?_|refine y_3 (qreduce_spec hb) ?_|refine y_85 ?_|refine Z81 fun _ => ?_|refine Z82 fun _ => ?_)
 rename_i b2 b3 b4 b5 b6 b7
 rw [← hmm]
 generalize a % p = x at *
 generalize b % p = y at *
 clear ha hb hmm
 have hx : x < W ^ 6 := by omega
 have hy : y < W ^ 6 := by omega
 have hlx := hl0 x
 have hly := hl0 y
 refine st_loop (ι := Nat) (fun i => i ≤ 6) (fun i => [(4, pt b4 0), (5, pt b5 0), (6, pt b6 0), (7, pt b7 0), (8, N .i64 i)])
  (fun i => [.blk b7 (LV .u64 (D (i + 6) (x % W ^ i * y) ++ List.replicate (6 - i) 0)) 110, .blk b6 (LV .u64 (D 6 y)) 27, .blk b5 (LV .u64 (D 6 x)) 27, .blk b4 (LV .u64 (List.replicate 6 0)) 27]) (fun i => 6 - i) 0 (by omega) (by repeat (first|apply subL.nil|refine subL.cons (by rfl) ?_)) ?_ ?_
 ·rw [Nat.pow_zero, Nat.mod_one, Nat.zero_mul, D_zero, List.replicate_append_replicate]
  exact (by repeat (first|apply SubW.nil|refine y_8 ?_))
 intro i hi
 have hDl := D_len (i + 6) (x % W ^ i * y)
 have hDb := D_lt (i + 6) (x % W ^ i * y)
 have hAB : x % W ^ i * y < W ^ (i + 6) := by
  rw [Nat.pow_add]; exact Nat.mul_lt_mul_of_lt_of_le (Nat.mod_lt _ (W_pow_pos i)) (Nat.le_of_lt hy) (W_pow_pos _)
 have hVP := V_D' hAB
 by_cases h : i < 6
 ·have hxi := (D_lt 6 x).getD (by decide) i
  have hxv := D_getD' hx i
  repeat (first|refine y_206 ?_|refine Z81 fun _ => ?_|refine Z82 fun _ => ?_)
  refine st_loop (ι := Nat × List Nat × Nat) (fun q => q.1 ≤ 6 ∧ q.2.1.length = i + 6 ∧ Lt 18446744073709551616 q.2.1 ∧ q.2.2 < 18446744073709551616 ∧ V q.2.1 + W ^ i * W ^ q.1 * q.2.2 = x % W ^ i * y + (D 6 x).getD i 0 * W ^ i * (y % W ^ q.1))
   (fun q => [(4, pt b4 0), (5, pt b5 0), (6, pt b6 0), (7, pt b7 0), (8, N .i64 i), (9, N .u64 q.2.2), (10, N .i64 q.1)])
   (fun q => [.blk b7 (LV .u64 (q.2.1 ++ List.replicate (6 - i) 0)) 110, .blk b6 (LV .u64 (D 6 y)) 27, .blk b5 (LV .u64 (D 6 x)) 27, .blk b4 (LV .u64 (List.replicate 6 0)) 27]) (fun q => 6 - q.1) (0, D (i + 6) (x % W ^ i * y), 0) ⟨by omega, hDl, hDb, by simp only; decide, by simp only [Nat.pow_zero, Nat.mod_one, Nat.mul_zero, Nat.add_zero]; exact hVP⟩ (by repeat (first|apply subL.nil|refine subL.cons (by rfl) ?_)) (by repeat (first|apply SubW.nil|refine y_8 ?_)) ?_
  rintro ⟨k, P, c⟩ ⟨hk, hPl, hPb, hc, hP⟩
  simp only at hk hPl hPb hc hP ⊢
  have hlen : (P ++ List.replicate (6 - i) 0).length = 12 := by simp; omega
  by_cases hk' : k < 6
  ·have hyk := (D_lt 6 y).getD (by decide) k
   have hyv := D_getD' hy k
   have hpb := hPb.getD (by decide) (i + k)
   have hgl := getD_low (P := P) (Q := List.replicate (6 - i) 0) (i := i + k) (by omega)
   have hsl := fun c => set_low (P := P) (i := i + k) (m := 6 - i) (by omega) c
   obtain ⟨hw1, hw2⟩ := mul_word hpb hc (mul_bound hxi hyk)
   repeat (first|refine y_206 ?_|refine Z81 fun _ => ?_|refine Z82 fun _ => ?_)
   refine st_draw1 (by rfl) ?_
   repeat (first|(refine Zqf (by intro _ _ _;(first|refine y_86 ?_);exact Zq) ?_)|refine y_41 (mul64_spec ((D 6 x).getD i 0) ((D 6 y).getD k 0) hxi hyk) ?_|refine y_257 ?_)
   refine Zq0 ?_ (by kernel_rfl)
   have hlen2 : ∀ z, (P.set (i + k) z ++ List.replicate (6 - i) 0).length = 12 := fun z => by simp; omega
   repeat (first|refine y_44 ?_|rw [hgl]|rw [hsl]|refine y_85 ?_|refine Z81 fun _ => ?_|refine Z82 fun _ => ?_)
   refine st_round (k + 1, P.set (i + k) _, _) ⟨by simp only; omega, by simp only [List.length_set]; exact hPl, hPb.set (Nat.mod_lt _ (by decide)) _, hw2, ?_⟩ (by simp only; omega) (by repeat (first|apply subL.nil|refine subL.cons (by rfl) ?_)) (by repeat (first|apply SubW.nil|refine y_8 ?_))
   simp only
   have hvs := V_set hPb (i + k) ((P.getD (i + k) 0 + ((D 6 x).getD i 0 * (D 6 y).getD k 0 % 18446744073709551616 + c) % 18446744073709551616) % 18446744073709551616) (by omega)
   rw [Nat.pow_add] at hvs
   rw [W_mod_succ, ← hyv, Nat.pow_succ]
   exact mul_inner hvs hw1 hP
  ·have hke : k = 6 := by omega
   subst hke
   have hsm := set_mid (P := P) (m := 6 - i) hPl (by omega) c
   have e : P ++ [c] = D (i + 1 + 6) (x % W ^ (i + 1) * y) := by
    refine D_of_V (hPb.append (Num.Lt.cons hc (Num.Lt.nil _))) (by simp; omega) ?_
    rw [V_snoc hPl, Nat.pow_add, hP, Nat.mod_eq_of_lt hy, hxv, mul_outer]
   repeat (first|refine y_25 ?_|rw [hsm]|refine y_85 ?_|refine Z81 fun _ => ?_|refine Z82 fun _ => ?_)
   refine st_round (i + 1) (by omega) (by omega) (by repeat (first|apply subL.nil|refine subL.cons (by rfl) ?_)) ?_
   rw [← e, show 6 - (i + 1) = 6 - i - 1 by omega]
   exact (by repeat (first|apply SubW.nil|refine y_8 ?_))
 ·have hie : i = 6 := by omega
  subst hie
  rw [Nat.mod_eq_of_lt hx, Nat.sub_self, List.replicate_zero, List.append_nil]
  rw [Nat.mod_eq_of_lt hx] at hDl
  have hTp : x * y / W ^ 6 < p := by
   refine Nat.div_lt_of_lt_mul ?_
   exact Nat.mul_lt_mul_of_lt_of_le hx (Nat.le_of_lt hBp) p_pos
  have h12 := six12 (x * y)
  have hTW : x * y < W ^ 12 := by rw [show 12 = 6 + 6 from rfl, Nat.pow_add]; exact Nat.mul_lt_mul_of_lt_of_le hx (Nat.le_of_lt hy) (W_pow_pos 6)
  generalize x * y = T at *
  have h6p : [(D 12 T).getD 6 0, (D 12 T).getD 7 0, (D 12 T).getD 8 0, (D 12 T).getD 9 0, (D 12 T).getD 10 0, (D 12 T).getD 11 0] ++ List.replicate (6 - [(D 12 T).getD 6 0, (D 12 T).getD 7 0, (D 12 T).getD 8 0, (D 12 T).getD 9 0, (D 12 T).getD 10 0, (D 12 T).getD 11 0].length) 0 = D 6 (T / W ^ 6 % p) := by
   rw [Nat.mod_eq_of_lt hTp]
   exact (List.append_nil _).trans h12
  repeat (first|refine y_25 ?_|(refine y_35 ?_;intro _)|(refine st_buildP (kk := .u64) (vs := [(D 12 T).getD 6 0, (D 12 T).getD 7 0, (D 12 T).getD 8 0, (D 12 T).getD 9 0, (D 12 T).getD 10 0, (D 12 T).getD 11 0]) (by rfl) (by rfl) (by rfl) (by rfl) (by rfl) (by rfl) (by rfl) (by rfl) ?_; rw [h6p])|refine y_85 ?_|refine Z81 fun _ => ?_|refine Z82 fun _ => ?_)
  rename_i b17
  refine st_loop (ι := Nat) (fun j => j ≤ 6) (fun j => [(4, pt b4 0), (7, pt b7 0), (17, pt b17 0), (18, .int .i64 ((j : Int) - 1))])
   (fun j => [.blk b17 (LV .u64 (D 6 (T / W ^ j % p))) 27, .blk b7 (LV .u64 (D 12 T)) 110, .blk b4 (LV .u64 (List.replicate 6 0)) 27]) (fun j => j) 6 (Nat.le_refl _) (by repeat (first|apply subL.nil|refine subL.cons (by rfl) ?_)) (by repeat (first|apply SubW.nil|refine y_8 ?_)) ?_
  intro j hj
  have hlj := hl0 (T / W ^ j % p)
  repeat (first|refine y_85 ?_|refine Z81 fun _ => ?_|refine Z82 fun _ => ?_)
  refine st_cond (by rfl) (fun h => ?_) (fun h => ?_)
  ·have h0 : (0 : Int) ≤ (j : Int) - 1 := h
   obtain ⟨i, rfl⟩ : ∃ i, j = i + 1 := ⟨j - 1, by omega⟩
   rw [show ((i + 1 : Nat) : Int) - 1 = Int.ofNat i by simp]
   have hdb := (D_lt 12 T).getD (by decide) i
   have hgd := D_getD' hTW i
   have hnx : (T / W ^ (i + 1) % p * W + (D 12 T).getD i 0) % p = T / W ^ i % p := by
    rw [hgd, Nat.add_mod, Nat.mod_mul_mod, ← Nat.add_mod, ← div_next]
   repeat (first|refine y_85 ?_|refine Z81 fun _ => ?_|refine Z82 fun _ => ?_)
   refine st_draw1 (by rfl) ?_
   repeat (first|(refine Zqf (by intro _ _ _;(first|refine y_86 ?_);exact Zq) ?_)|(refine Zqp (by intro _ _ _;(refine st_callV (by rfl) (by rfl) (by rfl) (qnext_spec (a := T / W ^ (i + 1) % p) (x := (D 12 T).getD i 0) (Nat.mod_lt _ p_pos) hdb) (fun _ _ => trivial) (by rfl) ?_; rw [hnx]);exact Zq) ?_)|refine y_257 ?_)
   refine Zq0 ?_ (by kernel_rfl)
   repeat (first|refine y_85 ?_|refine Z81 fun _ => ?_|refine Z82 fun _ => ?_)
   refine st_round i (by omega) (by omega) ?_ (by repeat (first|apply SubW.nil|refine y_8 ?_))
   rw [show ((i : Int) - 1) = Int.ofNat i - Int.ofNat 1 from rfl]
   exact (by repeat (first|apply subL.nil|refine subL.cons (by rfl) ?_))
  ·have hp0 : ¬ (0 : Int) ≤ (j : Int) - 1 := h
   have hj0 : j = 0 := by omega
   subst hj0
   rw [Nat.pow_zero, Nat.div_one] at *
   repeat (first|refine y_85 ?_|refine Z81 fun _ => ?_|refine Z82 fun _ => ?_)
   refine Zec fun _ hw => post_of hw SubW.nil ⟨?_, rfl⟩
   rfl
end Go.Proofs.YtbpmbdlgmmabcaaGreat.L
namespace Go.Proofs.YtbpmbdlgmmabcaaGreat.L
open Go Go.Proofs
set_option maxRecDepth 100000
attribute [local irreducible] Code.wp wpList Af bodyPost L.Go
open Num
attribute [local simp] D_len
theorem y_87 {a b : Prop} (k : b) (h : Rm b → a := by intro k;(first|refine Z01 ?_|refine Z02 ?_|refine Z03 ?_|refine Z04 ?_|refine Z05 ?_|refine Z06 ?_|refine Z07 ?_|refine Z08 ?_|refine Z09 ?_|refine Z10 ?_|refine Z11 ?_|refine Z12 ?_|refine Z13 ?_|refine Z14 ?_|refine Z16 ?_|refine Z17 ?_|refine Z18 ?_|refine Z20 ?_|refine Z21 ?_|refine Z22 ?_|refine Z23 ?_|refine Z24 ?_|refine Z25 ?_|refine Z26 ?_|refine Z27 ?_|refine Z28 ?_|refine Z29 ?_|refine Z30 ?_|refine Z31 ?_|refine Z32 ?_|refine Z36 ?_|refine Z37 ?_|refine Z38 ?_|refine Z40 ?_|refine Z42 ?_|refine Z44 ?_|refine Z45 ?_|refine Z58 ?_|refine Z59 ?_|refine Z65 ?_|refine Z67 ?_|refine Z71 ?_|refine Z74 ?_|refine Z80 ?_);exact k.h) : a := h ⟨k⟩
set_option maxHeartbeats 4000000 in
theorem qpow_spec {a : Nat} (ha : a < W ^ 6) (s : Value) (xs : List Nat) (hx : Lt 18446744073709551616 xs) (hl : xs.length < 65536) :
  Spec Tryz.prog 126 [LV .u64 (D 6 a), s] (fun w => Rd w s (xs.map (N .u64))) [] (IsV (LV .u64 (D 6 (a ^ V xs % p)))) := by
 refine mk_spec Tryz.func126 rfl rfl rfl fun w hr => ?_
 have hr := RdC.mk0 hr
 have hl0 := fun x => D_len 6 x
 have h1p : 1 % p = 1 := Nat.mod_eq_of_lt p_prime.1
 have hz : V xs / 2 ^ (64 * xs.length) = 0 := Nat.div_eq_of_lt (by rw [Nat.pow_mul, ← W_2]; exact V_lt hx)
 repeat (first|(refine y_35 ?_;intro _)|refine y_48 ?_|refine Z01 ?_|refine Z02 ?_|refine Z03 ?_|refine Z04 ?_|refine Z05 ?_|refine Z06 ?_|refine Z07 ?_|refine Z08 ?_|refine Z09 ?_|refine Z10 ?_|refine Z11 ?_|refine Z12 ?_|refine Z13 ?_|refine Z14 ?_|refine Z16 ?_|refine Z17 ?_|refine Z18 ?_|refine Z20 ?_|refine Z21 ?_|refine Z22 ?_|refine Z23 ?_|refine Z24 ?_|refine Z25 ?_|refine Z26 ?_|refine Z27 ?_|refine Z28 ?_|refine Z29 ?_|refine Z30 ?_|refine Z31 ?_|refine Z32 ?_|refine Z36 ?_|refine Z37 ?_|refine Z38 ?_|refine Z40 ?_|refine Z42 ?_|refine Z44 ?_|refine Z45 ?_|refine Z58 ?_|refine Z59 ?_|refine Z65 ?_|refine Z67 ?_|refine Z71 ?_|refine Z74 ?_|refine Z80 ?_|refine Z81 fun _ => ?_|refine Z82 fun _ => ?_)
 rename_i b2 b4 b5
 refine st_loop (ι := Nat) (fun j => j ≤ 64 * xs.length) (fun j => [(1, s), (2, pt b2 0), (4, pt b4 0), (5, pt b5 0), (6, .int .i64 ((j : Int) - 1))])
  (fun j => [.blk b5 (LV .u64 (D 6 (a ^ (V xs / 2 ^ j) % p))) 27, .blk b4 (LV .u64 (List.replicate 6 0)) 27, .blk b2 (LV .u64 (D 6 a)) 27]) (fun j => j) (64 * xs.length) (Nat.le_refl _) (by repeat (first|apply subL.nil|refine subL.cons (by rfl) ?_)) (by rw [hz, Nat.pow_zero, h1p]; exact (by repeat (first|apply SubW.nil|refine y_8 ?_))) ?_
 intro j hj
 have hl6 := fun x => hl0 (a ^ x % p)
 repeat (first|refine y_87 ?_|refine Z81 fun _ => ?_|refine Z82 fun _ => ?_)
 refine st_cond (by rfl) (fun h => ?_) (fun h => ?_)
 ·have h0 : (0 : Int) ≤ (j : Int) - 1 := h
  obtain ⟨i, rfl⟩ : ∃ i, j = i + 1 := ⟨j - 1, by omega⟩
  rw [show ((i + 1 : Nat) : Int) - 1 = Int.ofNat i by simp]
  have hst := bit_step (V xs) i
  have hbt := bit_and6 hx i
  generalize V xs / 2 ^ (i + 1) = x at hst ⊢
  have hla := hl6 x
  have hla2 := hl6 (2 * x)
  have hla3 := hl6 (2 * x + 1)
  have hi64 : i % 64 % 18446744073709551616 = i % 64 := Nat.mod_eq_of_lt (by omega)
  have q1 : a ^ x % p * (a ^ x % p) % p = a ^ (2 * x) % p := by rw [← Nat.mul_mod, ← Nat.pow_add, Nat.two_mul]
  have q2 : a ^ (2 * x) % p * a % p = a ^ (2 * x + 1) % p := by rw [Nat.mod_mul_mod, Nat.pow_succ]
  repeat (first|(refine st_callV (by rfl) (by rfl) (by rfl) (qmul_spec (a := a ^ x % p) (b := a ^ x % p) (mod_p _) (mod_p _)) (fun _ _ => trivial) (by rfl) ?_; rw [q1])|rw [hi64]|refine st_shr (by rfl) (by rfl) (show i % 64 ≤ 64 by omega) (by rfl) ?_|rw [hbt]|refine y_87 ?_|refine Z81 fun _ => ?_|refine Z82 fun _ => ?_)
  refine st_cond (by rfl) (fun hb => ?_) (fun hb => ?_)
  ·have hx1 : V xs / 2 ^ i = 2 * x + 1 := by omega
   repeat (first|(refine st_callV (by rfl) (by rfl) (by rfl) (qmul_spec (a := a ^ (2 * x) % p) (b := a) (mod_p _) ha) (fun _ _ => trivial) (by rfl) ?_; rw [q2])|refine y_87 ?_|refine Z81 fun _ => ?_|refine Z82 fun _ => ?_)
   refine st_round i (by omega) (by omega) ?_ (by rw [hx1]; exact (by repeat (first|apply SubW.nil|refine y_8 ?_)))
   rw [show ((i : Int) - 1) = Int.ofNat i - Int.ofNat 1 from rfl]
   exact (by repeat (first|apply subL.nil|refine subL.cons (by rfl) ?_))
  ·have hx1 : V xs / 2 ^ i = 2 * x := by omega
   repeat (first|refine y_87 ?_|refine Z81 fun _ => ?_|refine Z82 fun _ => ?_)
   refine st_round i (by omega) (by omega) ?_ (by rw [hx1]; exact (by repeat (first|apply SubW.nil|refine y_8 ?_)))
   rw [show ((i : Int) - 1) = Int.ofNat i - Int.ofNat 1 from rfl]
   exact (by repeat (first|apply subL.nil|refine subL.cons (by rfl) ?_))
 ·have hp0 : ¬ (0 : Int) ≤ (j : Int) - 1 := h
  have hj0 : j = 0 := by omega
  subst hj0
  have hle := hl0 (a ^ V xs % p)
  rw [Nat.pow_zero, Nat.div_one]
  repeat (first|refine y_87 ?_|refine Z81 fun _ => ?_|refine Z82 fun _ => ?_)
  refine Zec fun _ hw => post_of hw SubW.nil ⟨?_, rfl⟩
  rfl
theorem p2_D : (D 6 p).set 0 (((D 6 p).getD 0 0 + (18446744073709551616 - 2 % 18446744073709551616)) % 18446744073709551616) = D 6 (p - 2) := by decide +kernel
theorem p2_lt6 : p - 2 < W ^ 6 := by have := p_lt; omega
theorem qinv_spec {a : Nat} (ha : a < W ^ 6) : Spec Tryz.prog 95 [LV .u64 (D 6 a)] NoPre [] (IsV (LV .u64 (D 6 (a ^ (p - 2) % p)))) := by
 refine mk_spec Tryz.func95 rfl rfl rfl fun w _ => ?_
 have hl0 := fun x => D_len 6 x
 have hlp := hl0 p
 have hl2 := hl0 (p - 2)
 have hv := V_D' p2_lt6
 have h2 := p2_D
 repeat (first|(refine y_35 ?_;intro _)|refine y_78 ?_|refine Z03 ?_|refine Z04 ?_|refine Z05 ?_|refine Z06 ?_|refine Z07 ?_|refine Z08 ?_|refine Z09 ?_|refine Z10 ?_|refine Z11 ?_|refine Z12 ?_|refine Z13 ?_|refine Z14 ?_|refine Z22 ?_|refine Z23 ?_|refine Z24 ?_|refine Z25 ?_|refine Z26 ?_|refine Z27 ?_|refine Z28 ?_|refine Z29 ?_|refine Z30 ?_|refine Z31 ?_|refine Z32 ?_|refine Z34 ?_|refine Z62 ?_|refine Z63 ?_|refine Z64 ?_|refine Z67 ?_|refine Z81 fun _ => ?_|refine Z82 fun _ => ?_)
 rw [h2]
 have hla := hl0 a
 have hpw := fun s => qpow_spec ha s (D 6 (p - 2)) (D_lt _ _) (by omega)
 rw [hv] at hpw
 clear h2 hv hlp
 refine st_draw1 (by rfl) ?_
 repeat (first|(refine Zqf (by intro _ _ _;(first|refine Z22 ?_|refine Z23 ?_|refine Z34 ?_|refine Z62 ?_|refine Z63 ?_|refine Z64 ?_);exact Zq) ?_)|(refine Zqp (by intro _ _ _;refine st_callV (by rfl) (by rfl) (by rfl) (hpw _) (RdW.arrAll (m := 6) (by repeat first|apply Find.here|apply Find.there) hl2) (by rfl) ?_;exact Zq) ?_)|refine y_188 ?_|refine y_185 ?_|refine Zqn ?_)
 refine Zq0 ?_ (by kernel_rfl)
 repeat (first|refine Z03 ?_|refine Z04 ?_|refine Z05 ?_|refine Z06 ?_|refine Z07 ?_|refine Z08 ?_|refine Z09 ?_|refine Z10 ?_|refine Z11 ?_|refine Z12 ?_|refine Z13 ?_|refine Z14 ?_|refine Z22 ?_|refine Z23 ?_|refine Z24 ?_|refine Z25 ?_|refine Z26 ?_|refine Z27 ?_|refine Z28 ?_|refine Z29 ?_|refine Z30 ?_|refine Z31 ?_|refine Z32 ?_|refine Z34 ?_|refine Z62 ?_|refine Z63 ?_|refine Z64 ?_|refine Z67 ?_|refine Z81 fun _ => ?_|refine Z82 fun _ => ?_)
 refine Zec fun _ hw => post_of hw SubW.nil ⟨?_, rfl⟩
 rfl
theorem y_88 {a b : Prop} (k : b) (h : Rm b → a := by intro k;(first|refine Z01 ?_|refine Z02 ?_|refine Z03 ?_|refine Z04 ?_|refine Z05 ?_|refine Z06 ?_|refine Z07 ?_|refine Z08 ?_|refine Z09 ?_|refine Z10 ?_|refine Z11 ?_|refine Z12 ?_|refine Z13 ?_|refine Z14 ?_|refine Z16 ?_|refine Z17 ?_|refine Z18 ?_|refine Z20 ?_|refine Z21 ?_|refine Z22 ?_|refine Z23 ?_|refine Z24 ?_|refine Z25 ?_|refine Z26 ?_|refine Z27 ?_|refine Z28 ?_|refine Z29 ?_|refine Z30 ?_|refine Z31 ?_|refine Z32 ?_|refine Z58 ?_|refine Z59 ?_|refine Z67 ?_|refine Z71 ?_);exact k.h) : a := h ⟨k⟩
theorem y_89 {a b : Prop} (k : b) (h : Rm b → a := by intro k;(first|refine Z01 ?_|refine Z02 ?_|refine Z16 ?_|refine Z17 ?_|refine Z18 ?_|refine Z20 ?_|refine Z21 ?_|refine Z22 ?_|refine Z23 ?_|refine Z58 ?_|refine Z59 ?_|refine Z71 ?_);exact k.h) : a := h ⟨k⟩
theorem qwide_spec (s : Value) (xs : List Nat) (hx : Lt 18446744073709551616 xs) (hl : xs.length < 9223372036854775808) :
  Spec Tryz.prog 26 [s] (fun w => Rd w s (xs.map (N .u64))) [] (IsV (LV .u64 (D 6 (V xs % p)))) := by
 refine mk_spec Tryz.func26 rfl rfl rfl fun w hr => ?_
 have hr := RdC.mk0 hr
 have hl0 := fun x => D_len 6 x
 have hz : V xs / W ^ xs.length = 0 := Nat.div_eq_of_lt (V_lt hx)
 have h0 := D_zero 6
 repeat (first|(refine y_35 ?_;intro _)|refine y_88 ?_|refine Z82 fun _ => ?_)
 rename_i b2 b3
 refine st_loop (ι := Nat) (fun j => j ≤ xs.length) (fun j => [(0, s), (2, pt b2 0), (3, pt b3 0), (4, .int .i64 ((j : Int) - 1))])
  (fun j => [.blk b3 (LV .u64 (D 6 (V xs / W ^ j % p))) 27, .blk b2 (LV .u64 (List.replicate 6 0)) 27]) (fun j => j) xs.length (Nat.le_refl _) (by repeat (first|apply subL.nil|refine subL.cons (by rfl) ?_)) (by rw [hz, Nat.zero_mod, h0]; exact (by repeat (first|apply SubW.nil|refine y_8 ?_))) ?_
 intro j hj
 have hlj := hl0 (V xs / W ^ j % p)
 repeat (first|refine y_88 ?_|refine Z82 fun _ => ?_)
 refine st_cond (by rfl) (fun h => ?_) (fun h => ?_)
 ·have h0 : (0 : Int) ≤ (j : Int) - 1 := h
  obtain ⟨i, rfl⟩ : ∃ i, j = i + 1 := ⟨j - 1, by omega⟩
  rw [show ((i + 1 : Nat) : Int) - 1 = Int.ofNat i by simp]
  have hdb := hx.getD (by decide) i
  have hnx : (V xs / W ^ (i + 1) % p * W + xs.getD i 0) % p = V xs / W ^ i % p := by
   rw [V_getD hx, Nat.add_mod, Nat.mod_mul_mod, ← Nat.add_mod, ← div_next]
  repeat (first|refine y_88 ?_|refine Z82 fun _ => ?_)
  refine st_draw1 (by rfl) ?_
  repeat (first|(refine Zqf (by intro _ _ _;(first|refine y_89 ?_);exact Zq) ?_)|(refine Zqp (by intro _ _ _;(refine st_callV (by rfl) (by rfl) (by rfl) (qnext_spec (a := V xs / W ^ (i + 1) % p) (x := xs.getD i 0) (Nat.mod_lt _ p_pos) hdb) (fun _ _ => trivial) (by rfl) ?_; rw [hnx]);exact Zq) ?_)|refine y_190 ?_|refine y_185 ?_|refine Zqn ?_)
  refine Zq0 ?_ (by kernel_rfl)
  repeat (first|refine y_88 ?_|refine Z82 fun _ => ?_)
  refine st_round i (by omega) (by omega) ?_ (by repeat (first|apply SubW.nil|refine y_8 ?_))
  rw [show ((i : Int) - 1) = Int.ofNat i - Int.ofNat 1 from rfl]
  exact (by repeat (first|apply subL.nil|refine subL.cons (by rfl) ?_))
 ·have hp0 : ¬ (0 : Int) ≤ (j : Int) - 1 := h
  have hj0 : j = 0 := by omega
  subst hj0
  rw [Nat.pow_zero, Nat.div_one] at *
  repeat (first|refine y_88 ?_|refine Z82 fun _ => ?_)
  refine Zec fun _ hw => post_of hw SubW.nil ⟨?_, rfl⟩
  rfl
end Go.Proofs.YtbpmbdlgmmabcaaGreat.L
namespace Go.Proofs.YtbpmbdlgmmabcaaGreat.L
open Go Go.Proofs
set_option maxRecDepth 100000
attribute [local irreducible] Code.wp wpList Af bodyPost L.Go PartAt
open Num
attribute [local simp] D_len
theorem rred_spec {a : Nat} (ha : a < W ^ 6) : Spec Tryz.prog 87 [LV .u64 (D 6 a)] NoPre [] (IsV (LV .u64 (D 6 (kp a).val))) := qreduce_spec ha
theorem radd_spec {a b : Nat} (ha : a < W ^ 6) (hb : b < W ^ 6) : Spec Tryz.prog 86 [LV .u64 (D 6 a), LV .u64 (D 6 b)] NoPre [] (IsV (LV .u64 (D 6 (kp a + kp b).val))) := by
 rw [← kadd_eq]; exact qadd_spec ha hb
theorem rmul_spec {a b : Nat} (ha : a < W ^ 6) (hb : b < W ^ 6) : Spec Tryz.prog 85 [LV .u64 (D 6 a), LV .u64 (D 6 b)] NoPre [] (IsV (LV .u64 (D 6 (kp a * kp b).val))) := by
 rw [← kmul_eq]; exact qmul_spec ha hb
theorem rsub_spec {a b : Nat} (ha : a < W ^ 6) (hb : b < W ^ 6) : Spec Tryz.prog 84 [LV .u64 (D 6 a), LV .u64 (D 6 b)] NoPre [] (IsV (LV .u64 (D 6 (kp a - kp b).val))) := by
 rw [← ksub_eq]; exact qsub_spec ha hb
theorem rneg_spec {a : Nat} (ha : a < W ^ 6) : Spec Tryz.prog 89 [LV .u64 (D 6 a)] NoPre [] (IsV (LV .u64 (D 6 (- kp a).val))) := by
 rw [← kneg_eq]; exact qneg_spec ha
theorem rinv_spec {a : Nat} (ha : a < W ^ 6) : Spec Tryz.prog 95 [LV .u64 (D 6 a)] NoPre [] (IsV (LV .u64 (D 6 (Kf.inv (kp a)).val))) := by
 rw [← kinv_eq]; exact qinv_spec ha
theorem raddF (x y : Fq) : Spec Tryz.prog 86 [LV .u64 (D 6 x.val), LV .u64 (D 6 y.val)] NoPre [] (IsV (LV .u64 (D 6 (x + y).val))) := by
 have := radd_spec (val_lt x) (val_lt y); rwa [kp_val, kp_val] at this
theorem rsubF (x y : Fq) : Spec Tryz.prog 84 [LV .u64 (D 6 x.val), LV .u64 (D 6 y.val)] NoPre [] (IsV (LV .u64 (D 6 (x - y).val))) := by
 have := rsub_spec (val_lt x) (val_lt y); rwa [kp_val, kp_val] at this
theorem rinvF (x : Fq) : Spec Tryz.prog 95 [LV .u64 (D 6 x.val)] NoPre [] (IsV (LV .u64 (D 6 (Kf.inv x).val))) := by
 have := rinv_spec (val_lt x); rwa [kp_val] at this
theorem low_mod {u : Nat} (hu : u < W ^ 6) : (D 6 u).getD 0 0 % 2 = u % 2 := by
 rw [D_getD' hu, Nat.pow_zero, Nat.div_one, show W = 18446744073709551616 from rfl]
 omega
theorem rsign_spec {a : Nat} (ha : a < W ^ 6) : Spec Tryz.prog 88 [LV .u64 (D 6 a)] NoPre [] (IsV (N .i64 (Kf.sg (kp a)))) := by
 refine mk_spec Tryz.func88 rfl rfl rfl fun w _ => ?_
 have hl0 := fun x => D_len 6 x
 have hla := hl0 (kp a).val
 have hb := low_mod (val_lt (kp a))
 repeat (first|(refine y_35 ?_;intro _)|refine y_3 (rred_spec ha) ?_|refine st_umod (by rfl) (by rfl) (by decide) (by rfl) ?_|rw [hb]|refine Z02 ?_|refine Z03 ?_|refine Z04 ?_|refine Z05 ?_|refine Z06 ?_|refine Z07 ?_|refine Z08 ?_|refine Z09 ?_|refine Z10 ?_|refine Z11 ?_|refine Z12 ?_|refine Z13 ?_|refine Z14 ?_|refine Z22 ?_|refine Z23 ?_|refine Z24 ?_|refine Z25 ?_|refine Z26 ?_|refine Z27 ?_|refine Z28 ?_|refine Z29 ?_|refine Z30 ?_|refine Z31 ?_|refine Z32 ?_|refine Z38 ?_|refine Z44 ?_|refine Z45 ?_|refine Z67 ?_|refine Z74 ?_|refine Z80 ?_|refine Z81 fun _ => ?_|refine Z82 fun _ => ?_)
 refine Ze1 fun _ hw => post_of hw SubW.nil ⟨?_, rfl⟩
 rfl
theorem tred_spec {a b : Nat} (ha : a < W ^ 6) (hb : b < W ^ 6) : Spec Tryz.prog 83 [LV .u64 (D 6 a ++ D 6 b)] NoPre [] (IsV (LV .u64 (E2 (k2 a b)))) := by
 refine mk_spec Tryz.func83 rfl rfl rfl fun w _ => ?_
 have hl0 := fun x => D_len 6 x
 repeat (first|(refine y_62 ?_;intro _)|refine y_63 ?_|refine Z81 fun _ => ?_|refine Z82 fun _ => ?_)
 refine st_draw1 (by rfl) ?_
 repeat (first|refine y_279 ?_|refine y_41 (rred_spec ha) ?_|refine y_41 (rred_spec hb) ?_|refine y_259 ?_)
 refine Zq0 ?_ (by kernel_rfl)
 repeat (first|refine y_63 ?_|refine Z81 fun _ => ?_|refine Z82 fun _ => ?_)
 refine Zec fun _ hw => post_of hw SubW.nil ⟨?_, rfl⟩
 rfl
theorem tadd_spec {a b e f : Nat} (ha : a < W ^ 6) (hb : b < W ^ 6) (he : e < W ^ 6) (hf : f < W ^ 6) : Spec Tryz.prog 79 [LV .u64 (D 6 a ++ D 6 b), LV .u64 (D 6 e ++ D 6 f)] NoPre [] (IsV (LV .u64 (E2 (Kf.K2.add (k2 a b) (k2 e f))))) := by
 refine mk_spec Tryz.func79 rfl rfl rfl fun w _ => ?_
 have hl0 := fun x => D_len 6 x
 repeat (first|(refine y_62 ?_;intro _)|refine y_63 ?_|refine Z81 fun _ => ?_|refine Z82 fun _ => ?_)
 refine st_draw1 (by rfl) ?_
 repeat (first|refine y_279 ?_|refine y_41 (radd_spec ha he) ?_|refine y_41 (radd_spec hb hf) ?_|refine y_259 ?_)
 refine Zq0 ?_ (by kernel_rfl)
 repeat (first|refine y_63 ?_|refine Z81 fun _ => ?_|refine Z82 fun _ => ?_)
 refine Zec fun _ hw => post_of hw SubW.nil ⟨?_, rfl⟩
 rfl
theorem tneg_spec {a b : Nat} (ha : a < W ^ 6) (hb : b < W ^ 6) : Spec Tryz.prog 49 [LV .u64 (D 6 a ++ D 6 b)] NoPre [] (IsV (LV .u64 (E2 (Kf.K2.neg (k2 a b))))) := by
 refine mk_spec Tryz.func49 rfl rfl rfl fun w _ => ?_
 have hl0 := fun x => D_len 6 x
 repeat (first|(refine y_62 ?_;intro _)|refine y_63 ?_|refine Z81 fun _ => ?_|refine Z82 fun _ => ?_)
 refine st_draw1 (by rfl) ?_
 repeat (first|refine y_279 ?_|refine y_41 (rneg_spec ha) ?_|refine y_41 (rneg_spec hb) ?_|refine y_259 ?_)
 refine Zq0 ?_ (by kernel_rfl)
 repeat (first|refine y_63 ?_|refine Z81 fun _ => ?_|refine Z82 fun _ => ?_)
 refine Zec fun _ hw => post_of hw SubW.nil ⟨?_, rfl⟩
 rfl
theorem tconj_spec {a b : Nat} (ha : a < W ^ 6) (hb : b < W ^ 6) : Spec Tryz.prog 93 [LV .u64 (D 6 a ++ D 6 b)] NoPre [] (IsV (LV .u64 (E2 (Kf.K2.conj (k2 a b))))) := by
 refine mk_spec Tryz.func93 rfl rfl rfl fun w _ => ?_
 have hl0 := fun x => D_len 6 x
 repeat (first|(refine y_62 ?_;intro _)|refine y_63 ?_|refine Z81 fun _ => ?_|refine Z82 fun _ => ?_)
 refine st_draw1 (by rfl) ?_
 repeat (first|refine y_279 ?_|refine y_41 (rred_spec ha) ?_|refine y_41 (rneg_spec hb) ?_|refine y_259 ?_)
 refine Zq0 ?_ (by kernel_rfl)
 repeat (first|refine y_63 ?_|refine Z81 fun _ => ?_|refine Z82 fun _ => ?_)
 refine Zec fun _ hw => post_of hw SubW.nil ⟨?_, rfl⟩
 rfl
theorem tscale_spec {a b e : Nat} (ha : a < W ^ 6) (hb : b < W ^ 6) (he : e < W ^ 6) : Spec Tryz.prog 94 [LV .u64 (D 6 a ++ D 6 b), LV .u64 (D 6 e)] NoPre [] (IsV (LV .u64 (E2 (Kf.K2.scale (k2 a b) (kp e))))) := by
 refine mk_spec Tryz.func94 rfl rfl rfl fun w _ => ?_
 have hl0 := fun x => D_len 6 x
 repeat (first|(refine y_62 ?_;intro _)|refine y_63 ?_|refine Z81 fun _ => ?_|refine Z82 fun _ => ?_)
 refine st_draw1 (by rfl) ?_
 repeat (first|refine y_279 ?_|refine y_41 (rmul_spec ha he) ?_|refine y_41 (rmul_spec hb he) ?_|refine y_259 ?_)
 refine Zq0 ?_ (by kernel_rfl)
 repeat (first|refine y_63 ?_|refine Z81 fun _ => ?_|refine Z82 fun _ => ?_)
 refine Zec fun _ hw => post_of hw SubW.nil ⟨?_, rfl⟩
 rfl
theorem y_207 {a b : Prop} (k : b) (h : Rm b → a := by intro k;(first|refine y_64 ?_|refine y_71 ?_|refine y_65 ?_|refine Z03 ?_|refine Z04 ?_|refine Z05 ?_|refine Z06 ?_|refine Z07 ?_|refine Z08 ?_|refine Z09 ?_|refine Z10 ?_|refine Z11 ?_|refine Z12 ?_|refine Z13 ?_|refine Z14 ?_|refine Z24 ?_|refine Z25 ?_|refine Z26 ?_|refine Z27 ?_|refine Z28 ?_|refine Z29 ?_|refine Z30 ?_|refine Z31 ?_|refine Z32 ?_|refine Z65 ?_|refine Z67 ?_);exact k.h) : a := h ⟨k⟩
set_option maxHeartbeats 4000000 in
theorem tmul_spec {a b e f : Nat} (ha : a < W ^ 6) (hb : b < W ^ 6) (he : e < W ^ 6) (hf : f < W ^ 6) : Spec Tryz.prog 46 [LV .u64 (D 6 a ++ D 6 b), LV .u64 (D 6 e ++ D 6 f)] NoPre [] (IsV (LV .u64 (E2 (Kf.K2.mul (k2 a b) (k2 e f))))) := by
 refine mk_spec Tryz.func46 rfl rfl rfl fun w _ => ?_
 have hl0 := fun x => D_len 6 x
 repeat (first|(refine y_62 ?_;intro _)|refine y_63 ?_|refine Z81 fun _ => ?_|refine Z82 fun _ => ?_)
 refine R.st_perm [0, 1, 2, 3, 4, 5, 6, 7, 8, 9, 10, 11, 12] (by rfl) ?_
 repeat (first|(refine R.Zpf (by rfl) (by intro _ _ _;(first|refine y_200 ?_);exact Zq) ?_)|refine y_202 ?_|refine y_68 ?_|refine y_69 (rmul_spec ha he) ?_|refine y_69 (rmul_spec hb hf) ?_|refine y_69 (rsubF (kp a * kp e) (kp b * kp f)) ?_|refine y_199 ?_|(refine y_59 ?_;intro _)|(refine y_60 ?_;intro _)|refine R.Zpo (by rfl) ?_)
 refine R.Zp0 ?_
 repeat (first|refine y_63 ?_|refine Z81 fun _ => ?_|refine Z82 fun _ => ?_)
 refine R.st_perm [0, 1, 2, 3, 4, 5, 6, 7, 8, 9, 10, 11, 12] (by rfl) ?_
 repeat (first|(refine R.Zpf (by rfl) (by intro _ _ _;(first|refine y_200 ?_);exact Zq) ?_)|refine y_202 ?_|refine y_68 ?_|refine y_69 (rmul_spec ha hf) ?_|refine y_69 (rmul_spec hb he) ?_|refine y_69 (raddF (kp a * kp f) (kp b * kp e)) ?_|refine y_199 ?_|(refine y_59 ?_;intro _)|(refine y_60 ?_;intro _)|refine R.Zpo (by rfl) ?_)
 refine R.Zp0 ?_
 repeat (first|(refine y_62 ?_;intro _)|(refine st_build2 (by rfl) (by rfl) (by rfl) (by rfl) (by simp; done) (by simp; done) (by rfl) ?_; skip)|refine y_207 ?_|refine Z81 fun _ => ?_|refine Z82 fun _ => ?_)
 refine Zec fun _ hw => post_of hw SubW.nil ⟨?_, rfl⟩
 rfl
theorem tmulE (x y : F2) : Spec Tryz.prog 46 [LV .u64 (E2 x), LV .u64 (E2 y)] NoPre [] (IsV (LV .u64 (E2 (Kf.K2.mul x y)))) := by
 have := tmul_spec (val_lt x.re) (val_lt x.im) (val_lt y.re) (val_lt y.im); rwa [k2_val, k2_val] at this
theorem taddE (x y : F2) : Spec Tryz.prog 79 [LV .u64 (E2 x), LV .u64 (E2 y)] NoPre [] (IsV (LV .u64 (E2 (Kf.K2.add x y)))) := by
 have := tadd_spec (val_lt x.re) (val_lt x.im) (val_lt y.re) (val_lt y.im); rwa [k2_val, k2_val] at this
theorem tnegE (x : F2) : Spec Tryz.prog 49 [LV .u64 (E2 x)] NoPre [] (IsV (LV .u64 (E2 (Kf.K2.neg x)))) := by
 have := tneg_spec (val_lt x.re) (val_lt x.im); rwa [k2_val] at this
theorem tredE (x : F2) : Spec Tryz.prog 83 [LV .u64 (E2 x)] NoPre [] (IsV (LV .u64 (E2 x))) := by
 have := tred_spec (val_lt x.re) (val_lt x.im); rwa [k2_val] at this
theorem tscaleE (x : F2) (k : Fq) : Spec Tryz.prog 94 [LV .u64 (E2 x), LV .u64 (D 6 k.val)] NoPre [] (IsV (LV .u64 (E2 (Kf.K2.scale x k)))) := by
 have := tscale_spec (val_lt x.re) (val_lt x.im) (val_lt k); rwa [k2_val, kp_val] at this
theorem tconjE (x : F2) : Spec Tryz.prog 93 [LV .u64 (E2 x)] NoPre [] (IsV (LV .u64 (E2 (Kf.K2.conj x)))) := by
 have := tconj_spec (val_lt x.re) (val_lt x.im); rwa [k2_val] at this
theorem norm_mul_conj (x : F2) : (Kf.K2.mul x (Kf.K2.conj x)).re = Kf.K2.norm x := by simp only [Kf.K2.mul, Kf.K2.conj, Kf.K2.norm]; grind
set_option maxHeartbeats 4000000 in
theorem tinvE (x : F2) : Spec Tryz.prog 54 [LV .u64 (E2 x)] NoPre [] (IsV (LV .u64 (E2 (Kf.K2.inv x)))) := by
 refine mk_spec Tryz.func54 rfl rfl rfl fun w _ => ?_
 have hl0 := fun x => D_len 6 x
 have hn := norm_mul_conj x
 obtain ⟨m, hm⟩ : ∃ m, m = Kf.K2.mul x (Kf.K2.conj x) := ⟨_, rfl⟩
 rw [← hm] at hn
 repeat (first|(refine y_62 ?_;intro _)|refine y_64 ?_|refine y_71 ?_|refine y_3 (tconjE x) ?_|(refine st_callV (by rfl) (by rfl) (by rfl) (tmulE x (Kf.K2.conj x)) (fun _ _ => trivial) (by rfl) ?_; rw [← hm])|refine y_46 ?_|refine Z81 fun _ => ?_|refine Z82 fun _ => ?_)
 refine st_draw1 (by rfl) ?_
 repeat (first|(refine Zqf (by intro _ _ _;(first|refine y_64 ?_);exact Zq) ?_)|refine y_66 ?_|refine y_41 (rinvF m.re) ?_|refine y_41 (tscaleE (Kf.K2.conj x) (Kf.inv m.re)) ?_|refine y_259 ?_)
 refine Zq0 ?_ (by kernel_rfl)
 rw [hn]
 repeat (first|refine y_46 ?_|refine Z81 fun _ => ?_|refine Z82 fun _ => ?_)
 refine Zec fun _ hw => post_of hw SubW.nil ⟨?_, rfl⟩
 rfl
end Go.Proofs.YtbpmbdlgmmabcaaGreat.L
namespace Go.Proofs.YtbpmbdlgmmabcaaGreat.L
open Go Go.Proofs
set_option maxRecDepth 100000
attribute [local irreducible] Code.wp wpList Af bodyPost L.Go PartAt
open Num
attribute [local simp] D_len
theorem y_90 {S1 a b : Prop} (s1 : S1) (k : b) (h : S1 → Rm b → a := by intro s1 k;refine st_ldo (by rfl) s1 (by rfl) (by rfl) (by first | (refine PartAt.l ?_; (simp; done)) | (refine PartAt.r ?_ ?_ <;> (simp; done)) | (refine PartAt.all ?_; (simp; done))) (by rfl) ?_;exact k.h) : a := h s1 ⟨k⟩
theorem y_91 {a b : Prop} (k : b) (h : Rm b → a := by intro k;(first|refine Z01 ?_|refine Z02 ?_|refine Z03 ?_|refine Z04 ?_|refine Z05 ?_|refine Z06 ?_|refine Z07 ?_|refine Z08 ?_|refine Z09 ?_|refine Z10 ?_|refine Z11 ?_|refine Z12 ?_|refine Z13 ?_|refine Z14 ?_|refine Z17 ?_|refine Z18 ?_|refine Z19 ?_|refine Z24 ?_|refine Z25 ?_|refine Z26 ?_|refine Z27 ?_|refine Z28 ?_|refine Z29 ?_|refine Z30 ?_|refine Z31 ?_|refine Z32 ?_|refine Z49 ?_|refine Z50 ?_|refine Z51 ?_|refine Z52 ?_|refine Z53 ?_|refine Z65 ?_|refine Z67 ?_|refine Z77 ?_|refine Z78 ?_|refine Z79 ?_);exact k.h) : a := h ⟨k⟩
theorem y_92 {a b : Prop} (k : b) (h : Rm b → a := by intro k;(first|refine Z01 ?_|refine Z02 ?_|refine Z17 ?_|refine Z18 ?_|refine Z19 ?_|refine Z49 ?_|refine Z50 ?_|refine Z65 ?_|refine Z77 ?_|refine Z78 ?_|refine Z79 ?_);exact k.h) : a := h ⟨k⟩
theorem y_208 {a b : Prop} (k : b) (h : Rm b → a := by intro k;(first|refine y_64 ?_|refine y_71 ?_|refine y_65 ?_|refine y_72 ?_|refine y_73 ?_);exact k.h) : a := h ⟨k⟩
theorem y_209 {a b : Prop} (k : b) (h : Rm b → a := by intro k;(first|refine y_64 ?_|refine y_65 ?_|refine y_72 ?_|refine y_73 ?_|refine Z01 ?_|refine Z02 ?_|refine Z17 ?_|refine Z18 ?_|refine Z19 ?_|refine Z49 ?_|refine Z50 ?_|refine Z65 ?_|refine Z77 ?_|refine Z78 ?_|refine Z79 ?_);exact k.h) : a := h ⟨k⟩
theorem y_210 {a b : Prop} (k : b) (h : Rm b → a := by intro k;(first|refine y_64 ?_|refine y_65 ?_|refine y_72 ?_|refine y_73 ?_);exact k.h) : a := h ⟨k⟩
theorem y_262 {a b : Prop} (k : b) (h : Rm b → a := by intro k;refine Zqf (by intro _ _ _;(first|refine y_209 ?_);exact Zq) ?_;exact k.h) : a := h ⟨k⟩
theorem y_280 {a b : Prop} (k : b) (h : Rm b → a := by intro k;(first|refine y_262 ?_|refine y_66 ?_|refine y_196 ?_|refine y_185 ?_|refine Zqn ?_);exact k.h) : a := h ⟨k⟩
set_option maxHeartbeats 4000000 in
theorem try_spec (u : Nat) (x : F2) (m : Fq) : Spec Tryz.prog 71 [LV .u64 (D 6 m.val), pt u 0] (fun w => HasB w u (LV .u64 (E2 x)) 29) [] (IsV (.tuple [LV .u64 (E2 (Kf.K2.tryP x m).1), .bool (Kf.K2.tryP x m).2].toArray)) := by
 refine mk_spec Tryz.func71 rfl rfl rfl fun w hr => ?_
 have h1 := OldB.mk0 hr
 have hl0 := fun x => D_len 6 x
 repeat (first|(refine y_62 ?_;intro _)|(refine y_35 ?_;intro _)|refine y_90 h1 ?_|refine y_208 ?_|refine y_3 (fadd_spec' x.re m) ?_|refine st_callV (by rfl) (by rfl) (by rfl) (half2_spec) (fun _ _ => trivial) (by rfl) ?_|refine y_3 (fmul_spec' (x.re + m) hv) ?_|refine y_3 (fsqrtF ((x.re + m) * hv)) ?_|refine y_91 ?_|refine Z81 fun _ => ?_|refine Z82 fun _ => ?_)
 obtain ⟨s, hs⟩ : ∃ s, s = Kf.K2.fsq ((x.re + m) * hv) := ⟨_, rfl⟩
 rw [← hs]
 refine R.st_perm [0, 1, 2, 3, 4, 5, 6, 7, 8] (by rfl) ?_
 repeat (first|(refine R.Zpf (by rfl) (by intro _ _ _;(first|(refine st_ldo (by rfl) ((h1).shift (by assumption)) (by rfl) (by rfl) (by first | (refine PartAt.l ?_; (simp; done)) | (refine PartAt.r ?_ ?_ <;> (simp; done)) | (refine PartAt.all ?_; (simp; done))) (by rfl) ?_)|refine y_209 ?_);exact Zq) ?_)|refine y_202 ?_|refine y_68 ?_|(refine R.Zpp (by rfl) (by intro _ _ _;refine st_callV (by rfl) (by rfl) (by rfl) (half2_spec) (fun _ _ => trivial) (by rfl) ?_;exact Zq) ?_)|refine y_69 (fmul_spec' x.im hv) ?_|refine y_69 (finv_spec' s.1) ?_|refine y_69 (fmul_spec' (x.im * hv) (Kf.inv s.1)) ?_|refine y_199 ?_|(refine y_59 ?_;intro _)|(refine y_60 ?_;intro _)|refine R.Zpo (by rfl) ?_)
 refine R.Zp0 ?_
 repeat (first|refine y_70 ?_|refine Z01 ?_|refine Z02 ?_|refine Z03 ?_|refine Z04 ?_|refine Z05 ?_|refine Z06 ?_|refine Z07 ?_|refine Z08 ?_|refine Z09 ?_|refine Z10 ?_|refine Z11 ?_|refine Z12 ?_|refine Z13 ?_|refine Z14 ?_|refine Z17 ?_|refine Z18 ?_|refine Z19 ?_|refine Z24 ?_|refine Z25 ?_|refine Z26 ?_|refine Z27 ?_|refine Z28 ?_|refine Z29 ?_|refine Z30 ?_|refine Z31 ?_|refine Z32 ?_|refine Z49 ?_|refine Z50 ?_|refine Z51 ?_|refine Z52 ?_|refine Z53 ?_|refine Z65 ?_|refine Z67 ?_|refine Z77 ?_|refine Z78 ?_|refine Z79 ?_|refine Z81 fun _ => ?_|refine Z82 fun _ => ?_)
 refine st_cond (by rfl) (fun h => ?_) (fun h => ?_)
 ·rw [D6_iff] at h
  obtain ⟨o, ho⟩ : ∃ o : F2, o = ⟨s.1, (Kf.K2.fsq (-x.re)).1⟩ := ⟨_, rfl⟩
  have hv0 := E2_mk ho
  have hT := Kf.K2.tryP_0 hs h ho
  have hsg := ssignE o
  obtain ⟨g, hg⟩ : ∃ g, g = Kf.K2.sgn o := ⟨_, rfl⟩
  rw [← hg] at hsg
  have hlo := E2_len o
  have hln := E2_len (Kf.K2.neg o)
  have hle := E2_len (Kf.K2.evn2 o)
  clear hs ho
  repeat (first|(refine st_build2 (by rfl) (by rfl) (by rfl) (by rfl) (by simp; done) (by simp; done) (by rfl) ?_; rw [hv0])|refine y_208 ?_|(refine y_62 ?_;intro _)|(refine y_35 ?_;intro _)|refine y_3 hsg ?_|refine y_3 (fneg_spec' x.re) ?_|refine y_3 (fsqrtF (-x.re)) ?_|refine y_90 h1 ?_|refine y_91 ?_|refine Z81 fun _ => ?_|refine Z82 fun _ => ?_)
  refine st_cond (by rfl) (fun hc => ?_) (fun hc => ?_)
  ·have he := Kf.K2.evn2_1 hg hc
   repeat (first|refine y_3 (snegE o) ?_|refine y_91 ?_|refine Z81 fun _ => ?_|refine Z82 fun _ => ?_)
   rw [← he]
   cases hB : (Kf.K2.fsq (-x.re)).2 with
   | false =>
    rw [hB] at hT
    rw [hT]
    repeat (first|refine y_91 ?_|refine Z81 fun _ => ?_|refine Z82 fun _ => ?_)
    refine st_draw1 (by rfl) ?_
    repeat (first|refine y_280 ?_)
    refine Zq0 ?_ (by kernel_rfl)
    repeat (first|refine y_91 ?_|refine Z81 fun _ => ?_|refine Z82 fun _ => ?_)
    refine st_endc2_LV (by rfl) (by rfl) (by rfl) (by repeat first|apply Find.here|apply Find.there) (by rfl) (by rfl) (by first | with_reducible assumption | (simp [*]; done)) fun _ hw => post_of hw SubW.nil ⟨?_, rfl⟩
    rfl
   | true =>
    rw [hB] at hT
    rw [hT]
    have hE2 := E2_iff (Kf.K2.mul (Kf.K2.evn2 o) (Kf.K2.evn2 o)) x
    repeat (first|refine y_91 ?_|refine Z81 fun _ => ?_|refine Z82 fun _ => ?_)
    refine st_draw1 (by rfl) ?_
    repeat (first|(refine Zqf (by intro _ _ _;(first|refine y_210 ?_|(refine st_ldo (by rfl) ((h1).shift (by assumption)) (by rfl) (by rfl) (by first | (refine PartAt.l ?_; (simp; done)) | (refine PartAt.r ?_ ?_ <;> (simp; done)) | (refine PartAt.all ?_; (simp; done))) (by rfl) ?_)|refine y_92 ?_);exact Zq) ?_)|refine y_66 ?_|refine y_41 (smulE (Kf.K2.evn2 o) (Kf.K2.evn2 o)) ?_|refine y_259 ?_)
    refine Zq0 ?_ (by kernel_rfl)
    rw [hE2]
    repeat (first|refine y_91 ?_|refine Z81 fun _ => ?_|refine Z82 fun _ => ?_)
    refine st_endc2_LV (by rfl) (by rfl) (by rfl) (by repeat first|apply Find.here|apply Find.there) (by rfl) (by rfl) (by first | with_reducible assumption | (simp [*]; done)) fun _ hw => post_of hw SubW.nil ⟨?_, rfl⟩
    rfl
  ·have he := (Kf.K2.evn2_0 hg hc).symm
   repeat (first|refine y_91 ?_|refine Z81 fun _ => ?_|refine Z82 fun _ => ?_)
   have hE0 := E2_congr he
   rw [hE0]
   cases hB : (Kf.K2.fsq (-x.re)).2 with
   | false =>
    rw [hB] at hT
    rw [hT]
    repeat (first|refine y_91 ?_|refine Z81 fun _ => ?_|refine Z82 fun _ => ?_)
    refine st_draw1 (by rfl) ?_
    repeat (first|refine y_280 ?_)
    refine Zq0 ?_ (by kernel_rfl)
    repeat (first|refine y_91 ?_|refine Z81 fun _ => ?_|refine Z82 fun _ => ?_)
    refine st_endc2_LV (by rfl) (by rfl) (by rfl) (by repeat first|apply Find.here|apply Find.there) (by rfl) (by rfl) (by first | with_reducible assumption | (simp [*]; done)) fun _ hw => post_of hw SubW.nil ⟨?_, rfl⟩
    rfl
   | true =>
    rw [hB] at hT
    rw [hT]
    have hE2 := E2_iff (Kf.K2.mul (Kf.K2.evn2 o) (Kf.K2.evn2 o)) x
    repeat (first|refine y_91 ?_|refine Z81 fun _ => ?_|refine Z82 fun _ => ?_)
    refine st_draw1 (by rfl) ?_
    repeat (first|(refine Zqf (by intro _ _ _;(first|refine y_210 ?_|(refine st_ldo (by rfl) ((h1).shift (by assumption)) (by rfl) (by rfl) (by first | (refine PartAt.l ?_; (simp; done)) | (refine PartAt.r ?_ ?_ <;> (simp; done)) | (refine PartAt.all ?_; (simp; done))) (by rfl) ?_)|refine y_92 ?_);exact Zq) ?_)|refine y_66 ?_|refine y_41 (smulE (Kf.K2.evn2 o) (Kf.K2.evn2 o)) ?_|refine y_259 ?_)
    refine Zq0 ?_ (by kernel_rfl)
    rw [hE2]
    repeat (first|refine y_91 ?_|refine Z81 fun _ => ?_|refine Z82 fun _ => ?_)
    refine st_endc2_LV (by rfl) (by rfl) (by rfl) (by repeat first|apply Find.here|apply Find.there) (by rfl) (by rfl) (by first | with_reducible assumption | (simp [*]; done)) fun _ hw => post_of hw SubW.nil ⟨?_, rfl⟩
    rfl
 ·rw [D6_iff] at h
  obtain ⟨o, ho⟩ : ∃ o : F2, o = ⟨s.1, x.im * hv * Kf.inv s.1⟩ := ⟨_, rfl⟩
  have hv0 := E2_mk ho
  have hT := Kf.K2.tryP_1 hs h ho
  have hsg := ssignE o
  obtain ⟨g, hg⟩ : ∃ g, g = Kf.K2.sgn o := ⟨_, rfl⟩
  rw [← hg] at hsg
  have hlo := E2_len o
  have hln := E2_len (Kf.K2.neg o)
  have hle := E2_len (Kf.K2.evn2 o)
  clear hs ho
  repeat (first|(refine st_build2 (by rfl) (by rfl) (by rfl) (by rfl) (by simp; done) (by simp; done) (by rfl) ?_; rw [hv0])|refine y_208 ?_|(refine y_62 ?_;intro _)|(refine y_35 ?_;intro _)|refine y_3 hsg ?_|(skip; fail)|refine y_91 ?_|refine Z81 fun _ => ?_|refine Z82 fun _ => ?_)
  refine st_cond (by rfl) (fun hc => ?_) (fun hc => ?_)
  ·have he := Kf.K2.evn2_1 hg hc
   repeat (first|refine y_3 (snegE o) ?_|refine y_91 ?_|refine Z81 fun _ => ?_|refine Z82 fun _ => ?_)
   rw [← he]
   cases hB : s.2 with
   | false =>
    rw [hB] at hT
    rw [hT]
    repeat (first|refine y_91 ?_|refine Z81 fun _ => ?_|refine Z82 fun _ => ?_)
    refine st_draw1 (by rfl) ?_
    repeat (first|refine y_280 ?_)
    refine Zq0 ?_ (by kernel_rfl)
    repeat (first|refine y_91 ?_|refine Z81 fun _ => ?_|refine Z82 fun _ => ?_)
    refine st_endc2_LV (by rfl) (by rfl) (by rfl) (by repeat first|apply Find.here|apply Find.there) (by rfl) (by rfl) (by first | with_reducible assumption | (simp [*]; done)) fun _ hw => post_of hw SubW.nil ⟨?_, rfl⟩
    rfl
   | true =>
    rw [hB] at hT
    rw [hT]
    have hE2 := E2_iff (Kf.K2.mul (Kf.K2.evn2 o) (Kf.K2.evn2 o)) x
    repeat (first|refine y_91 ?_|refine Z81 fun _ => ?_|refine Z82 fun _ => ?_)
    refine st_draw1 (by rfl) ?_
    repeat (first|(refine Zqf (by intro _ _ _;(first|refine y_210 ?_|(refine st_ldo (by rfl) ((h1).shift (by assumption)) (by rfl) (by rfl) (by first | (refine PartAt.l ?_; (simp; done)) | (refine PartAt.r ?_ ?_ <;> (simp; done)) | (refine PartAt.all ?_; (simp; done))) (by rfl) ?_)|refine y_92 ?_);exact Zq) ?_)|refine y_66 ?_|refine y_41 (smulE (Kf.K2.evn2 o) (Kf.K2.evn2 o)) ?_|refine y_259 ?_)
    refine Zq0 ?_ (by kernel_rfl)
    rw [hE2]
    repeat (first|refine y_91 ?_|refine Z81 fun _ => ?_|refine Z82 fun _ => ?_)
    refine st_endc2_LV (by rfl) (by rfl) (by rfl) (by repeat first|apply Find.here|apply Find.there) (by rfl) (by rfl) (by first | with_reducible assumption | (simp [*]; done)) fun _ hw => post_of hw SubW.nil ⟨?_, rfl⟩
    rfl
  ·have he := (Kf.K2.evn2_0 hg hc).symm
   repeat (first|refine y_91 ?_|refine Z81 fun _ => ?_|refine Z82 fun _ => ?_)
   have hE0 := E2_congr he
   rw [hE0]
   cases hB : s.2 with
   | false =>
    rw [hB] at hT
    rw [hT]
    repeat (first|refine y_91 ?_|refine Z81 fun _ => ?_|refine Z82 fun _ => ?_)
    refine st_draw1 (by rfl) ?_
    repeat (first|refine y_280 ?_)
    refine Zq0 ?_ (by kernel_rfl)
    repeat (first|refine y_91 ?_|refine Z81 fun _ => ?_|refine Z82 fun _ => ?_)
    refine st_endc2_LV (by rfl) (by rfl) (by rfl) (by repeat first|apply Find.here|apply Find.there) (by rfl) (by rfl) (by first | with_reducible assumption | (simp [*]; done)) fun _ hw => post_of hw SubW.nil ⟨?_, rfl⟩
    rfl
   | true =>
    rw [hB] at hT
    rw [hT]
    have hE2 := E2_iff (Kf.K2.mul (Kf.K2.evn2 o) (Kf.K2.evn2 o)) x
    repeat (first|refine y_91 ?_|refine Z81 fun _ => ?_|refine Z82 fun _ => ?_)
    refine st_draw1 (by rfl) ?_
    repeat (first|(refine Zqf (by intro _ _ _;(first|refine y_210 ?_|(refine st_ldo (by rfl) ((h1).shift (by assumption)) (by rfl) (by rfl) (by first | (refine PartAt.l ?_; (simp; done)) | (refine PartAt.r ?_ ?_ <;> (simp; done)) | (refine PartAt.all ?_; (simp; done))) (by rfl) ?_)|refine y_92 ?_);exact Zq) ?_)|refine y_66 ?_|refine y_41 (smulE (Kf.K2.evn2 o) (Kf.K2.evn2 o)) ?_|refine y_259 ?_)
    refine Zq0 ?_ (by kernel_rfl)
    rw [hE2]
    repeat (first|refine y_91 ?_|refine Z81 fun _ => ?_|refine Z82 fun _ => ?_)
    refine st_endc2_LV (by rfl) (by rfl) (by rfl) (by repeat first|apply Find.here|apply Find.there) (by rfl) (by rfl) (by first | with_reducible assumption | (simp [*]; done)) fun _ hw => post_of hw SubW.nil ⟨?_, rfl⟩
    rfl
end Go.Proofs.YtbpmbdlgmmabcaaGreat.L
namespace Go.Proofs.YtbpmbdlgmmabcaaGreat.L
open Go Go.Proofs
set_option maxRecDepth 100000
attribute [local irreducible] Code.wp wpList Af bodyPost L.Go PartAt
open Num
attribute [local simp] D_len
theorem zero12 : (List.replicate 12 0 : List Nat) = E2 (Kf.K2.zero : F2) := by decide +kernel
theorem y_93 {a b : Prop} (k : b) (h : Rm b → a := by intro k;(first|refine Z01 ?_|refine Z02 ?_|refine Z03 ?_|refine Z04 ?_|refine Z05 ?_|refine Z06 ?_|refine Z07 ?_|refine Z08 ?_|refine Z09 ?_|refine Z10 ?_|refine Z11 ?_|refine Z12 ?_|refine Z13 ?_|refine Z14 ?_|refine Z19 ?_|refine Z24 ?_|refine Z25 ?_|refine Z26 ?_|refine Z27 ?_|refine Z28 ?_|refine Z29 ?_|refine Z30 ?_|refine Z31 ?_|refine Z32 ?_|refine Z48 ?_|refine Z54 ?_|refine Z65 ?_|refine Z67 ?_);exact k.h) : a := h ⟨k⟩
theorem y_94 {a b : Prop} (k : b) (h : Rm b → a := by intro k;refine st_build20 (k := .u64) (z := List.replicate 12 0) (by rfl) (by rfl) (by rfl) (by rfl) ?_; rw [zero12];exact k.h) : a := h ⟨k⟩
theorem y_95 {S1 a b : Prop} (s1 : S1) (k : b) (h : S1 → Rm b → a := by intro s1 k;refine st_callV (by rfl) (by rfl) (by rfl) s1 (HasB.own (by repeat first|apply Find.here|apply Find.there)) (by rfl) ?_;exact k.h) : a := h s1 ⟨k⟩
theorem y_211 {a b : Prop} (k : b) (h : Rm b → a := by intro k;(first|refine y_94 ?_|refine Z01 ?_|refine Z02 ?_|refine Z03 ?_|refine Z04 ?_|refine Z05 ?_|refine Z06 ?_|refine Z07 ?_|refine Z08 ?_|refine Z09 ?_|refine Z10 ?_|refine Z11 ?_|refine Z12 ?_|refine Z13 ?_|refine Z14 ?_|refine Z19 ?_|refine Z24 ?_|refine Z25 ?_|refine Z26 ?_|refine Z27 ?_|refine Z28 ?_|refine Z29 ?_|refine Z30 ?_|refine Z31 ?_|refine Z32 ?_|refine Z48 ?_|refine Z54 ?_|refine Z65 ?_|refine Z67 ?_);exact k.h) : a := h ⟨k⟩
set_option maxHeartbeats 4000000 in
theorem sqrt_spec {a b : Nat} (ha : a < W ^ 6) (hb : b < W ^ 6) : Spec Tryz.prog 37 [LV .u64 (D 6 a ++ D 6 b)] NoPre [] (IsV (.tuple [LV .u64 (E2 (Kf.K2.sqrtP (k2 a b)).1), .bool (Kf.K2.sqrtP (k2 a b)).2].toArray)) := by
 refine mk_spec Tryz.func37 rfl rfl rfl fun w _ => ?_
 have hl0 := fun x => D_len 6 x
 have hlz := E2_len (Kf.K2.zero : F2)
 have hred := sred_spec ha hb
 obtain ⟨x, hx⟩ : ∃ x : F2, x = k2 a b := ⟨_, rfl⟩
 rw [← hx] at hred ⊢
 clear hx
 have hlx := E2_len x
 have hadd : Spec Tryz.prog 63 [LV .u64 (D 6 (x.re * x.re).val), LV .u64 (D 6 (x.im * x.im).val)] NoPre [] (IsV (LV .u64 (D 6 (Kf.K2.norm x).val))) := fadd_spec' (x.re * x.re) (x.im * x.im)
 have hfs := fsqrtF (Kf.K2.norm x)
 obtain ⟨s, hs⟩ : ∃ s, s = Kf.K2.fsq (Kf.K2.norm x) := ⟨_, rfl⟩
 rw [← hs] at hfs
 obtain ⟨t, ht⟩ : ∃ t, t = Kf.K2.tryP x s.1 := ⟨_, rfl⟩
 have htry := fun u => try_spec u x s.1
 rw [← ht] at htry
 obtain ⟨v, hv⟩ : ∃ v, v = Kf.K2.tryP x (-s.1) := ⟨_, rfl⟩
 have htry2 := fun u => try_spec u x (-s.1)
 rw [← hv] at htry2
 have hneg := fneg_spec' s.1
 have hP0 := Kf.K2.sqrtP_0 hs
 have hP1 := Kf.K2.sqrtP_1 hs (t := t)
 have hP2 := Kf.K2.sqrtP_2 hs (t := t) (v := v)
 have hP3 := Kf.K2.sqrtP_3 hs (t := t) (v := v)
 obtain ⟨s1, s2⟩ := s
 obtain ⟨t1, t2⟩ := t
 obtain ⟨v1, v2⟩ := v
 have hlt := E2_len t1
 have hlv := E2_len v1
 simp only at *
 repeat (first|(refine y_62 ?_;intro _)|refine y_3 hred ?_|(refine y_35 ?_;intro _)|refine y_93 ?_|refine Z81 fun _ => ?_|refine Z82 fun _ => ?_)
 refine R.st_perm [0, 1, 2, 3, 4, 5, 6, 7, 8, 9, 10, 11, 12, 13, 14, 15, 16, 17] (by rfl) ?_
 repeat (first|(refine R.Zpf (by rfl) (by intro _ _ _;(first|refine y_64 ?_|refine y_72 ?_|refine Z01 ?_|refine Z02 ?_|refine Z19 ?_|refine Z48 ?_|refine Z54 ?_|refine Z65 ?_);exact Zq) ?_)|refine y_202 ?_|refine y_68 ?_|refine y_69 (fmul_spec' x.re x.re) ?_|refine y_69 (fmul_spec' x.im x.im) ?_|refine y_69 hadd ?_|refine y_69 hfs ?_|refine y_199 ?_|(refine y_59 ?_;intro _)|(refine y_60 ?_;intro _)|refine R.Zpo (by rfl) ?_)
 refine R.Zp0 ?_
 clear hfs hadd hred
 cases s2 with
 | false =>
  rw [hP0 rfl]
  repeat (first|refine y_211 ?_|refine Z81 fun _ => ?_|refine Z82 fun _ => ?_)
  refine st_endc2_LV (by rfl) (by rfl) (by rfl) (by repeat first|apply Find.here|apply Find.there) (by rfl) (by rfl) (by first | with_reducible assumption | (simp [*]; done)) fun _ hw => post_of hw SubW.nil ⟨?_, rfl⟩
  rfl
 | true =>
  cases t2 with
  | true =>
   rw [hP1 rfl ht rfl]
   clear hP0 hP1 hP2 hP3 hs ht hv
   repeat (first|(refine y_62 ?_;intro _)|refine y_95 (htry _) ?_|refine y_93 ?_|refine Z81 fun _ => ?_|refine Z82 fun _ => ?_)
   refine st_endc2_LV (by rfl) (by rfl) (by rfl) (by repeat first|apply Find.here|apply Find.there) (by rfl) (by rfl) (by first | with_reducible assumption | (simp [*]; done)) fun _ hw => post_of hw SubW.nil ⟨?_, rfl⟩
   rfl
  | false =>
   cases v2 with
   | true =>
    rw [hP2 rfl ht rfl hv rfl]
    clear hP0 hP1 hP2 hP3 hs ht hv
    repeat (first|(refine y_62 ?_;intro _)|refine y_95 (htry _) ?_|refine y_3 hneg ?_|refine y_95 (htry2 _) ?_|refine y_93 ?_|refine Z81 fun _ => ?_|refine Z82 fun _ => ?_)
    refine st_endc2_LV (by rfl) (by rfl) (by rfl) (by repeat first|apply Find.here|apply Find.there) (by rfl) (by rfl) (by first | with_reducible assumption | (simp [*]; done)) fun _ hw => post_of hw SubW.nil ⟨?_, rfl⟩
    rfl
   | false =>
    rw [hP3 rfl ht rfl hv rfl]
    clear hP0 hP1 hP2 hP3 hs ht hv
    repeat (first|(refine y_62 ?_;intro _)|refine y_95 (htry _) ?_|refine y_3 hneg ?_|refine y_95 (htry2 _) ?_|refine y_211 ?_|refine Z81 fun _ => ?_|refine Z82 fun _ => ?_)
    refine st_endc2_LV (by rfl) (by rfl) (by rfl) (by repeat first|apply Find.here|apply Find.there) (by rfl) (by rfl) (by first | with_reducible assumption | (simp [*]; done)) fun _ hw => post_of hw SubW.nil ⟨?_, rfl⟩
    rfl
theorem sqrtE (x : F2) : Spec Tryz.prog 37 [LV .u64 (E2 x)] NoPre [] (IsV (.tuple [LV .u64 (E2 (Kf.K2.sqrtP x).1), .bool (Kf.K2.sqrtP x).2].toArray)) := by
 have := sqrt_spec (val_lt x.re) (val_lt x.im); rwa [k2_val] at this
end Go.Proofs.YtbpmbdlgmmabcaaGreat.L
namespace Go.Proofs.YtbpmbdlgmmabcaaGreat.L
open Go Go.Proofs
set_option maxRecDepth 100000
attribute [local irreducible] Code.wp wpList Af bodyPost L.Go PartAt
open Num
attribute [local simp] D_len
theorem E2_same (x : F2) : (decide (D 6 x.re.val = D 6 x.re.val) && decide (D 6 x.im.val = D 6 x.im.val)) = true := by rw [E2_iff]; exact decide_eq_true rfl
theorem E2_diff {x y : F2} (h : ¬ x = y) : (decide (D 6 x.re.val = D 6 y.re.val) && decide (D 6 x.im.val = D 6 y.im.val)) = false := by rw [E2_iff]; exact decide_eq_false h
theorem two6 : ([2] ++ List.replicate (6 - [2].length) 0 : List Nat) = D 6 2 := by decide +kernel
end Go.Proofs.YtbpmbdlgmmabcaaGreat.L
namespace Go.Proofs.YtbpmbdlgmmabcaaGreat.L
open Go Go.Proofs
set_option maxRecDepth 100000
attribute [local irreducible] Code.wp wpList Af bodyPost L.Go PartAt
open Num
attribute [local simp] D_len
theorem one2 : D 6 1 ++ List.replicate 6 0 = E2 (Kf.K2.one : F2) := by decide +kernel
theorem tmulX {a b : Nat} (ha : a < W ^ 6) (hb : b < W ^ 6) (x : F2) : Spec Tryz.prog 46 [LV .u64 (E2 x), LV .u64 (D 6 a ++ D 6 b)] NoPre [] (IsV (LV .u64 (E2 (Kf.K2.mul x (k2 a b))))) := by
 have := tmul_spec (val_lt x.re) (val_lt x.im) ha hb; rwa [k2_val] at this
theorem y_96 {a b : Prop} (k : b) (h : Rm b → a := by intro k;refine st_build2a (by rfl) (by rfl) (by rfl) (by rfl) (by simp; done) (by rfl) ?_;exact k.h) : a := h ⟨k⟩
set_option maxHeartbeats 4000000 in
theorem tpow_spec {a b : Nat} (ha : a < W ^ 6) (hb : b < W ^ 6) (s : Value) (xs : List Nat) (hx : Lt 18446744073709551616 xs) (hl : xs.length < 65536) :
  Spec Tryz.prog 120 [LV .u64 (D 6 a ++ D 6 b), s] (fun w => Rd w s (xs.map (N .u64))) [] (IsV (LV .u64 (E2 (Kf.K2.pw (k2 a b) (V xs))))) := by
 refine mk_spec Tryz.func120 rfl rfl rfl fun w hr => ?_
 have hr := RdC.mk0 hr
 have hl0 := fun x => D_len 6 x
 have hz : V xs / 2 ^ (64 * xs.length) = 0 := Nat.div_eq_of_lt (by rw [Nat.pow_mul, ← W_2]; exact V_lt hx)
 obtain ⟨y, hy⟩ : ∃ y : F2, y = k2 a b := ⟨_, rfl⟩
 have hm := fun x => tmulX ha hb x
 rw [← hy] at hm ⊢
 have hm2 := fun k => tmulE (Kf.K2.pw y k) (Kf.K2.pw y k)
 have hle := fun x : F2 => E2_len x
 clear hy
 repeat (first|(refine y_62 ?_;intro _)|(refine y_35 ?_;intro _)|refine y_71 ?_|refine y_96 ?_|refine y_48 ?_|refine Z01 ?_|refine Z02 ?_|refine Z03 ?_|refine Z04 ?_|refine Z05 ?_|refine Z06 ?_|refine Z07 ?_|refine Z08 ?_|refine Z09 ?_|refine Z10 ?_|refine Z11 ?_|refine Z12 ?_|refine Z13 ?_|refine Z14 ?_|refine Z16 ?_|refine Z17 ?_|refine Z18 ?_|refine Z20 ?_|refine Z21 ?_|refine Z22 ?_|refine Z23 ?_|refine Z24 ?_|refine Z25 ?_|refine Z26 ?_|refine Z27 ?_|refine Z28 ?_|refine Z29 ?_|refine Z30 ?_|refine Z31 ?_|refine Z32 ?_|refine Z36 ?_|refine Z37 ?_|refine Z38 ?_|refine Z40 ?_|refine Z42 ?_|refine Z44 ?_|refine Z45 ?_|refine Z58 ?_|refine Z59 ?_|refine Z65 ?_|refine Z67 ?_|refine Z71 ?_|refine Z74 ?_|refine Z80 ?_|refine Z81 fun _ => ?_|refine Z82 fun _ => ?_)
 rw [one2]
 rename_i b2 b4 b5
 refine st_loop (ι := Nat) (fun j => j ≤ 64 * xs.length) (fun j => [(1, s), (2, pt b2 0), (4, pt b4 0), (5, pt b5 0), (6, .int .i64 ((j : Int) - 1))])
  (fun j => [.blk b5 (LV .u64 (E2 (Kf.K2.pw y (V xs / 2 ^ j)))) 29, .blk b4 (LV .u64 (List.replicate 12 0)) 29, .blk b2 (LV .u64 (D 6 a ++ D 6 b)) 29]) (fun j => j) (64 * xs.length) (Nat.le_refl _) (by repeat (first|apply subL.nil|refine subL.cons (by rfl) ?_)) (by rw [hz]; exact (by repeat (first|apply SubW.nil|refine y_8 ?_))) ?_
 intro j hj
 repeat (first|refine y_87 ?_|refine Z81 fun _ => ?_|refine Z82 fun _ => ?_)
 refine st_cond (by rfl) (fun h => ?_) (fun h => ?_)
 ·have h0 : (0 : Int) ≤ (j : Int) - 1 := h
  obtain ⟨i, rfl⟩ : ∃ i, j = i + 1 := ⟨j - 1, by omega⟩
  rw [show ((i + 1 : Nat) : Int) - 1 = Int.ofNat i by simp]
  have hst := bit_step (V xs) i
  have hbt := bit_and6 hx i
  generalize V xs / 2 ^ (i + 1) = x at hst ⊢
  have hi64 : i % 64 % 18446744073709551616 = i % 64 := Nat.mod_eq_of_lt (by omega)
  have q1 := Kf.K2.pw_2k y x
  have q2 : Kf.K2.mul (Kf.K2.pw y (2 * x)) y = Kf.K2.pw y (2 * x + 1) := rfl
  repeat (first|(refine st_callV (by rfl) (by rfl) (by rfl) (hm2 x) (fun _ _ => trivial) (by rfl) ?_; rw [q1])|rw [hi64]|refine st_shr (by rfl) (by rfl) (show i % 64 ≤ 64 by omega) (by rfl) ?_|rw [hbt]|refine y_87 ?_|refine Z81 fun _ => ?_|refine Z82 fun _ => ?_)
  refine st_cond (by rfl) (fun hb => ?_) (fun hb => ?_)
  ·have hx1 : V xs / 2 ^ i = 2 * x + 1 := by omega
   repeat (first|(refine st_callV (by rfl) (by rfl) (by rfl) (hm (Kf.K2.pw y (2 * x))) (fun _ _ => trivial) (by rfl) ?_; rw [q2])|refine y_87 ?_|refine Z81 fun _ => ?_|refine Z82 fun _ => ?_)
   refine st_round i (by omega) (by omega) ?_ (by rw [hx1]; exact (by repeat (first|apply SubW.nil|refine y_8 ?_)))
   rw [show ((i : Int) - 1) = Int.ofNat i - Int.ofNat 1 from rfl]
   exact (by repeat (first|apply subL.nil|refine subL.cons (by rfl) ?_))
  ·have hx1 : V xs / 2 ^ i = 2 * x := by omega
   repeat (first|refine y_87 ?_|refine Z81 fun _ => ?_|refine Z82 fun _ => ?_)
   refine st_round i (by omega) (by omega) ?_ (by rw [hx1]; exact (by repeat (first|apply SubW.nil|refine y_8 ?_)))
   rw [show ((i : Int) - 1) = Int.ofNat i - Int.ofNat 1 from rfl]
   exact (by repeat (first|apply subL.nil|refine subL.cons (by rfl) ?_))
 ·have hp0 : ¬ (0 : Int) ≤ (j : Int) - 1 := h
  have hj0 : j = 0 := by omega
  subst hj0
  rw [Nat.pow_zero, Nat.div_one]
  repeat (first|refine y_87 ?_|refine Z81 fun _ => ?_|refine Z82 fun _ => ?_)
  refine Zec fun _ hw => post_of hw SubW.nil ⟨?_, rfl⟩
  rfl
theorem low_lit : ([17185665809301629610, 552535377879302143, 15693976698673184137, 15644892545385841839, 10576397981472451381, 468449654411884966] : List Nat) = D 6 ((p - 3) / 4) := by decide +kernel
theorem half_lit8 : ([15924587544893707605, 1105070755758604287, 12941209323636816658, 12843041017062132063, 2706051889235351147, 936899308823769933] : List Nat) = D 6 ((p - 1) / 2) := by decide +kernel
theorem y_97 {a b : Prop} (k : b) (h : Rm b → a := by intro k;(first|refine Z02 ?_|refine Z03 ?_|refine Z04 ?_|refine Z05 ?_|refine Z06 ?_|refine Z07 ?_|refine Z08 ?_|refine Z09 ?_|refine Z10 ?_|refine Z11 ?_|refine Z12 ?_|refine Z13 ?_|refine Z14 ?_);exact k.h) : a := h ⟨k⟩
theorem low_spec : Spec Tryz.prog 121 [] NoPre [] (fun v Wr => Wr = [.sl v ((D 6 ((p - 3) / 4)).map (N .u64)) 25]) := by
 refine mk_spec Tryz.func121 rfl rfl rfl fun w _ => ?_
 have hl := low_lit
 obtain ⟨X, hX⟩ : ∃ X, X = D 6 ((p - 3) / 4) := ⟨_, rfl⟩
 rw [← hX] at hl ⊢
 repeat (first|refine st_buildSliceN (vs := [17185665809301629610, 552535377879302143, 15693976698673184137, 15644892545385841839, 10576397981472451381, 468449654411884966]) (kk := .u64) (by rfl) (by rfl) (by rfl) (by rfl) (by rfl) (by rfl) (by rfl) (by rfl) fun _ => ?_|refine y_97 ?_|refine Z85 fun _ => ?_)
 rw [hl]
 exact Ze1 fun _ hw => post_of hw (Wout := [.sl _ (X.map (N .u64)) 25]) (by exact (by repeat (first|apply SubW.nil|refine y_8 ?_))) rfl
theorem half8_spec : Spec Tryz.prog 122 [] NoPre [] (fun v Wr => Wr = [.sl v ((D 6 ((p - 1) / 2)).map (N .u64)) 25]) := by
 refine mk_spec Tryz.func122 rfl rfl rfl fun w _ => ?_
 have hl := half_lit8
 obtain ⟨X, hX⟩ : ∃ X, X = D 6 ((p - 1) / 2) := ⟨_, rfl⟩
 rw [← hX] at hl ⊢
 repeat (first|refine st_buildSliceN (vs := [15924587544893707605, 1105070755758604287, 12941209323636816658, 12843041017062132063, 2706051889235351147, 936899308823769933]) (kk := .u64) (by rfl) (by rfl) (by rfl) (by rfl) (by rfl) (by rfl) (by rfl) (by rfl) fun _ => ?_|refine y_97 ?_|refine Z85 fun _ => ?_)
 rw [hl]
 exact Ze1 fun _ hw => post_of hw (Wout := [.sl _ (X.map (N .u64)) 25]) (by exact (by repeat (first|apply SubW.nil|refine y_8 ?_))) rfl
theorem iu2 : List.replicate 6 0 ++ D 6 1 = E2 (⟨0, 1⟩ : F2) := by decide +kernel
theorem low_ltW : (p - 3) / 4 < W ^ 6 := by have := p_lt; omega
theorem half_ltW : (p - 1) / 2 < W ^ 6 := by have := p_lt; omega
theorem y_98 {a b : Prop} (k : b) (h : Rm b → a := by intro k;refine st_build2b (by rfl) (by rfl) (by rfl) (by rfl) (by simp; done) (by rfl) ?_;exact k.h) : a := h ⟨k⟩
theorem y_99 {a b : Prop} (k : b) (h : Rm b → a := by intro k;(first|refine Z03 ?_|refine Z04 ?_|refine Z05 ?_|refine Z06 ?_|refine Z07 ?_|refine Z08 ?_|refine Z09 ?_|refine Z10 ?_|refine Z11 ?_|refine Z12 ?_|refine Z13 ?_|refine Z14 ?_|refine Z24 ?_|refine Z25 ?_|refine Z26 ?_|refine Z27 ?_|refine Z28 ?_|refine Z29 ?_|refine Z30 ?_|refine Z31 ?_|refine Z32 ?_|refine Z65 ?_|refine Z67 ?_|refine Z77 ?_|refine Z78 ?_|refine Z79 ?_);exact k.h) : a := h ⟨k⟩
theorem y_100 {a b : Prop} (k : b) (h : Rm b → a := by intro k;refine R.Zpf (by rfl) (by intro _ _ _;(first|refine Z65 ?_|refine Z77 ?_|refine Z78 ?_|refine Z79 ?_);exact Zq) ?_;exact k.h) : a := h ⟨k⟩
theorem y_101 {S1 a b : Prop} (s1 : S1) (k : b) (h : S1 → Rm b → a := by intro s1 k;refine R.Zpp (by rfl) (by intro _ _ _;refine st_callV (by rfl) (by rfl) (by rfl) s1 (RdW.own (by repeat first|apply Find.here|apply Find.there)) (by rfl) ?_;exact Zq) ?_;exact k.h) : a := h s1 ⟨k⟩
theorem y_102 {a b : Prop} (k : b) (h : Rm b → a := by intro k;refine R.Zpb (by rfl) (by intro _ _ _;refine st_alloc (v := LV .u64 (List.replicate 12 0)) (by rfl) (by rfl) fun _ => ?_;exact R.Zpbx) ?_;exact k.h) : a := h ⟨k⟩
set_option maxHeartbeats 4000000 in
theorem root_spec {a b : Nat} (ha : a < W ^ 6) (hb : b < W ^ 6) : Spec Tryz.prog 82 [LV .u64 (D 6 a ++ D 6 b)] NoPre [] (IsV (LV .u64 (E2 (Kf.K2.rootR (k2 a b))))) := by
 refine mk_spec Tryz.func82 rfl rfl rfl fun w _ => ?_
 have hl0 := fun x => D_len 6 x
 have hle := fun x : F2 => E2_len x
 obtain ⟨x, hx⟩ : ∃ x : F2, x = k2 a b := ⟨_, rfl⟩
 have hpw := fun s => tpow_spec ha hb s (D 6 ((p - 3) / 4)) (D_lt _ _) (by rw [D_len]; decide)
 rw [V_D' low_ltW, ← hx] at hpw
 obtain ⟨y, hy⟩ : ∃ y : F2, y = Kf.K2.pw x ((p - 3) / 4) := ⟨_, rfl⟩
 rw [← hy] at hpw
 have hmx := tmulX ha hb y
 rw [← hx] at hmx ⊢
 obtain ⟨z, hz⟩ : ∃ z : F2, z = Kf.K2.mul y x := ⟨_, rfl⟩
 rw [← hz] at hmx
 have hmz := tmulE y z
 obtain ⟨c, hc⟩ : ∃ c : F2, c = Kf.K2.mul y z := ⟨_, rfl⟩
 rw [← hc] at hmz
 have hng := tnegE (Kf.K2.one : F2)
 obtain ⟨m, hm⟩ : ∃ m : F2, m = Kf.K2.neg Kf.K2.one := ⟨_, rfl⟩
 rw [← hm] at hng
 have hit := tmulE z ⟨0, 1⟩
 have had := taddE Kf.K2.one c
 obtain ⟨d, hd⟩ : ∃ d : F2, d = Kf.K2.add Kf.K2.one c := ⟨_, rfl⟩
 rw [← hd] at had
 have hpw2 := fun s => tpow_spec (val_lt d.re) (val_lt d.im) s (D 6 ((p - 1) / 2)) (D_lt _ _) (by rw [D_len]; decide)
 rw [V_D' half_ltW, k2_val] at hpw2
 obtain ⟨e, he⟩ : ∃ e : F2, e = Kf.K2.pw d ((p - 1) / 2) := ⟨_, rfl⟩
 rw [← he] at hpw2
 have hmf := tmulE e z
 have hE := E2_iff c m
 have hQ0 := Kf.K2.rootR_0 hy hz hc hm
 have hQ1 := fun h => Kf.K2.rootR_1 hy hz hc hm h hd he
 clear hx hy hz hc hm hd he
 repeat (first|(refine y_62 ?_;intro _)|(refine y_35 ?_;intro _)|refine y_71 ?_|refine y_96 ?_|refine y_98 ?_|refine y_73 ?_|(refine st_buildP (kk := .u64) (vs := [1]) (by rfl) (by rfl) (by rfl) (by rfl) (by rfl) (by rfl) (by rfl) (by rfl) ?_; rw [one6]; skip)|refine y_99 ?_|refine Z81 fun _ => ?_|refine Z82 fun _ => ?_)
 refine R.st_perm [0, 1, 3, 2, 4] (by rfl) ?_
 repeat (first|refine y_100 ?_|refine y_202 ?_|refine y_101 (hpw _) ?_|refine y_199 ?_|(refine R.Zpc (by rfl) (by intro _ _ _;(refine st_call (by rfl) (by rfl) (by rfl) (low_spec) .nil (fun _ _ => trivial) (by rfl) ?_; rintro u0 _ rfl);exact R.Zpcx) fun _ => ?_)|(refine R.Zpcb [2, 3, 4] [1, 2, 4] (by rfl) (by rfl) (by intro _ _ _;(refine st_call (by rfl) (by rfl) (by rfl) (low_spec) .nil (fun _ _ => trivial) (by rfl) ?_; rintro u0 _ rfl);exact R.Zpcx) (by intro _ _ _;refine st_alloc (v := LV .u64 (List.replicate 12 0)) (by rfl) (by rfl) fun _ => ?_;exact R.Zpbx) (fun _ => ?_) (fun _ => ?_))|(refine y_102 ?_;intro _)|(refine y_60 ?_;intro _)|refine R.Zpo (by rfl) ?_)
 all_goals
  repeat (first|refine y_100 ?_|refine y_202 ?_|refine y_101 (hpw _) ?_|refine y_199 ?_|(refine R.Zpc (by rfl) (by intro _ _ _;(refine st_call (by rfl) (by rfl) (by rfl) (low_spec) .nil (fun _ _ => trivial) (by rfl) ?_; rintro u0 _ rfl);exact R.Zpcx) fun _ => ?_)|(refine R.Zpcb [2, 3, 4] [1, 2, 4] (by rfl) (by rfl) (by intro _ _ _;(refine st_call (by rfl) (by rfl) (by rfl) (low_spec) .nil (fun _ _ => trivial) (by rfl) ?_; rintro u0 _ rfl);exact R.Zpcx) (by intro _ _ _;refine st_alloc (v := LV .u64 (List.replicate 12 0)) (by rfl) (by rfl) fun _ => ?_;exact R.Zpbx) (fun _ => ?_) (fun _ => ?_))|(refine y_102 ?_;intro _)|(refine y_60 ?_;intro _)|refine R.Zpo (by rfl) ?_)
 all_goals refine R.Zp0 ?_
 all_goals
  rw [one2]
  repeat (first|(refine y_62 ?_;intro _)|refine y_3 hmx ?_|refine y_3 hmz ?_|refine y_99 ?_|refine Z81 fun _ => ?_|refine Z82 fun _ => ?_)
  refine st_draw1 (by rfl) ?_
  repeat (first|(refine Zqf (by intro _ _ _;(first|refine y_96 ?_|refine y_98 ?_|refine y_73 ?_|refine Z65 ?_|refine Z77 ?_|refine Z78 ?_|refine Z79 ?_);exact Zq) ?_)|refine y_66 ?_|refine y_41 hng ?_|refine y_259 ?_)
  refine Zq0 ?_ (by kernel_rfl)
  rw [hE]
  repeat (first|refine y_99 ?_|refine Z81 fun _ => ?_|refine Z82 fun _ => ?_)
  refine st_cond (by rfl) (fun h => ?_) (fun h => ?_)
  ·rw [hQ0 h]
   repeat (first|refine y_71 ?_|refine y_96 ?_|refine y_98 ?_|refine y_73 ?_|refine y_48 ?_|rw [iu2]|refine y_3 hit ?_|refine y_99 ?_|refine Z81 fun _ => ?_|refine Z82 fun _ => ?_)
   refine Zec fun _ hw => post_of hw SubW.nil ⟨?_, rfl⟩
   rfl
  ·rw [hQ1 h]
   repeat (first|refine y_99 ?_|refine Z81 fun _ => ?_|refine Z82 fun _ => ?_)
   refine R.st_perm [0, 1, 2, 5, 3, 4, 6, 7] (by rfl) ?_
   repeat (first|refine y_100 ?_|refine y_202 ?_|refine y_101 (hpw2 _) ?_|refine y_69 had ?_|refine y_69 hmf ?_|refine y_199 ?_|(refine R.Zpc (by rfl) (by intro _ _ _;(refine st_call (by rfl) (by rfl) (by rfl) (half8_spec) .nil (fun _ _ => trivial) (by rfl) ?_; rintro u1 _ rfl);exact R.Zpcx) fun _ => ?_)|(refine y_60 ?_;intro _)|refine R.Zpo (by rfl) ?_)
   refine R.Zp0 ?_
   repeat (first|refine y_99 ?_|refine Z81 fun _ => ?_|refine Z82 fun _ => ?_)
   refine Zec fun _ hw => post_of hw SubW.nil ⟨?_, rfl⟩
   rfl
theorem rsgn_spec {a b : Nat} (ha : a < W ^ 6) (hb : b < W ^ 6) : Spec Tryz.prog 48 [LV .u64 (D 6 a ++ D 6 b)] NoPre [] (IsV (N .i64 (Kf.K2.sgn (k2 a b)))) := by
 refine mk_spec Tryz.func48 rfl rfl rfl fun w _ => ?_
 have hl0 := fun x => D_len 6 x
 repeat (first|refine y_70 ?_|refine y_64 ?_|refine y_71 ?_|refine y_72 ?_|refine y_73 ?_|refine y_3 (rred_spec ha) ?_|refine y_74 ?_|refine Z81 fun _ => ?_)
 refine st_cond (by rfl) (fun h => ?_) (fun h => ?_)
 ·rw [D6_iff] at h
  have hs : Kf.K2.sgn (k2 a b) = Kf.sg (kp b) := if_pos h
  repeat (first|refine y_203 ?_|refine y_3 (rsign_spec hb) ?_|refine y_74 ?_|refine Z81 fun _ => ?_)
  refine Ze1 fun _ hw => post_of hw SubW.nil ⟨?_, rfl⟩
  rw [hs]
 ·rw [D6_iff] at h
  have hs : Kf.K2.sgn (k2 a b) = Kf.sg (kp a) := if_neg h
  repeat (first|refine y_203 ?_|refine y_3 (rsign_spec ha) ?_|refine y_74 ?_|refine Z81 fun _ => ?_)
  refine Ze1 fun _ hw => post_of hw SubW.nil ⟨?_, rfl⟩
  rw [hs]
theorem rsgnE (x : F2) : Spec Tryz.prog 48 [LV .u64 (E2 x)] NoPre [] (IsV (N .i64 (Kf.K2.sgn x))) := by
 have := rsgn_spec (val_lt x.re) (val_lt x.im); rwa [k2_val] at this
theorem y_103 {a b : Prop} (k : b) (h : Rm b → a := by intro k;(first|refine Z02 ?_|refine Z03 ?_|refine Z04 ?_|refine Z05 ?_|refine Z06 ?_|refine Z07 ?_|refine Z08 ?_|refine Z09 ?_|refine Z10 ?_|refine Z11 ?_|refine Z12 ?_|refine Z13 ?_|refine Z14 ?_|refine Z17 ?_|refine Z18 ?_|refine Z24 ?_|refine Z25 ?_|refine Z26 ?_|refine Z27 ?_|refine Z28 ?_|refine Z29 ?_|refine Z30 ?_|refine Z31 ?_|refine Z32 ?_|refine Z65 ?_|refine Z67 ?_|refine Z77 ?_|refine Z78 ?_|refine Z79 ?_);exact k.h) : a := h ⟨k⟩
theorem y_104 {a b : Prop} (k : b) (h : Rm b → a := by intro k;refine st_ne2 (by rfl) (by rfl) (by rfl) (by kernel_rfl) (by rfl) (by rfl) (by rfl) (by rfl) (by rfl) (by rfl) (by rfl) (by rfl) (by rfl) (by rfl) (by kernel_rfl) (by simp; done) (by simp; done) (by simp; done) (by simp; done) (by rfl) ?_;exact k.h) : a := h ⟨k⟩
set_option maxHeartbeats 4000000 in
theorem rsqrt_spec {a b : Nat} (ha : a < W ^ 6) (hb : b < W ^ 6) : Spec Tryz.prog 44 [LV .u64 (D 6 a ++ D 6 b)] NoPre [] (IsV (.tuple [LV .u64 (E2 (Kf.K2.sqrtR (k2 a b)).1), .bool (Kf.K2.sqrtR (k2 a b)).2].toArray)) := by
 refine mk_spec Tryz.func44 rfl rfl rfl fun w _ => ?_
 have hl0 := fun x => D_len 6 x
 have hle := fun x : F2 => E2_len x
 have hroot := root_spec ha hb
 have hred := tred_spec ha hb
 obtain ⟨x, hx⟩ : ∃ x : F2, x = k2 a b := ⟨_, rfl⟩
 rw [← hx] at hroot hred ⊢
 obtain ⟨r, hr⟩ : ∃ r : F2, r = Kf.K2.rootR x := ⟨_, rfl⟩
 rw [← hr] at hroot
 have hS1 := fun h => Kf.K2.sqrtR_1 hr h
 have hS0 := fun h => Kf.K2.sqrtR_0 hr h
 have hmul := tmulE r r
 obtain ⟨s, hs⟩ : ∃ s : F2, s = Kf.K2.mul r r := ⟨_, rfl⟩
 rw [← hs] at hmul hS1 hS0
 have hE := E2_iff s x
 have hsg := rsgnE r
 obtain ⟨g, hg⟩ : ∃ g, g = Kf.K2.sgn r := ⟨_, rfl⟩
 rw [← hg] at hsg
 have he1 := fun h => Kf.K2.evn2_1 hg h
 have he0 := fun h => Kf.K2.evn2_0 hg h
 clear hx hr hs hg
 repeat (first|(refine y_62 ?_;intro _)|refine y_3 hroot ?_|refine y_103 ?_|refine Z81 fun _ => ?_|refine Z82 fun _ => ?_)
 refine st_draw1 (by rfl) ?_
 repeat (first|(refine Zqf (by intro _ _ _;(first|refine y_72 ?_|refine y_73 ?_|refine y_104 ?_|refine Z02 ?_|refine Z17 ?_|refine Z18 ?_|refine Z65 ?_|refine Z77 ?_|refine Z78 ?_|refine Z79 ?_);exact Zq) ?_)|refine y_66 ?_|refine y_41 hmul ?_|refine y_41 hred ?_|refine y_259 ?_)
 refine Zq0 ?_ (by kernel_rfl)
 rw [hE]
 by_cases h : s = x
 ·have hd : decide (s = x) = true := decide_eq_true h
  rw [hd, hS1 h]
  repeat (first|refine y_3 hsg ?_|refine y_103 ?_|refine Z81 fun _ => ?_|refine Z82 fun _ => ?_)
  refine st_cond (by rfl) (fun hc => ?_) (fun hc => ?_)
  ·rw [he1 hc]
   repeat (first|refine y_3 (tnegE r) ?_|refine y_103 ?_|refine Z81 fun _ => ?_|refine Z82 fun _ => ?_)
   refine st_endc2_LV (by rfl) (by rfl) (by rfl) (by repeat first|apply Find.here|apply Find.there) (by rfl) (by rfl) (by first | with_reducible assumption | (simp [*]; done)) fun _ hw => post_of hw SubW.nil ⟨?_, rfl⟩
   rfl
  ·rw [he0 hc]
   repeat (first|refine y_103 ?_|refine Z81 fun _ => ?_|refine Z82 fun _ => ?_)
   refine st_endc2_LV (by rfl) (by rfl) (by rfl) (by repeat first|apply Find.here|apply Find.there) (by rfl) (by rfl) (by first | with_reducible assumption | (simp [*]; done)) fun _ hw => post_of hw SubW.nil ⟨?_, rfl⟩
   rfl
 ·have hd : decide (s = x) = false := decide_eq_false h
  rw [hd, hS0 h]
  repeat (first|refine y_94 ?_|refine Z02 ?_|refine Z03 ?_|refine Z04 ?_|refine Z05 ?_|refine Z06 ?_|refine Z07 ?_|refine Z08 ?_|refine Z09 ?_|refine Z10 ?_|refine Z11 ?_|refine Z12 ?_|refine Z13 ?_|refine Z14 ?_|refine Z17 ?_|refine Z18 ?_|refine Z24 ?_|refine Z25 ?_|refine Z26 ?_|refine Z27 ?_|refine Z28 ?_|refine Z29 ?_|refine Z30 ?_|refine Z31 ?_|refine Z32 ?_|refine Z65 ?_|refine Z67 ?_|refine Z77 ?_|refine Z78 ?_|refine Z79 ?_|refine Z81 fun _ => ?_|refine Z82 fun _ => ?_)
  refine st_endc2_LV (by rfl) (by rfl) (by rfl) (by repeat first|apply Find.here|apply Find.there) (by rfl) (by rfl) (by first | with_reducible assumption | (simp [*]; done)) fun _ hw => post_of hw SubW.nil ⟨?_, rfl⟩
  rfl
end Go.Proofs.YtbpmbdlgmmabcaaGreat.L
namespace Go.Proofs.YtbpmbdlgmmabcaaGreat.L
open Go Go.Proofs
set_option maxRecDepth 100000
attribute [local irreducible] Code.wp wpList Af bodyPost L.Go
open Sha
attribute [local simp] sum_len
theorem take_snoc {l : List Nat} {i : Nat} (h : i < l.length) : l.take i ++ [l.getD i 0] = l.take (i + 1) := by
 rw [List.take_succ_eq_append_getElem h]
 simp [List.getD_eq_getElem?_getD, h]
theorem y_105 {a b : Prop} (k : b) (h : Rm b → a := by intro k;(first|refine Z01 ?_|refine Z02 ?_|refine Z03 ?_|refine Z04 ?_|refine Z05 ?_|refine Z06 ?_|refine Z07 ?_|refine Z08 ?_|refine Z09 ?_|refine Z10 ?_|refine Z11 ?_|refine Z12 ?_|refine Z13 ?_|refine Z14 ?_|refine Z15 ?_|refine Z17 ?_|refine Z18 ?_|refine Z20 ?_|refine Z21 ?_|refine Z22 ?_|refine Z23 ?_|refine Z24 ?_|refine Z25 ?_|refine Z26 ?_|refine Z27 ?_|refine Z28 ?_|refine Z29 ?_|refine Z30 ?_|refine Z31 ?_|refine Z32 ?_|refine Z37 ?_|refine Z38 ?_|refine Z39 ?_|refine Z44 ?_|refine Z45 ?_|refine Z49 ?_|refine Z50 ?_|refine Z51 ?_|refine Z52 ?_|refine Z53 ?_|refine Z58 ?_|refine Z59 ?_|refine Z62 ?_|refine Z63 ?_|refine Z64 ?_|refine Z67 ?_|refine Z70 ?_|refine Z74 ?_|refine Z80 ?_);exact k.h) : a := h ⟨k⟩
set_option maxHeartbeats 4000000 in
theorem rxexpand_ok (s1 s2 : Value) (m d : List Nat) (n : Nat) (hm : Lt 256 m) (hd : Lt 256 d) (hl1 : m.length < 1073741824) (h1 : 1 ≤ d.length) (h2 : d.length ≤ 255) (hn1 : 1 ≤ n) (hn : n ≤ 8160) :
  Spec Tryz.prog 25 [s1, s2, N .i64 n] (fun w => Rd w s1 (m.map (N .u8)) ∧ Rd w s2 (d.map (N .u8))) [] (fun v W => ∃ x, v = .tuple [x, N .i64 0].toArray ∧ W = [.sl x ((xpand m d n).map (N .u8)) 5]) := by
 refine mk_spec Tryz.func25 rfl rfl rfl fun w hr => ?_
 have hr1 := RdC.mk0 hr.1
 have hr2 := RdC.mk0 hr.2
 have htl := tg_len d
 have htb := tg_lt hd
 have hhl := xh_len m d n
 have hhl' : (xh m d n).length < 4294967296 := by omega
 have hhb := xh_lt n hm hd
 have hfl := xf_len m d n
 have hfb := xf_lt m d n
 have hxd := xh_def m d n
 repeat (first|refine y_25 ?_|rw [List.nil_append]|rw [← tg_def]|rw [Nat.mod_mod]|rw [← hxd]|rw [← xf_def]|refine st_buildSliceN (vs := [n / 256 % 256, n % 256, 0]) (kk := .u8) (by rfl) (by rfl) (by rfl) (by rfl) (by rfl) (by rfl) (by rfl) (by rfl) fun _ => ?_|(refine y_22 ?_;intro _)|refine y_28 (rsum_spec _ (xh m d n) hhb hhl') ?_|refine y_105 ?_|refine Z82 fun _ => ?_|refine Z83 fun _ => ?_|refine Z84 fun _ => ?_|refine Z85 fun _ => ?_)
 rename_i a1 tv a3 a4 a5 a6 b10 b12
 refine st_own_nil 5 ?_
 refine st_loop (ι := Nat × Value) (fun q => q.1 ≤ (n + 31) / 32) (fun q => [(2, N .i64 n), (8, a1), (10, pt b10 0), (11, q.2), (12, pt b12 0), (13, N .i64 (q.1 + 1))])
  (fun q => [.blk b12 (LV .u8 (Xk m d n q.1)) 64, .sl q.2 ((xk m d n q.1).map (N .u8)) 5, .blk b10 (LV .u8 (xf m d n)) 64, .sl a1 ((tg d).map (N .u8)) 5]) (fun q => (n + 31) / 32 - q.1) (0, .slice none 0 0) (by simp) (by repeat (first|apply subL.nil|refine subL.cons (by rfl) ?_)) (by simp only [xk_0, Xk_0]; exact (by repeat (first|apply SubW.nil|refine y_8 ?_))) ?_
 rintro ⟨i, v⟩ hi
 simp only at hi ⊢
 have hol := xk_len m d n i
 have hXl := Xk_len m d n i
 have hXb := Xk_lt m d n i
 have hzl := xl_len hfl hXl
 have hzb := xl_lt hfb hXb
 repeat (first|refine y_105 ?_|refine Z82 fun _ => ?_|refine Z83 fun _ => ?_|refine Z84 fun _ => ?_|refine Z85 fun _ => ?_)
 refine st_cond (by rfl) (fun h => ?_) (fun h => ?_)
 ·rw [hol] at h
  repeat (first|refine y_105 ?_|refine Z82 fun _ => ?_|refine Z83 fun _ => ?_|refine Z84 fun _ => ?_|refine Z85 fun _ => ?_)
  refine st_own_nil 5 ?_
  refine st_loop (ι := Nat × Value) (fun q => q.1 ≤ 32) (fun q => [(2, N .i64 n), (8, a1), (10, pt b10 0), (11, v), (12, pt b12 0), (13, N .i64 (i + 1)), (14, q.2), (15, N .i64 q.1)])
   (fun q => [.sl q.2 (((xl (xf m d n) (Xk m d n i)).take q.1).map (N .u8)) 5, .blk b12 (LV .u8 (Xk m d n i)) 64, .sl v ((xk m d n i).map (N .u8)) 5, .blk b10 (LV .u8 (xf m d n)) 64, .sl a1 ((tg d).map (N .u8)) 5]) (fun q => 32 - q.1) (0, .slice none 0 0) (by simp) (by repeat (first|apply subL.nil|refine subL.cons (by rfl) ?_)) (by simp only [List.take_zero]; exact (by repeat (first|apply SubW.nil|refine y_8 ?_))) ?_
  rintro ⟨k, u⟩ hk
  simp only at hk ⊢
  repeat (first|refine y_105 ?_|refine Z82 fun _ => ?_|refine Z83 fun _ => ?_|refine Z84 fun _ => ?_|refine Z85 fun _ => ?_)
  refine st_cond (by rfl) (fun h => ?_) (fun h => ?_)
  ·have hx := xl_get hfl hXl h
   have hf1 := Nat.mod_eq_of_lt (hfb.getD (by decide) k)
   have hf2 := Nat.mod_eq_of_lt (hXb.getD (by decide) k)
   have htk := take_snoc (l := xl (xf m d n) (Xk m d n i)) (i := k) (by rw [hzl]; exact h)
   rw [hx] at htk
   have htl2 : (List.take k (xl (xf m d n) (Xk m d n i))).length = k := by rw [List.length_take, hzl]; omega
   repeat (first|refine y_105 ?_|refine Z82 fun _ => ?_|refine Z83 fun _ => ?_|refine Z84 fun _ => ?_|refine Z85 fun _ => ?_)
   refine st_perm [0, 1, 2, 3, 4, 5, 6, 7, 8, 9, 10] (by rfl) ?_
   repeat (first|(refine Zpf (by rfl) (by intro _ _ _;(first|refine Z01 ?_|refine Z02 ?_|refine Z15 ?_|refine Z17 ?_|refine Z18 ?_|refine Z20 ?_|refine Z21 ?_|refine Z22 ?_|refine Z23 ?_|refine Z37 ?_|refine Z38 ?_|refine Z39 ?_|refine Z44 ?_|refine Z45 ?_|refine Z49 ?_|refine Z50 ?_|refine Z58 ?_|refine Z59 ?_|refine Z62 ?_|refine Z63 ?_|refine Z64 ?_|refine Z70 ?_|refine Z74 ?_|refine Z80 ?_);exact Zq) ?_)|(refine Zpp (by rfl) (by intro _ _ _;(first|refine y_9 ?_);exact Zq) ?_)|(refine Zps (by rfl) (by intro _ _ _;(first|refine y_10 ?_);exact Zqq) ?_)|(refine Zpn (by rfl) (by intro _ _ _;(first|refine Z82 fun _ => ?_|refine Z83 fun _ => ?_|refine Z84 fun _ => ?_|refine Z85 fun _ => ?_);exact Zpx) fun _ => ?_)|refine Zpo (by rfl) ?_)
   refine Zp0 ?_
   rw [hf1, hf2, htk]
   repeat (first|refine y_105 ?_|refine Z82 fun _ => ?_|refine Z83 fun _ => ?_|refine Z84 fun _ => ?_|refine Z85 fun _ => ?_)
   rename_i v5 v6
   exact st_round (k + 1, v6) (by simp only; omega) (by simp only; omega) (by repeat (first|apply subL.nil|refine subL.cons (by rfl) ?_)) (by repeat (first|apply SubW.nil|refine y_8 ?_))
  ·have hk32 : k = 32 := by omega
   subst hk32
   have hta : List.take 32 (xl (xf m d n) (Xk m d n i)) = xl (Xk m d n i) (xf m d n) := by rw [List.take_of_length_le (by omega), xl_comm]
   rw [hta]
   rw [xl_comm] at hzl hzb
   have hXs := Xk_succ m d n i
   have hks := xk_succ m d n i
   have hXl' := Xk_len m d n (i + 1)
   have hyb : Lt 256 (xl (Xk m d n i) (xf m d n) ++ [(i + 1) % 256] ++ tg d) := Lt.app (Lt.app hzb (Lt.one (Nat.mod_lt _ (by decide)))) htb
   have hyl : (xl (Xk m d n i) (xf m d n) ++ [(i + 1) % 256] ++ tg d).length < 4294967296 := by simp; omega
   have hcut : List.drop 0 (List.take 32 (Xk m d n (i + 1))) = Xk m d n (i + 1) := by rw [List.drop_zero, List.take_of_length_le (by omega)]
   repeat (first|rw [hcut]|rw [← hks]|(refine st_callV (by rfl) (by rfl) (by rfl) (rsum_spec _ _ hyb hyl) (RdW.own (by repeat first|apply Find.here|apply Find.there)) (by rfl) ?_; rw [← hXs])|refine y_105 ?_|refine Z82 fun _ => ?_|refine Z83 fun _ => ?_|refine Z84 fun _ => ?_|refine Z85 fun _ => ?_)
   rename_i v5 v6 v7 v8
   exact st_round (i + 1, v8) (by simp only; omega) (by simp only; omega) (by repeat (first|apply subL.nil|refine subL.cons (by rfl) ?_)) (by repeat (first|apply SubW.nil|refine y_8 ?_))
 ·rw [hol] at h
  have hie : i = (n + 31) / 32 := by omega
  subst hie
  repeat (first|refine y_105 ?_|refine Z82 fun _ => ?_|refine Z83 fun _ => ?_|refine Z84 fun _ => ?_|refine Z85 fun _ => ?_)
  refine st_resl (s := v) 0 n (by repeat first|apply Find.here|apply Find.there) (by omega) (by rw [List.length_map, hol]; omega) ?_
  rw [List.drop_zero, ← List.map_take, ← xpand_def]
  exact Ze2 fun _ hw => post_of hw (Wout := [.sl (sub v 0 n) ((xpand m d n).map (N .u8)) 5]) (by exact (by repeat (first|apply SubW.nil|refine y_8 ?_))) ⟨_, rfl, rfl⟩
theorem rxexpand_dst (s1 s2 : Value) (d : List Nat) (n : Int) (h : d.length < 1 ∨ 255 < d.length) : Spec Tryz.prog 25 [s1, s2, .int .i64 n] (fun w => Rd w s2 (d.map (N .u8))) [] (IsV (.tuple [.slice none 0 0, N .i64 170].toArray)) := by
 refine mk_spec Tryz.func25 rfl rfl rfl fun w hr => ?_
 have hr2 := RdC.mk0 hr
 by_cases h0 : d.length < 1
 ·repeat (first|refine y_30 ?_|refine Z01 ?_|refine Z02 ?_|refine Z03 ?_|refine Z04 ?_|refine Z05 ?_|refine Z06 ?_|refine Z07 ?_|refine Z08 ?_|refine Z09 ?_|refine Z10 ?_|refine Z11 ?_|refine Z12 ?_|refine Z13 ?_|refine Z14 ?_|refine Z15 ?_|refine Z17 ?_|refine Z18 ?_|refine Z20 ?_|refine Z21 ?_|refine Z22 ?_|refine Z23 ?_|refine Z24 ?_|refine Z25 ?_|refine Z26 ?_|refine Z27 ?_|refine Z28 ?_|refine Z29 ?_|refine Z30 ?_|refine Z31 ?_|refine Z32 ?_|refine Z37 ?_|refine Z38 ?_|refine Z39 ?_|refine Z44 ?_|refine Z45 ?_|refine Z49 ?_|refine Z50 ?_|refine Z51 ?_|refine Z52 ?_|refine Z53 ?_|refine Z58 ?_|refine Z59 ?_|refine Z62 ?_|refine Z63 ?_|refine Z64 ?_|refine Z67 ?_|refine Z70 ?_|refine Z74 ?_|refine Z80 ?_|refine Z82 fun _ => ?_|refine Z83 fun _ => ?_|refine Z84 fun _ => ?_|refine Z85 fun _ => ?_)
  exact Ze2 fun _ hw => post_of hw SubW.nil ⟨rfl, rfl⟩
 ·have h1 : 255 < d.length := by omega
  clear h
  repeat (first|refine y_25 ?_|refine y_30 ?_|refine Z01 ?_|refine Z02 ?_|refine Z03 ?_|refine Z04 ?_|refine Z05 ?_|refine Z06 ?_|refine Z07 ?_|refine Z08 ?_|refine Z09 ?_|refine Z10 ?_|refine Z11 ?_|refine Z12 ?_|refine Z13 ?_|refine Z14 ?_|refine Z15 ?_|refine Z17 ?_|refine Z18 ?_|refine Z20 ?_|refine Z21 ?_|refine Z22 ?_|refine Z23 ?_|refine Z24 ?_|refine Z25 ?_|refine Z26 ?_|refine Z27 ?_|refine Z28 ?_|refine Z29 ?_|refine Z30 ?_|refine Z31 ?_|refine Z32 ?_|refine Z37 ?_|refine Z38 ?_|refine Z39 ?_|refine Z44 ?_|refine Z45 ?_|refine Z49 ?_|refine Z50 ?_|refine Z51 ?_|refine Z52 ?_|refine Z53 ?_|refine Z58 ?_|refine Z59 ?_|refine Z62 ?_|refine Z63 ?_|refine Z64 ?_|refine Z67 ?_|refine Z70 ?_|refine Z74 ?_|refine Z80 ?_|refine Z82 fun _ => ?_|refine Z83 fun _ => ?_|refine Z84 fun _ => ?_|refine Z85 fun _ => ?_)
  exact Ze2 fun _ hw => post_of hw SubW.nil ⟨rfl, rfl⟩
end Go.Proofs.YtbpmbdlgmmabcaaGreat.L
namespace Go.Proofs.YtbpmbdlgmmabcaaGreat.L
open Go Go.Proofs
set_option maxRecDepth 100000
attribute [local irreducible] Code.wp wpList Af bodyPost L.Go
open Num
attribute [local simp] D_len
theorem y_106 {a b : Prop} (k : b) (h : Rm b → a := by intro k;(first|refine Z01 ?_|refine Z02 ?_|refine Z03 ?_|refine Z04 ?_|refine Z05 ?_|refine Z06 ?_|refine Z07 ?_|refine Z08 ?_|refine Z09 ?_|refine Z10 ?_|refine Z11 ?_|refine Z12 ?_|refine Z13 ?_|refine Z14 ?_|refine Z15 ?_|refine Z16 ?_|refine Z17 ?_|refine Z18 ?_|refine Z19 ?_|refine Z20 ?_|refine Z21 ?_|refine Z22 ?_|refine Z23 ?_|refine Z24 ?_|refine Z25 ?_|refine Z26 ?_|refine Z27 ?_|refine Z28 ?_|refine Z29 ?_|refine Z30 ?_|refine Z31 ?_|refine Z32 ?_|refine Z33 ?_|refine Z58 ?_|refine Z59 ?_|refine Z60 ?_|refine Z67 ?_|refine Z70 ?_|refine Z71 ?_);exact k.h) : a := h ⟨k⟩
set_option maxHeartbeats 4000000 in
theorem take_spec (sl sm : Value) (T : TypeId) (ls0 ms : List Nat) (L n M : Nat) (hls0 : Lt 18446744073709551616 ls0) (hL0 : ls0.length = L) (hm : Lt 18446744073709551616 ms) (hml : ms.length = n) (hn : 0 < n) (hnL : n < L) (hLb : L < 16777216) (hmv' : V ms = M)
  (htop : ms.getD (n - 1) 0 ≠ 0) (hX0W : V ls0 < Num.W * M) :
  Spec Tryz.prog 101 [sl, sm, N .i64 n] (fun w => RdC ⟨w, fps [.sl sl (ls0.map (N .u64)) T]⟩ sm (ms.map (N .u64))) [.sl sl (ls0.map (N .u64)) T]
   (fun _ Wr => Wr = [.sl sl ((D L (V ls0 % M)).map (N .u64)) T]) := by
 refine mk_spec Tryz.func101 rfl rfl rfl fun w hrm => ?_
 have hMlo : Num.W ^ (n - 1) ≤ M := by rw [← hmv']; exact ge_top hm htop
 have hMp : 0 < M := Nat.lt_of_lt_of_le (W_pow_pos _) hMlo
 have hMhi : M < Num.W ^ n := by rw [← hmv', ← hml]; exact V_lt hm
 repeat (first|refine st_scope0 ?_|refine st_label ?_|refine Z01 ?_|refine Z02 ?_|refine Z03 ?_|refine Z04 ?_|refine Z05 ?_|refine Z06 ?_|refine Z07 ?_|refine Z08 ?_|refine Z09 ?_|refine Z10 ?_|refine Z11 ?_|refine Z12 ?_|refine Z13 ?_|refine Z14 ?_|refine Z15 ?_|refine Z16 ?_|refine Z17 ?_|refine Z18 ?_|refine Z19 ?_|refine Z20 ?_|refine Z21 ?_|refine Z22 ?_|refine Z23 ?_|refine Z24 ?_|refine Z25 ?_|refine Z26 ?_|refine Z27 ?_|refine Z28 ?_|refine Z29 ?_|refine Z30 ?_|refine Z31 ?_|refine Z32 ?_|refine Z33 ?_|refine Z58 ?_|refine Z59 ?_|refine Z60 ?_|refine Z67 ?_|refine Z70 ?_|refine Z71 ?_)
 refine st_loop (ι := List Nat) (fun ls => ls.length = L ∧ Lt 18446744073709551616 ls ∧ V ls % M = V ls0 % M ∧ V ls < Num.W * M) (fun ls => [(0, sl), (1, sm), (2, N .i64 n)]) (fun ls => [.sl sl (ls.map (N .u64)) T]) (fun ls => V ls) ls0 ⟨hL0, hls0, rfl, hX0W⟩ (by repeat (first|apply subL.nil|refine subL.cons (by rfl) ?_)) (by repeat (first|apply SubW.nil|refine y_8 ?_)) ?_
 rintro ls ⟨hL, hls, hX0, hXW⟩
 obtain ⟨X, hX⟩ : ∃ X, V ls = X := ⟨_, rfl⟩
 rw [hX] at hX0 hXW
 repeat (first|refine st_label ?_|refine st_callV (by rfl) (by rfl) (by rfl) (cmp_spec sl sm ls ms hls hm (by omega) (by omega)) (fun w hw => ⟨RdW.own (by repeat first|apply Find.here|apply Find.there) w hw, RdW.old hrm w hw⟩) (by rfl) ?_|refine y_106 ?_)
 rw [hX, hmv']
 refine st_cond (by rfl) (fun hge => ?_) (fun hlt => ?_)
 ·have hge : M ≤ X := by
   rcases Nat.lt_or_ge X M with h | h
   ·rw [ord3_lt h] at hge; exact absurd hge (by decide)
   ·exact h
  have hone : 1 * M ≤ X := by omega
  have htb := hm.getD (by decide) (n - 1)
  have htl : n - 1 < ms.length := by omega
  have hnl : n < ls.length := by omega
  have hn1 : n - 1 < ls.length := by omega
  have hlb := hls.getD (by decide) n
  have hlb1 := hls.getD (by decide) (n - 1)
  have hlv := V_getD hls n
  have hlv1 := V_getD hls (n - 1)
  have hmt := V_getD hm (n - 1)
  rw [hX] at hlv hlv1
  rw [hmv'] at hmt
  have hMtop : M < (ms.getD (n - 1) 0 + 1) * Num.W ^ (n - 1) := by rw [hmt]; exact top_word (by rw [show n - 1 + 1 = n by omega]; exact hMhi)
  have hB1 : True := trivial
  repeat (first|(refine st_block ?_; clear hB1)|refine st_block_join (ι := Nat) (fun q => q * M ≤ X ∧ q < 18446744073709551616) (fun q => [(0, sl), (1, sm), (2, N .i64 n), (6, N .u64 q)]) (fun _ => [.sl sl (ls.map (N .u64)) T]) ?_ ?_|refine y_106 ?_)
  ·repeat (first|refine y_106 ?_)
   refine st_cond (by rfl) (fun h0 => ?_) (fun h0 => ?_)
   ·repeat (first|refine y_106 ?_)
    exact st_met (ls.getD n 0) ⟨by rw [hlv]; exact Nat.le_trans (Nat.mul_le_mul (Nat.mod_le _ _) (Nat.le_of_lt hMhi)) (Nat.div_mul_le_self _ _), hlb⟩ (by repeat (first|apply subL.nil|refine subL.cons (by rfl) ?_)) (by repeat (first|apply SubW.nil|refine y_8 ?_))
   ·have ht1 : (ms.getD (n - 1) 0 + 1) % 18446744073709551616 = ms.getD (n - 1) 0 + 1 := by omega
    repeat (first|rw [ht1]|refine y_106 ?_)
    refine st_cond (by rfl) (fun h1 => ?_) (fun h1 => ?_)
    ·have hqb := quo_lt h1 hlb1
     have hq2 : (ls.getD n 0 * 18446744073709551616 + ls.getD (n - 1) 0) / (ms.getD (n - 1) 0 + 1) * M ≤ X := by
      refine qM_le_two (n := n - 1) hMtop ?_
      have := two_words X (n - 1)
      rw [show n - 1 + 1 = n by omega, ← hlv, ← hlv1] at this
      exact this
     repeat (first|refine y_106 ?_)
     refine st_draw1 (by rfl) ?_
     repeat (first|(refine Zqf (by intro _ _ _;(first|refine st_callV (by rfl) (by rfl) (by rfl) (div64_spec (ls.getD n 0) (ls.getD (n - 1) 0) (ms.getD (n - 1) 0 + 1) h1 hlb1 (by omega)) (fun _ _ => trivial) (by rfl) ?_|refine Z01 ?_|refine Z02 ?_|refine Z15 ?_|refine Z16 ?_|refine Z17 ?_|refine Z18 ?_|refine Z19 ?_|refine Z20 ?_|refine Z21 ?_|refine Z22 ?_|refine Z23 ?_|refine Z33 ?_|refine Z58 ?_|refine Z59 ?_|refine Z60 ?_|refine Z70 ?_|refine Z71 ?_);exact Zq) ?_)|refine y_190 ?_|refine y_185 ?_|refine Zqn ?_)
     refine Zq0 ?_ (by kernel_rfl)
     repeat (first|refine y_106 ?_)
     exact st_met _ ⟨hq2, hqb⟩ (by repeat (first|apply subL.nil|refine subL.cons (by rfl) ?_)) (by repeat (first|apply SubW.nil|refine y_8 ?_))
    ·repeat (first|refine y_106 ?_)
     exact st_met 0 ⟨by omega, by decide⟩ (by repeat (first|apply subL.nil|refine subL.cons (by rfl) ?_)) (by repeat (first|apply SubW.nil|refine y_8 ?_))
  ·rintro q0 ⟨hq0M, hq0W⟩
   obtain ⟨q, hqd⟩ : ∃ q, q = max q0 1 := ⟨_, rfl⟩
   have hqM : q * M ≤ X := by
    rcases Nat.le_total q0 1 with h | h
    ·rw [hqd, Nat.max_eq_right h]; exact hone
    ·rw [hqd, Nat.max_eq_left h]; exact hq0M
   have hqW : q < 18446744073709551616 := by omega
   have hq1 : 1 ≤ q := by rw [hqd]; exact Nat.le_max_right _ _
   repeat (first|rw [← hqd]|refine y_106 ?_)
   refine st_loop (ι := Nat) (fun i => i ≤ L) (fun i => [(0, sl), (1, sm), (2, N .i64 n), (6, N .u64 q), (8, N .u64 (bw X (q * M) i)), (9, N .i64 i), (10, N .u64 (q * (M % Num.W ^ i) / Num.W ^ i))])
    (fun i => [.sl sl ((D i (sb X (q * M) i) ++ ls.drop i).map (N .u64)) T]) (fun i => L - i) 0 (by omega) (by simp only [Nat.pow_zero, Nat.mod_one, Nat.mul_zero, Nat.zero_div, bw_0]; exact (by repeat (first|apply subL.nil|refine subL.cons (by rfl) ?_))) (by simp only [D_0, List.drop_zero, List.nil_append]; exact (by repeat (first|apply SubW.nil|refine y_8 ?_))) ?_
   intro i hi
   have hll : (D i (sb X (q * M) i) ++ ls.drop i).length = L := by rw [List.length_append, D_len, List.length_drop]; omega
   repeat (first|refine y_106 ?_)
   refine st_cond (by rfl) (fun h => ?_) (fun h => ?_)
   ·rw [hll] at h
    have hmi := hm.getD (by decide) i
    have hmv := V_getD hm i
    have hcl := mulw_lt q M i hqW
    have hc1 := mulw_next q M i
    have hc2 := mulw_word q M i
    have hbl := bw_le X (q * M) i
    have hgw := take_word (q := q) (M := M) hls hL hX h
    have hb1 := mul_bound hqW hmi
    rw [hmv'] at hmv
    rw [← hmv] at hc1 hc2
    have hw1 : (q * ms.getD i 0 % 18446744073709551616 + q * (M % Num.W ^ i) / Num.W ^ i) % 18446744073709551616 = q * M / Num.W ^ i % Num.W := by rw [hc2]; show _ = _ % 18446744073709551616; omega
    have hw2 : (q * ms.getD i 0 / 18446744073709551616 + (q * ms.getD i 0 % 18446744073709551616 + q * (M % Num.W ^ i) / Num.W ^ i) / 18446744073709551616) % 18446744073709551616 = q * (M % Num.W ^ (i + 1)) / Num.W ^ (i + 1) := by
     rw [hc1]
     have : q * (M % Num.W ^ i) / Num.W ^ i < 18446744073709551616 := hcl
     show _ = _ / 18446744073709551616
     generalize q * (M % Num.W ^ i) / Num.W ^ i = c at *
     generalize q * ms.getD i 0 = z at *
     omega
    have hsc := sub_carry X (q * M) i
    repeat (first|refine st_callV (by rfl) (by rfl) (by rfl) (at_spec sm ms i (by omega)) (RdW.old hrm) (by rfl) ?_|refine y_3 (mul64_spec q (ms.getD i 0) hqW hmi) ?_|refine y_44 ?_|rw [hw1]|rw [hw2]|rw [hgw]|refine st_callX (by rfl) (by rfl) (by rfl) (sub64X _ _ _ hbl) (by rfl) ?_|refine y_106 ?_)
    rw [take_set hL h rfl]
    refine st_round (i + 1) (by omega) (by omega) (by rw [hsc]; exact (by repeat (first|apply subL.nil|refine subL.cons (by rfl) ?_))) (by repeat (first|apply SubW.nil|refine y_8 ?_))
   ·rw [hll] at h
    have hie : i = L := by omega
    subst hie
    have hXL : X < Num.W ^ i := by rw [← hX, ← hL]; exact V_lt hls
    have hval : X - q * M < Num.W ^ i := by omega
    rw [take_end hqM hXL, List.drop_eq_nil_of_le (by omega), List.append_nil]
    repeat (first|refine y_106 ?_)
    refine st_round (D i (X - q * M)) ⟨D_len _ _, D_lt _ _, by rw [V_D' hval, mod_sub hqM, hX0], by rw [V_D' hval]; omega⟩ ?_ (by repeat (first|apply subL.nil|refine subL.cons (by rfl) ?_)) (by repeat (first|apply SubW.nil|refine y_8 ?_))
    rw [V_D' hval]
    have : M ≤ q * M := Nat.le_mul_of_pos_left M hq1
    omega
 ·have hlt : X < M := by
   rcases Nat.lt_or_ge X M with h | h
   ·exact h
   ·rcases Nat.eq_or_lt_of_le h with h | h
    ·rw [ord3_eq h.symm] at hlt; exact absurd (by decide) hlt
    ·rw [ord3_gt h] at hlt; exact absurd (by decide) hlt
  have hfin : ls = D L (V ls0 % M) := by
   refine D_of_V hls hL ?_
   rw [hX, ← hX0, Nat.mod_eq_of_lt hlt]
  rw [hfin]
  repeat (first|with_reducible refine st_ng_normal ?_|refine y_106 ?_)
  exact st_end0 rfl fun _ hw => post_of hw (Wout := [.sl sl ((D L (V ls0 % M)).map (N .u64)) T]) (by exact (by repeat (first|apply SubW.nil|refine y_8 ?_))) rfl
end Go.Proofs.YtbpmbdlgmmabcaaGreat.L
