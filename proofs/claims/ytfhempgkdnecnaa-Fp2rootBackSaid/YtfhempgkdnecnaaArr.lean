/- Arrays written in place, word by word, in plain Lean. No condition. -/
import Derived.Test.YtfhempgkdnecnaaLmb
import Derived.Test.YtfhempgkdnecnaaLmk
namespace Go.Proofs.Ytfhempgkdnecnaa.Num

theorem drop_get {P xs : List Nat} {i : Nat} (h : P.length = i) : (P ++ xs.drop i).getD i 0 = xs.getD i 0 := by
  rw [List.getD_eq_getElem?_getD, List.getElem?_append_right (by omega), h, Nat.sub_self, List.getElem?_drop, Nat.add_zero, ← List.getD_eq_getElem?_getD]
theorem drop_get1 {P xs : List Nat} {i : Nat} (h : P.length = i) : (P ++ xs.drop i).getD (i + 1) 0 = xs.getD (i + 1) 0 := by
  rw [List.getD_eq_getElem?_getD, List.getElem?_append_right (by omega), h, show i + 1 - i = 1 by omega, List.getElem?_drop, ← List.getD_eq_getElem?_getD]
theorem D_getD' {m X : Nat} (h : X < W ^ m) (i : Nat) : (D m X).getD i 0 = X / W ^ i % W := by rw [V_getD (D_lt _ _), V_D' h]
theorem drop_set {P xs : List Nat} {i : Nat} (h : P.length = i) (hi : i < xs.length) (y : Nat) : (P ++ xs.drop i).set i y = P ++ [y] ++ xs.drop (i + 1) := by
  rw [List.set_append_right _ _ (by omega), h, Nat.sub_self, List.drop_eq_getElem_cons hi, List.set_cons_zero, List.append_assoc]; rfl
theorem crun_drop (g : Nat → Nat → Nat → Nat × Nat) (xs ys : List Nat) (i : Nat) (h : i < xs.length) :
    ((crun g xs ys i).1 ++ xs.drop i).set i (g (xs.getD i 0) (ys.getD i 0) (crun g xs ys i).2).1 = (crun g xs ys (i + 1)).1 ++ xs.drop (i + 1) := by
  rw [drop_set (crun_len g xs ys i) h, ← crun_fst]
theorem crun_new (g : Nat → Nat → Nat → Nat × Nat) (xs ys : List Nat) (i n : Nat) (h : i < n) :
    ((crun g xs ys i).1 ++ List.replicate (n - i) 0).set i (g (xs.getD i 0) (ys.getD i 0) (crun g xs ys i).2).1 = (crun g xs ys (i + 1)).1 ++ List.replicate (n - (i + 1)) 0 := by
  rw [crun_set g xs ys i n h, ← crun_fst]
theorem subg_fst (x y c : Nat) : (subg x y c).1 = (x + 18446744073709551616 - y - c) % 18446744073709551616 := rfl
theorem subg_snd (x y c : Nat) : (subg x y c).2 = if x < y + c then 1 else 0 := rfl
theorem addg_fst (x y c : Nat) : (addg x y c).1 = (x + y + c) % 18446744073709551616 := rfl
theorem addg_snd (x y c : Nat) : (addg x y c).2 = (x + y + c) / 18446744073709551616 := rfl
theorem D_sbn {k A B : Nat} (h : B ≤ A) : D k (sbn k A B) = D k (A - B) := by
  rw [sbn, show A + W ^ k - B = A - B + W ^ k by omega, ← D_mod, Nat.add_mod_right, D_mod]
theorem crun_subD {k A B : Nat} (hA : A < W ^ k) (hB : B < W ^ k) : crun subg (D k A) (D k B) k = (D k (sbn k A B), bwn A B) := by
  have h := crun_sub_end (D_lt k A) (D_lt k B) (n := k) (by rw [D_len]; exact Nat.le_refl _) (by rw [D_len]; exact Nat.le_refl _)
  rw [V_D' hA, V_D' hB] at h; exact h
theorem crun_addD {k A B : Nat} (hA : A < W ^ k) (hB : B < W ^ k) : crun addg (D k A) (D k B) k = (D k (A + B), (A + B) / W ^ k) := by
  have h := crun_add_end (D_lt k A) (D_lt k B) (n := k) (by rw [D_len]; exact Nat.le_refl _) (by rw [D_len]; exact Nat.le_refl _)
  rw [V_D' hA, V_D' hB] at h; exact h
theorem crun_subD_le (k A B i : Nat) : (crun subg (D k A) (D k B) i).2 ≤ 1 := crun_le subg_le (D_lt _ _) (D_lt _ _) i
theorem crun_addD_le (k A B i : Nat) : (crun addg (D k A) (D k B) i).2 ≤ 1 := crun_le addg_le (D_lt _ _) (D_lt _ _) i
/-- A number less m, with its word ahead, if that leaves no less than 0. -/
def lessv (k m A c : Nat) : Nat := if A + c * W ^ k < m then A else A + c * W ^ k - m
theorem lessv_of {k m A c : Nat} (hm : m < W ^ k) (hc : c ≤ 1) : (if bwn A m > c then D k A else D k (sbn k A m)) = D k (lessv k m A c) := by
  have h01 : c = 0 ∨ c = 1 := by omega
  unfold lessv bwn
  rcases h01 with rfl | rfl
  · by_cases h : A < m
    · rw [if_pos h, if_pos (by decide), if_pos (by omega)]
    · rw [if_neg h, if_neg (by decide), if_neg (by omega), Nat.zero_mul, Nat.add_zero, D_sbn (by omega)]
  · rw [if_neg (show ¬ A + 1 * W ^ k < m by omega)]
    rw [if_neg (by split <;> omega), Nat.one_mul, sbn]
theorem lessv_sum {k m S : Nat} (h : S < 2 * m) (hm : m < W ^ k) : lessv k m (S % W ^ k) (S / W ^ k) = S % m := by
  unfold lessv
  rw [Nat.mul_comm, Nat.mod_add_div]
  by_cases hs : S < m
  · rw [if_pos hs, Nat.mod_eq_of_lt hs, Nat.mod_eq_of_lt (by omega)]
  · rw [if_neg hs, Nat.mod_eq_sub_mod (by omega), Nat.mod_eq_of_lt (a := S - m) (by omega)]
theorem four {ys : List Nat} (h : ys.length = 4) : [ys.getD 0 0, ys.getD 1 0, ys.getD 2 0, ys.getD 3 0] = ys := by
  match ys, h with
  | [a, b, c, d], _ => rfl
theorem six {ys : List Nat} (h : ys.length = 6) : [ys.getD 0 0, ys.getD 1 0, ys.getD 2 0, ys.getD 3 0, ys.getD 4 0, ys.getD 5 0] = ys := by
  match ys, h with
  | [a, b, c, d, e, f], _ => rfl
end Go.Proofs.Ytfhempgkdnecnaa.Num
