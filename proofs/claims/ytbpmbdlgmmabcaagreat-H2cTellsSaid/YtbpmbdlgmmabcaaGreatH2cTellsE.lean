/- What the proof of the statement about H2cTells stands on, part E. Conditions: as each statement says. -/
import Derived.Test.YtbpmbdlgmmabcaaGreatH2cTellsD
import Derived.Test.YtbpmbdlgmmabcaaGreatProg
namespace Go.Proofs.YtbpmbdlgmmabcaaGreat.L
open Go Go.Proofs
set_option maxRecDepth 100000
attribute [local irreducible] Code.wp wpList Af bodyPost L.Go
open Num
attribute [local simp] D_len
theorem take_top {ms : List Nat} {n : Nat} (hn : n ≤ ms.length) (h : ∀ j, n ≤ j → ms.getD j 0 = 0) : V (ms.take n) = V ms := by
 have e : ms = ms.take n ++ List.replicate (ms.length - n) 0 := by
  apply List.ext_getElem?
  intro i
  rcases Nat.lt_or_ge i n with hi | hi
  ·rw [List.getElem?_append_left (by simp; omega), List.getElem?_take, if_pos hi]
  ·rw [List.getElem?_append_right (by simp; omega), List.getElem?_replicate]
   rcases Nat.lt_or_ge i ms.length with hl | hl
   ·have := h i hi
    rw [List.getD_eq_getElem?_getD, List.getElem?_eq_getElem hl] at this
    rw [List.getElem?_eq_getElem hl, if_pos (by simp; omega)]
    simpa using this
   ·rw [List.getElem?_eq_none hl, if_neg (by simp; omega)]
 conv => rhs; rw [e]
 rw [V_append, V_rep0, Nat.mul_zero, Nat.add_zero]
theorem y_107 {a b : Prop} (k : b) (h : Rm b → a := by intro k;(first|refine Z01 ?_|refine Z02 ?_|refine Z03 ?_|refine Z04 ?_|refine Z05 ?_|refine Z06 ?_|refine Z07 ?_|refine Z08 ?_|refine Z09 ?_|refine Z10 ?_|refine Z11 ?_|refine Z12 ?_|refine Z13 ?_|refine Z14 ?_|refine Z15 ?_|refine Z16 ?_|refine Z17 ?_|refine Z18 ?_|refine Z20 ?_|refine Z21 ?_|refine Z22 ?_|refine Z23 ?_|refine Z24 ?_|refine Z25 ?_|refine Z26 ?_|refine Z27 ?_|refine Z28 ?_|refine Z29 ?_|refine Z30 ?_|refine Z31 ?_|refine Z32 ?_|refine Z49 ?_|refine Z50 ?_|refine Z51 ?_|refine Z52 ?_|refine Z53 ?_|refine Z58 ?_|refine Z59 ?_|refine Z62 ?_|refine Z63 ?_|refine Z64 ?_|refine Z67 ?_|refine Z70 ?_|refine Z71 ?_|refine Z75 ?_|refine Z76 ?_);exact k.h) : a := h ⟨k⟩
theorem y_212 {a b : Prop} (k : b) (h : Rm b → a := by intro k;(first|refine y_25 ?_|refine Z01 ?_|refine Z02 ?_|refine Z03 ?_|refine Z04 ?_|refine Z05 ?_|refine Z06 ?_|refine Z07 ?_|refine Z08 ?_|refine Z09 ?_|refine Z10 ?_|refine Z11 ?_|refine Z12 ?_|refine Z13 ?_|refine Z14 ?_|refine Z15 ?_|refine Z16 ?_|refine Z17 ?_|refine Z18 ?_|refine Z20 ?_|refine Z21 ?_|refine Z22 ?_|refine Z23 ?_|refine Z24 ?_|refine Z25 ?_|refine Z26 ?_|refine Z27 ?_|refine Z28 ?_|refine Z29 ?_|refine Z30 ?_|refine Z31 ?_|refine Z32 ?_|refine Z49 ?_|refine Z50 ?_|refine Z51 ?_|refine Z52 ?_|refine Z53 ?_|refine Z58 ?_|refine Z59 ?_|refine Z62 ?_|refine Z63 ?_|refine Z64 ?_|refine Z67 ?_|refine Z70 ?_|refine Z71 ?_|refine Z75 ?_|refine Z76 ?_);exact k.h) : a := h ⟨k⟩
theorem y_213 {a b : Prop} (k : b) (h : Rm b → a := by intro k;(first|refine y_30 ?_|refine Z01 ?_|refine Z02 ?_|refine Z03 ?_|refine Z04 ?_|refine Z05 ?_|refine Z06 ?_|refine Z07 ?_|refine Z08 ?_|refine Z09 ?_|refine Z10 ?_|refine Z11 ?_|refine Z12 ?_|refine Z13 ?_|refine Z14 ?_|refine Z15 ?_|refine Z16 ?_|refine Z17 ?_|refine Z18 ?_|refine Z20 ?_|refine Z21 ?_|refine Z22 ?_|refine Z23 ?_|refine Z24 ?_|refine Z25 ?_|refine Z26 ?_|refine Z27 ?_|refine Z28 ?_|refine Z29 ?_|refine Z30 ?_|refine Z31 ?_|refine Z32 ?_|refine Z49 ?_|refine Z50 ?_|refine Z51 ?_|refine Z52 ?_|refine Z53 ?_|refine Z58 ?_|refine Z59 ?_|refine Z62 ?_|refine Z63 ?_|refine Z64 ?_|refine Z67 ?_|refine Z70 ?_|refine Z71 ?_|refine Z75 ?_|refine Z76 ?_);exact k.h) : a := h ⟨k⟩
set_option maxHeartbeats 4000000 in
theorem mod_spec (s t : Value) (xs ms : List Nat) (hx : Lt 18446744073709551616 xs) (hm : Lt 18446744073709551616 ms) (hl1 : xs.length < 1000000) (hl2 : ms.length < 1000000) :
  Spec Tryz.prog 58 [s, t] (fun w => Rd w s (xs.map (N .u64)) ∧ Rd w t (ms.map (N .u64))) []
   (fun v Wr => (V ms = 0 ∧ v = .tuple [.slice none 0 0, N .i64 30].toArray ∧ Wr = []) ∨ (0 < V ms ∧ ∃ u, v = .tuple [u, N .i64 0].toArray ∧ Wr = [.sl u ((D ms.length (V xs % V ms)).map (N .u64)) 25])) := by
 refine mk_spec Tryz.func58 rfl rfl rfl fun w hr => ?_
 have hr1 := RdC.mk0 hr.1
 have hr2 := RdC.mk0 hr.2
 repeat (first|refine st_block_join (ι := Nat) (fun n => n ≤ ms.length ∧ (∀ j, n ≤ j → ms.getD j 0 = 0) ∧ (n = 0 ∨ ms.getD (n - 1) 0 ≠ 0)) (fun n => [(0, s), (1, t), (6, N .i64 n)]) (fun _ => []) ?_ ?_|refine y_107 ?_|refine Z83 fun _ => ?_)
 ·refine st_loop (ι := Nat) (fun n => n ≤ ms.length ∧ ∀ j, n ≤ j → ms.getD j 0 = 0) (fun n => [(0, s), (1, t), (6, N .i64 n)]) (fun _ => []) (fun n => n) ms.length ⟨Nat.le_refl _, fun j hj => getD_out hj⟩ (by repeat (first|apply subL.nil|refine subL.cons (by rfl) ?_)) (by repeat (first|apply SubW.nil|refine y_8 ?_)) ?_
  rintro n ⟨hn, hz⟩
  by_cases h0 : n = 0
  ·repeat (first|refine y_212 ?_|refine Z83 fun _ => ?_)
   exact st_met n ⟨hn, hz, .inl h0⟩ (by repeat (first|apply subL.nil|refine subL.cons (by rfl) ?_)) (by repeat (first|apply SubW.nil|refine y_8 ?_))
  ·have hnl : n - 1 < ms.length := by omega
   by_cases hw : ms.getD (n - 1) 0 = 0
   ·repeat (first|refine y_213 ?_|refine Z83 fun _ => ?_)
    refine st_round (n - 1) ⟨by omega, fun j hj => ?_⟩ (by omega) (by repeat (first|apply subL.nil|refine subL.cons (by rfl) ?_)) (by repeat (first|apply SubW.nil|refine y_8 ?_))
    rcases Nat.eq_or_lt_of_le hj with h | h
    ·rw [← h]; exact hw
    ·exact hz j (by omega)
   ·repeat (first|refine y_30 ?_|rw [decide_eq_false hw]|refine y_107 ?_|refine Z83 fun _ => ?_)
    exact st_met n ⟨hn, hz, .inr hw⟩ (by repeat (first|apply subL.nil|refine subL.cons (by rfl) ?_)) (by repeat (first|apply SubW.nil|refine y_8 ?_))
 rintro n ⟨hn, hz, htop⟩
 by_cases h0 : n = 0
 ·repeat (first|refine y_213 ?_|refine Z83 fun _ => ?_)
  refine Ze2 fun _ hw => post_of hw SubW.nil (.inl ⟨?_, rfl, rfl⟩)
  have := take_top hn hz
  rw [h0, List.take_zero, V_nil] at this
  exact this.symm
 have htop : ms.getD (n - 1) 0 ≠ 0 := by rcases htop with h | h; exact absurd h h0; exact h
 obtain ⟨M, hM⟩ : ∃ M, V ms = M := ⟨_, rfl⟩
 have hMt : V (ms.take n) = M := by rw [take_top hn hz, hM]
 have htl : (ms.take n).length = n := by rw [List.length_take]; omega
 have htt : (ms.take n).getD (n - 1) 0 ≠ 0 := by
  rw [List.getD_eq_getElem?_getD, List.getElem?_take, if_pos (by omega), ← List.getD_eq_getElem?_getD]; exact htop
 have htb := hm.take n
 have hMp : 0 < M := by rw [← hMt]; exact Nat.lt_of_lt_of_le (W_pow_pos _) (ge_top htb htt)
 have hMW : M < Num.W ^ ms.length := by rw [← hM]; exact V_lt hm
 rw [hM]
 repeat (first|refine y_212 ?_|refine Z83 fun _ => ?_)
 rename_i u
 obtain ⟨L, hL⟩ : ∃ L, L = ms.length := ⟨_, rfl⟩
 refine st_loop (ι := Nat) (fun j => j ≤ xs.length) (fun j => [(0, s), (1, t), (6, N .i64 n), (7, u), (8, .int .i64 ((j : Int) - 1))]) (fun j => [.sl u ((D (ms.length + 1) (V xs / Num.W ^ j % M)).map (N .u64)) 25]) (fun j => j) xs.length (Nat.le_refl _) (by repeat (first|apply subL.nil|refine subL.cons (by rfl) ?_)) ?_ ?_
 ·rw [Nat.div_eq_of_lt (V_lt hx), Nat.zero_mod, D_zero]
  exact (by repeat (first|apply SubW.nil|refine y_8 ?_))
 intro j hj
 have hDl := D_len (ms.length + 1) (V xs / Num.W ^ j % M)
 repeat (first|refine y_107 ?_|refine Z83 fun _ => ?_)
 refine st_cond (by rfl) (fun h => ?_) (fun h => ?_)
 ·have hp : (0 : Int) ≤ (j : Int) - 1 := h
  obtain ⟨i, rfl⟩ : ∃ i, j = i + 1 := ⟨j - 1, by omega⟩
  rw [show ((i + 1 : Nat) : Int) - 1 = Int.ofNat i by simp]
  obtain ⟨R, hR⟩ : ∃ R, R = V xs / Num.W ^ (i + 1) % M := ⟨_, rfl⟩
  rw [← hR] at hDl ⊢
  have hRM : R < M := by rw [hR]; exact Nat.mod_lt _ hMp
  have hRW : R < Num.W ^ (ms.length + 1) := Nat.lt_of_lt_of_le (Nat.lt_trans hRM hMW) (W_le (Nat.le_succ _))
  have hxi := hx.getD (by decide) i
  have hil : i < xs.length := by omega
  have hDb := D_lt (ms.length + 1) R
  have hcl : (List.take 1 (D (ms.length + 1) R) ++ List.take ((D (ms.length + 1) R).length - 1) (D (ms.length + 1) R)).length = ms.length + 1 := by rw [List.length_append, List.length_take, List.length_take, hDl]; omega
  repeat (first|rw [List.length_map]|refine st_copy_selfN (lo := 1) (by rfl) (by rfl) (by repeat first|apply Find.here|apply Find.there) (by omega) (by rfl) (by rfl) (by rfl) ?_|refine Z01 ?_|refine Z02 ?_|refine Z03 ?_|refine Z04 ?_|refine Z05 ?_|refine Z06 ?_|refine Z07 ?_|refine Z08 ?_|refine Z09 ?_|refine Z10 ?_|refine Z11 ?_|refine Z12 ?_|refine Z13 ?_|refine Z14 ?_|refine Z15 ?_|refine Z16 ?_|refine Z17 ?_|refine Z18 ?_|refine Z20 ?_|refine Z21 ?_|refine Z22 ?_|refine Z23 ?_|refine Z24 ?_|refine Z25 ?_|refine Z26 ?_|refine Z27 ?_|refine Z28 ?_|refine Z29 ?_|refine Z30 ?_|refine Z31 ?_|refine Z32 ?_|refine Z49 ?_|refine Z50 ?_|refine Z51 ?_|refine Z52 ?_|refine Z53 ?_|refine Z58 ?_|refine Z59 ?_|refine Z62 ?_|refine Z63 ?_|refine Z64 ?_|refine Z67 ?_|refine Z70 ?_|refine Z71 ?_|refine Z75 ?_|refine Z76 ?_|refine Z83 fun _ => ?_)
  have hset : (List.take 1 (D (ms.length + 1) R) ++ List.take ((D (ms.length + 1) R).length - 1) (D (ms.length + 1) R)).set 0 (xs.getD i 0) = xs.getD i 0 :: (D (ms.length + 1) R).take ms.length := by
   rw [hDl, Nat.add_sub_cancel]
   cases hd : D (ms.length + 1) R with
   | nil => rw [hd] at hDl; simp at hDl
   | cons a r => simp
  rw [hset]
  have hnb : Lt 18446744073709551616 (xs.getD i 0 :: (D (ms.length + 1) R).take ms.length) := Num.Lt.cons hxi (hDb.take _)
  have hnl : (xs.getD i 0 :: (D (ms.length + 1) R).take ms.length).length = ms.length + 1 := by rw [List.length_cons, List.length_take, hDl]; omega
  have hnv : V (xs.getD i 0 :: (D (ms.length + 1) R).take ms.length) = xs.getD i 0 + Num.W * R := by
   rw [shift_val hDl hDb (by rw [V_D' hRW]; exact Nat.lt_trans hRM hMW), V_D' hRW]
  have hnW : V (xs.getD i 0 :: (D (ms.length + 1) R).take ms.length) < Num.W * M := by
   rw [hnv]
   have := Nat.mul_le_mul_left Num.W (show R + 1 ≤ M from hRM)
   rw [Nat.mul_add, Nat.mul_one] at this
   have h2 : xs.getD i 0 < Num.W := hxi
   omega
  have hrv : V (xs.getD i 0 :: (D (ms.length + 1) R).take ms.length) % M = V xs / Num.W ^ i % M := by
   rw [hnv, hR, V_getD hx, mod_step]
  have hcut : List.drop 0 (List.take n ms) = ms.take n := List.drop_zero
  have hsub : RdC ⟨w, fps []⟩ (sub t 0 n) ((ms.take n).map (N .u64)) := by
   have h := RdC.subC (lo := 0) (hi := n) (k := .u64) hr2 (by omega) hn
   rw [hcut] at h; exact h
  repeat (first|(refine st_call (by rfl) (by rfl) (by rfl) (take_spec u _ 25 _ (ms.take n) (ms.length + 1) n M hnb hnl htb htl (by omega) (by omega) (by omega) hMt htt hnW) (.cons (by repeat first|apply Find.here|apply Find.there) .nil) (fun w' hw' => RdC.toWin hsub hw' (.cons Find.here .nil)) (by rfl) ?_; rintro v _ rfl; rw [hrv])|refine y_107 ?_|refine Z83 fun _ => ?_)
  refine st_round i (by omega) (by omega) ?_ (by repeat (first|apply SubW.nil|refine y_8 ?_))
  rw [show ((i : Int) - 1) = Int.ofNat i - Int.ofNat 1 from rfl]
  exact (by repeat (first|apply subL.nil|refine subL.cons (by rfl) ?_))
 ·have hp : ¬ (0 : Int) ≤ (j : Int) - 1 := h
  have hj0 : j = 0 := by omega
  subst hj0
  rw [Nat.pow_zero, Nat.div_one] at hDl ⊢
  have hRM : V xs % M < M := Nat.mod_lt _ hMp
  repeat (first|refine y_107 ?_|refine Z83 fun _ => ?_)
  refine st_resl (s := u) 0 ms.length (by repeat first|apply Find.here|apply Find.there) (by omega) (by rw [List.length_map, hDl]; omega) ?_
  have hcut : List.drop 0 (List.take ms.length (List.map (N .u64) (D (ms.length + 1) (V xs % M)))) = (D ms.length (V xs % M)).map (N .u64) := by
   rw [List.drop_zero, ← List.map_take]
   congr 1
   refine D_of_V ((D_lt _ _).take _) (by rw [List.length_take, hDl]; omega) ?_
   rw [V_take (D_lt _ _), V_D, Nat.mod_eq_of_lt (a := V xs % M) (Nat.lt_of_lt_of_le (Nat.lt_trans hRM hMW) (W_le (Nat.le_succ _))), Nat.mod_eq_of_lt (Nat.lt_trans hRM hMW)]
  rw [hcut]
  exact Ze2 fun _ hw => post_of hw (Wout := [.sl (sub u 0 ms.length) ((D ms.length (V xs % M)).map (N .u64)) 25]) (by exact (by repeat (first|apply SubW.nil|refine y_8 ?_))) (.inr ⟨hMp, _, rfl, rfl⟩)
end Go.Proofs.YtbpmbdlgmmabcaaGreat.L
namespace Go.Proofs.YtbpmbdlgmmabcaaGreat.L
open Go Go.Proofs
set_option maxRecDepth 100000
attribute [local irreducible] Code.wp wpList Af bodyPost L.Go
open Num
attribute [local simp] D_len
theorem pwide_spec (s : Value) (xs : List Nat) (hx : Lt 18446744073709551616 xs) (hl : xs.length < 1000000) :
  Spec Tryz.prog 23 [s] (fun w => Rd w s (xs.map (N .u64))) [] (IsV (LV .u64 (D 6 (V xs % p)))) := by
 refine mk_spec Tryz.func23 rfl rfl rfl fun w hr => ?_
 have hr := RdC.mk0 hr
 have hrl := D_len 6 p
 have hv := V_D' p_lt
 have hml := D_len 6 (V xs % p)
 have htk : (D 6 (V xs % p)).take 6 = D 6 (V xs % p) := List.take_of_length_le (by omega)
 repeat (first|(refine y_35 ?_;intro _)|refine y_37 ?_|(refine st_call (by rfl) (by rfl) (by rfl) (mod_spec s _ xs (D 6 p) hx (D_lt _ _) hl (by omega)) .nil (fun w hw => ⟨RdW.old hr w hw, RdW.arrAll (m := 6) (by repeat first|apply Find.here|apply Find.there) hrl w hw⟩) (by rfl) ?_; rintro _ _ (⟨hz, _, _⟩ | ⟨_, u, rfl, rfl⟩); exact absurd hz (by rw [hv]; exact Nat.ne_of_gt p_pos); rw [hv, hrl])|rw [htk]|refine Z01 ?_|refine Z02 ?_|refine Z03 ?_|refine Z04 ?_|refine Z05 ?_|refine Z06 ?_|refine Z07 ?_|refine Z08 ?_|refine Z09 ?_|refine Z10 ?_|refine Z11 ?_|refine Z12 ?_|refine Z13 ?_|refine Z14 ?_|refine Z19 ?_|refine Z24 ?_|refine Z25 ?_|refine Z26 ?_|refine Z27 ?_|refine Z28 ?_|refine Z29 ?_|refine Z30 ?_|refine Z31 ?_|refine Z32 ?_|refine Z62 ?_|refine Z63 ?_|refine Z64 ?_|refine Z66 ?_|refine Z67 ?_|refine Z82 fun _ => ?_)
 refine Zec fun _ hw => post_of hw SubW.nil ⟨?_, rfl⟩
 rfl
def fel (b : List Nat) : List Nat := D 6 (bval (b.take 64) % p) ++ D 6 (bval ((b.take 128).drop 64) % p)
def fels (b : List Nat) : Nat → List (List Nat)
 | 0 => []
 | i + 1 => fels b i ++ [fel (b.drop (128 * i))]
theorem fel_def (b : List Nat) : fel b = D 6 (bval (b.take 64) % p) ++ D 6 (bval ((b.take 128).drop 64) % p) := rfl
theorem fel_len (b : List Nat) : (fel b).length = 12 := by simp [fel]
theorem fels_0 (b : List Nat) : fels b 0 = [] := rfl
theorem fels_succ (b : List Nat) (i : Nat) : fels b (i + 1) = fels b i ++ [fel (b.drop (128 * i))] := rfl
theorem fels_len (b : List Nat) (i : Nat) : (fels b i).length = i := by
 induction i with
 | zero => rfl
 | succ i ih => rw [fels, List.length_append, ih]; rfl
theorem fels_each (b : List Nat) (i : Nat) : ∀ v ∈ fels b i, v.length = 12 := by
 induction i with
 | zero => intro v hv; cases hv
 | succ i ih =>
  intro v hv
  rcases List.mem_append.1 hv with hv | hv
  ·exact ih v hv
  ·rw [List.mem_singleton.1 hv]; exact fel_len _
theorem flat12_len {l : List (List Nat)} (h : ∀ v ∈ l, v.length = 12) : l.flatten.length = l.length * 12 := by
 induction l with
 | nil => rfl
 | cons a r ih =>
  rw [List.flatten_cons, List.length_append, ih fun v hv => h v (List.mem_cons_of_mem _ hv), h a (List.mem_cons_self ..), List.length_cons]
  omega
theorem fels_flat (b : List Nat) (i : Nat) : (fels b i).flatten.length = (fels b i).length * 12 := flat12_len (fels_each b i)
theorem fels_get (b : List Nat) : ∀ {k i : Nat}, i < k → (fels b k)[i]? = some (fel (b.drop (128 * i)))
 | 0, _, h => by omega
 | k + 1, i, h => by
  rw [fels_succ]
  rcases Nat.lt_or_ge i k with h2 | h2
  ·rw [List.getElem?_append_left (by rw [fels_len]; exact h2)]
   exact fels_get b h2
  ·have : i = k := by omega
   subst this
   rw [List.getElem?_append_right (by rw [fels_len]; exact Nat.le_refl _), fels_len, Nat.sub_self]
   rfl
theorem w64 {bs : List Nat} (h : Lt 256 bs) (hl : bs.length = 64) : V (D 8 (bval bs)) = bval bs := by
 refine V_D' ?_
 have := bval_lt h
 rw [hl] at this
 exact this
theorem pwide64 (s : Value) (bs : List Nat) (h : Lt 256 bs) (hl : bs.length = 64) : Spec Tryz.prog 23 [s] (fun w => Rd w s ((D 8 (bval bs)).map (N .u64))) [] (IsV (LV .u64 (D 6 (bval bs % p)))) := by
 have := pwide_spec s (D 8 (bval bs)) (D_lt _ _) (by rw [D_len]; decide)
 rwa [w64 h hl] at this
attribute [irreducible] fel fels
end Go.Proofs.YtbpmbdlgmmabcaaGreat.L
namespace Go.Proofs.YtbpmbdlgmmabcaaGreat.L
open Go Go.Proofs
set_option maxRecDepth 100000
attribute [local irreducible] Code.wp wpList Af bodyPost L.Go PartAt
open Num
attribute [local simp] D_len
theorem y_108 {a b : Prop} (k : b) (h : Rm b → a := by intro k;(first|refine Z01 ?_|refine Z02 ?_|refine Z03 ?_|refine Z04 ?_|refine Z05 ?_|refine Z06 ?_|refine Z07 ?_|refine Z08 ?_|refine Z09 ?_|refine Z10 ?_|refine Z11 ?_|refine Z12 ?_|refine Z13 ?_|refine Z14 ?_|refine Z17 ?_|refine Z18 ?_|refine Z19 ?_|refine Z20 ?_|refine Z21 ?_|refine Z36 ?_|refine Z49 ?_|refine Z50 ?_|refine Z51 ?_|refine Z52 ?_|refine Z53 ?_|refine Z58 ?_|refine Z59 ?_|refine Z62 ?_|refine Z63 ?_|refine Z64 ?_|refine Z65 ?_);exact k.h) : a := h ⟨k⟩
theorem y_109 {a b : Prop} (k : b) (h : Rm b → a := by intro k;(first|refine Z01 ?_|refine Z02 ?_|refine Z17 ?_|refine Z18 ?_|refine Z19 ?_|refine Z20 ?_|refine Z21 ?_|refine Z36 ?_|refine Z49 ?_|refine Z50 ?_|refine Z58 ?_|refine Z59 ?_|refine Z62 ?_|refine Z63 ?_|refine Z64 ?_|refine Z65 ?_);exact k.h) : a := h ⟨k⟩
theorem y_110 {a b : Prop} (k : b) (h : Rm b → a := by intro k;refine R.Zpp (by rfl) (by intro _ _ _;(first|refine Z20 ?_|refine Z21 ?_|refine Z62 ?_);exact Zq) ?_;exact k.h) : a := h ⟨k⟩
theorem y_111 {a b : Prop} (k : b) (h : Rm b → a := by intro k;refine R.Zpn (by rfl) (by intro _ _ _;(first|refine Z84 fun _ => ?_|refine Z85 fun _ => ?_);exact R.Zpx) ?_;exact k.h) : a := h ⟨k⟩
set_option maxHeartbeats 8000000 in
theorem fields_ok (s1 s2 : Value) (m d : List Nat) (k : Nat) (hm : Lt 256 m) (hd : Lt 256 d) (hl1 : m.length < 1073741824) (h1 : 1 ≤ d.length) (h2 : d.length ≤ 255) (hk1 : 1 ≤ k) (hk : k ≤ 63) :
  Spec Tryz.prog 11 [s1, s2, N .i64 k] (fun w => Rd w s1 (m.map (N .u8)) ∧ Rd w s2 (d.map (N .u8))) [] (fun v W => ∃ x, v = .tuple [x, N .i64 0].toArray ∧ W = [.sl (wide 12 x) ((fels (xpand m d (128 * k)) k).flatten.map (N .u64)) 29]) := by
 refine mk_spec Tryz.func11 rfl rfl rfl fun w hr => ?_
 have hr1 := RdC.mk0 hr.1
 have hr2 := RdC.mk0 hr.2
 have hxl := xpand_len m d (128 * k)
 have hxb := xpand_lt m d (128 * k)
 repeat (first|refine y_30 ?_|(refine st_call (by rfl) (by rfl) (by rfl) (xexpand_ok s1 s2 m d (128 * k) hm hd hl1 h1 h2 (by omega) (by omega)) .nil (fun w hw => ⟨RdW.old hr1 w hw, RdW.old hr2 w hw⟩) (by rfl) ?_; rintro _ _ ⟨x, rfl, rfl⟩)|refine y_108 ?_|refine Z84 fun _ => ?_|refine Z85 fun _ => ?_)
 generalize xpand m d (128 * k) = b at *
 refine st_own_nilM 12 29 ?_
 refine st_loop (ι := Nat × Value × Value) (fun q => q.1 ≤ k) (fun q => [(9, q.2.1), (10, N .i64 0), (11, q.2.2)]) (fun q => [.sl (wide 12 q.2.2) ((fels b q.1).flatten.map (N .u64)) 29, .sl q.2.1 ((b.drop (128 * q.1)).map (N .u8)) 5]) (fun q => k - q.1) (0, x, .slice none 0 0) (by simp) (by repeat (first|apply subL.nil|refine subL.cons (by rfl) ?_)) (by simp only [fels_0]; exact (by repeat (first|apply SubW.nil|refine y_8 ?_))) ?_
 rintro ⟨i, v, u⟩ hi
 simp only at hi ⊢
 have hdl : (b.drop (128 * i)).length = 128 * k - 128 * i := by rw [List.length_drop, hxl]
 have hfs := fels_succ b i
 have hdb : Lt 256 (b.drop (128 * i)) := fun y hy => hxb y (List.mem_of_mem_drop hy)
 have hnx : b.drop (128 * (i + 1)) = (b.drop (128 * i)).drop 128 := by rw [List.drop_drop]; congr 1
 have hfl := fels_flat b i
 have hfl' := fels_len b i
 generalize b.drop (128 * i) = e at *
 generalize hL : fels b i = L at *
 repeat (first|refine y_108 ?_|refine Z84 fun _ => ?_|refine Z85 fun _ => ?_)
 refine st_cond (by rfl) (fun h => ?_) (fun h => ?_)
 ·rw [hdl] at h
  have ha : (e.take 64).length = 64 := by rw [List.length_take, hdl]; omega
  have hc : ((e.take 128).drop 64).length = 64 := by rw [List.length_drop, List.length_take, hdl]; omega
  have hab : Lt 256 (e.take 64) := fun y hy => hdb y (List.mem_of_mem_take hy)
  have hcb : Lt 256 ((e.take 128).drop 64) := fun y hy => hdb y (List.mem_of_mem_take (List.mem_of_mem_drop hy))
  have hw1 := fun s => words_spec s (e.take 64) hab (by omega)
  have hw2 := fun s => words_spec s ((e.take 128).drop 64) hcb (by omega)
  rw [ha] at hw1
  rw [hc] at hw2
  have hv1 := fun s => pwide64 s (e.take 64) hab ha
  have hv2 := fun s => pwide64 s ((e.take 128).drop 64) hcb hc
  have hfe := fel_def e
  have hE : ∀ y ∈ [fel e], y.length = 12 := fun y hy => by rw [List.mem_singleton.1 hy]; exact fel_len _
  have hE1 := flat12_len hE
  have hs1 : ∀ (c : Cx) (W : List Res), RdW c W v (e.map (N .u8)) → RdW c W (sub v 0 64) ((e.take 64).map (N .u8)) := fun c W h => RdW.subN h (lo := 0) (hi := 64) (by omega) (by omega)
  have hs2 : ∀ (c : Cx) (W : List Res), RdW c W v (e.map (N .u8)) → RdW c W (sub v 64 128) (((e.take 128).drop 64).map (N .u8)) := fun c W h => RdW.subN h (lo := 64) (hi := 128) (by omega) (by omega)
  have hbd : (L.length + [fel e].length) * 96 ≤ 140737488355328 := by rw [hfl']; simp; omega
  have hbd2 : L.length + [fel e].length < 9223372036854775808 := by rw [hfl']; simp; omega
  have hone : 0 < [fel e].length := Nat.one_pos
  repeat (first|refine y_108 ?_|refine Z84 fun _ => ?_|refine Z85 fun _ => ?_)
  refine R.st_perm [0, 1, 5, 2, 6, 3, 7, 4, 8, 9, 10, 11, 12] (by rfl) ?_
  repeat (first|(refine R.Zpf (by rfl) (by intro _ _ _;(first|(refine st_build2 (by rfl) (by rfl) (by rfl) (by rfl) (by simp; done) (by simp; done) (by rfl) ?_; rw [← hfe])|refine y_109 ?_);exact Zq) ?_)|refine y_110 ?_|refine y_101 (hv1 _) ?_|refine y_101 (hv2 _) ?_|(refine R.Zpd (by rfl) (by intro _ _ _;(refine st_buildSliceM (m := 12) (kk := .u64) (vss := [fel e]) (by rfl) (by rfl) (by rfl) (by rfl) (by rfl) (by rfl) (by rfl) hE (by rfl) (by rfl) fun _ => ?_);exact R.Zpdx) fun _ => ?_)|(refine R.Zpcc [4, 7, 8, 9, 10, 11, 12] [8, 3, 4, 9, 10, 11, 12] (by rfl) (by rfl) (by intro _ _ _;(refine st_call (by rfl) (by rfl) (by rfl) (hw1 _) .nil (hs1 _ _ (RdW.own (by repeat first|apply Find.here|apply Find.there))) (by rfl) ?_; rintro x1 _ rfl);exact R.Zpcx) (by intro _ _ _;(refine st_call (by rfl) (by rfl) (by rfl) (hw2 _) .nil (hs2 _ _ (RdW.own (by repeat first|apply Find.here|apply Find.there))) (by rfl) ?_; rintro x2 _ rfl);exact R.Zpcx) (fun _ => ?_) (fun _ => ?_))|(refine R.Zpc (by rfl) (by intro _ _ _;(refine st_call (by rfl) (by rfl) (by rfl) (hw1 _) .nil (hs1 _ _ (RdW.own (by repeat first|apply Find.here|apply Find.there))) (by rfl) ?_; rintro x1 _ rfl);exact R.Zpcx) fun _ => ?_)|(refine R.Zpc (by rfl) (by intro _ _ _;(refine st_call (by rfl) (by rfl) (by rfl) (hw2 _) .nil (hs2 _ _ (RdW.own (by repeat first|apply Find.here|apply Find.there))) (by rfl) ?_; rintro x2 _ rfl);exact R.Zpcx) fun _ => ?_)|(refine y_111 ?_;intro _)|(refine R.Zpn (by rfl) (by intro _ _ _;(refine st_append_M (m := 12) (kk := .u64) (xss := L) (yss := [fel e]) (by rfl) (by rfl) (by repeat first|apply Find.here|apply Find.there) (RdW.slv (by repeat first|apply Find.here|apply Find.there) hE1) (by rfl) (by rfl) (by rfl) (by rfl) (by decide) hfl hE1 hone hbd hbd2 (by rfl) fun _ => ?_; rw [← hfs]);exact R.Zpx) fun _ => ?_)|refine R.Zpo (by rfl) ?_)
  all_goals
   repeat (first|(refine R.Zpf (by rfl) (by intro _ _ _;(first|(refine st_build2 (by rfl) (by rfl) (by rfl) (by rfl) (by simp; done) (by simp; done) (by rfl) ?_; rw [← hfe])|refine y_109 ?_);exact Zq) ?_)|refine y_110 ?_|refine y_101 (hv1 _) ?_|refine y_101 (hv2 _) ?_|(refine R.Zpd (by rfl) (by intro _ _ _;(refine st_buildSliceM (m := 12) (kk := .u64) (vss := [fel e]) (by rfl) (by rfl) (by rfl) (by rfl) (by rfl) (by rfl) (by rfl) hE (by rfl) (by rfl) fun _ => ?_);exact R.Zpdx) fun _ => ?_)|(refine R.Zpcc [4, 7, 8, 9, 10, 11, 12] [8, 3, 4, 9, 10, 11, 12] (by rfl) (by rfl) (by intro _ _ _;(refine st_call (by rfl) (by rfl) (by rfl) (hw1 _) .nil (hs1 _ _ (RdW.own (by repeat first|apply Find.here|apply Find.there))) (by rfl) ?_; rintro x1 _ rfl);exact R.Zpcx) (by intro _ _ _;(refine st_call (by rfl) (by rfl) (by rfl) (hw2 _) .nil (hs2 _ _ (RdW.own (by repeat first|apply Find.here|apply Find.there))) (by rfl) ?_; rintro x2 _ rfl);exact R.Zpcx) (fun _ => ?_) (fun _ => ?_))|(refine R.Zpc (by rfl) (by intro _ _ _;(refine st_call (by rfl) (by rfl) (by rfl) (hw1 _) .nil (hs1 _ _ (RdW.own (by repeat first|apply Find.here|apply Find.there))) (by rfl) ?_; rintro x1 _ rfl);exact R.Zpcx) fun _ => ?_)|(refine R.Zpc (by rfl) (by intro _ _ _;(refine st_call (by rfl) (by rfl) (by rfl) (hw2 _) .nil (hs2 _ _ (RdW.own (by repeat first|apply Find.here|apply Find.there))) (by rfl) ?_; rintro x2 _ rfl);exact R.Zpcx) fun _ => ?_)|(refine y_111 ?_;intro _)|(refine R.Zpn (by rfl) (by intro _ _ _;(refine st_append_M (m := 12) (kk := .u64) (xss := L) (yss := [fel e]) (by rfl) (by rfl) (by repeat first|apply Find.here|apply Find.there) (RdW.slv (by repeat first|apply Find.here|apply Find.there) hE1) (by rfl) (by rfl) (by rfl) (by rfl) (by decide) hfl hE1 hone hbd hbd2 (by rfl) fun _ => ?_; rw [← hfs]);exact R.Zpx) fun _ => ?_)|refine R.Zpo (by rfl) ?_)
  all_goals refine R.Zp0 ?_
  all_goals
   repeat (first|refine y_108 ?_|refine Z84 fun _ => ?_|refine Z85 fun _ => ?_)
   rename_i v9
   refine st_resl (s := v) 128 (List.map (N .u8) e).length (by repeat first|apply Find.here|apply Find.there) (by rw [List.length_map]; omega) (Nat.le_refl _) ?_
   rw [List.take_length, ← List.map_drop, ← hnx]
   exact st_round (i + 1, sub v 128 _, v9) (by simp only; omega) (by simp only; omega) (by repeat (first|apply subL.nil|refine subL.cons (by rfl) ?_)) (by repeat (first|apply SubW.nil|refine y_8 ?_))
 ·rw [hdl] at h
  have hik : i = k := by omega
  subst hik
  subst hL
  repeat (first|refine y_108 ?_|refine Z84 fun _ => ?_|refine Z85 fun _ => ?_)
  exact Ze2 fun _ hw => post_of hw (Wout := [.sl (wide 12 u) ((fels b i).flatten.map (N .u64)) 29]) (by exact (by repeat (first|apply SubW.nil|refine y_8 ?_))) ⟨_, rfl, rfl⟩
theorem y_112 {a b : Prop} (k : b) (h : Rm b → a := by intro k;refine st_len (by rfl) (by rfl) RdW.nil (by rfl) ?_;exact k.h) : a := h ⟨k⟩
theorem y_214 {a b : Prop} (k : b) (h : Rm b → a := by intro k;(first|refine y_112 ?_|refine Z01 ?_|refine Z02 ?_|refine Z03 ?_|refine Z04 ?_|refine Z05 ?_|refine Z06 ?_|refine Z07 ?_|refine Z08 ?_|refine Z09 ?_|refine Z10 ?_|refine Z11 ?_|refine Z12 ?_|refine Z13 ?_|refine Z14 ?_|refine Z17 ?_|refine Z18 ?_|refine Z19 ?_|refine Z20 ?_|refine Z21 ?_|refine Z36 ?_|refine Z49 ?_|refine Z50 ?_|refine Z51 ?_|refine Z52 ?_|refine Z53 ?_|refine Z58 ?_|refine Z59 ?_|refine Z62 ?_|refine Z63 ?_|refine Z64 ?_|refine Z65 ?_);exact k.h) : a := h ⟨k⟩
theorem fields_bad (s1 s2 : Value) (d : List Nat) (c n : Int) (er : Nat) (hn : n = if 1 ≤ c ∧ c ≤ 63 then 128 * c else 0)
  (hx : Spec Tryz.prog 22 [s1, s2, .int .i64 n] (fun w => Rd w s2 (d.map (N .u8))) [] (IsV (.tuple [.slice none 0 0, N .i64 er].toArray))) :
  Spec Tryz.prog 11 [s1, s2, .int .i64 c] (fun w => Rd w s2 (d.map (N .u8))) [] (IsV (.tuple [.slice none 0 0, N .i64 er].toArray)) := by
 refine mk_spec Tryz.func11 rfl rfl rfl fun w hr => ?_
 have hr2 := RdC.mk0 hr
 by_cases h1 : (1 : Int) ≤ c
 ·by_cases h2 : c ≤ 63
  ·rw [if_pos ⟨h1, h2⟩] at hn
   obtain ⟨k, rfl⟩ := Int.eq_ofNat_of_zero_le (show 0 ≤ c by omega)
   have hx' : Spec Tryz.prog 22 [s1, s2, N .i64 (128 * k)] (fun w => Rd w s2 (d.map (N .u8))) [] (IsV (.tuple [.slice none 0 0, N .i64 er].toArray)) := by
    rw [hn] at hx
    exact hx
   change Go _ _ [(0, s1), (1, s2), (2, N .i64 k)] _ _
   repeat (first|refine y_30 ?_|refine st_callV (by rfl) (by rfl) (by rfl) (hx') (RdW.old hr2) (by rfl) ?_|refine y_214 ?_|refine Z84 fun _ => ?_|refine Z85 fun _ => ?_)
   refine st_loop (ι := Nat) (fun _ => True) (fun _ => [(9, .slice none 0 0), (10, N .i64 er), (11, .slice none 0 0)]) (fun _ => []) (fun _ => 0) 0 trivial (by repeat (first|apply subL.nil|refine subL.cons (by rfl) ?_)) (by repeat (first|apply SubW.nil|refine y_8 ?_)) ?_
   intro _ _
   repeat (first|refine y_214 ?_|refine Z84 fun _ => ?_|refine Z85 fun _ => ?_)
   exact Ze2 fun _ hw => post_of hw SubW.nil ⟨rfl, rfl⟩
  ·rw [if_neg (by omega)] at hn
   subst hn
   obtain ⟨k, rfl⟩ := Int.eq_ofNat_of_zero_le (show 0 ≤ c by omega)
   change Go _ _ [(0, s1), (1, s2), (2, N .i64 k)] _ _
   repeat (first|refine y_205 ?_|refine st_callV (by rfl) (by rfl) (by rfl) (hx) (RdW.old hr2) (by rfl) ?_|refine y_108 ?_|refine Z84 fun _ => ?_|refine Z85 fun _ => ?_)
   refine st_loop (ι := Nat) (fun _ => True) (fun _ => [(9, .slice none 0 0), (10, N .i64 er), (11, .slice none 0 0)]) (fun _ => []) (fun _ => 0) 0 trivial (by repeat (first|apply subL.nil|refine subL.cons (by rfl) ?_)) (by repeat (first|apply SubW.nil|refine y_8 ?_)) ?_
   intro _ _
   repeat (first|refine y_214 ?_|refine Z84 fun _ => ?_|refine Z85 fun _ => ?_)
   exact Ze2 fun _ hw => post_of hw SubW.nil ⟨rfl, rfl⟩
 ·rw [if_neg (by omega)] at hn
  subst hn
  repeat (first|rw [decide_eq_false (p := Int.ofNat 1 ≤ c) h1]|refine st_callV (by rfl) (by rfl) (by rfl) (hx) (RdW.old hr2) (by rfl) ?_|refine y_108 ?_|refine Z84 fun _ => ?_|refine Z85 fun _ => ?_)
  refine st_loop (ι := Nat) (fun _ => True) (fun _ => [(9, .slice none 0 0), (10, N .i64 er), (11, .slice none 0 0)]) (fun _ => []) (fun _ => 0) 0 trivial (by repeat (first|apply subL.nil|refine subL.cons (by rfl) ?_)) (by repeat (first|apply SubW.nil|refine y_8 ?_)) ?_
  intro _ _
  repeat (first|refine y_214 ?_|refine Z84 fun _ => ?_|refine Z85 fun _ => ?_)
  exact Ze2 fun _ hw => post_of hw SubW.nil ⟨rfl, rfl⟩
end Go.Proofs.YtbpmbdlgmmabcaaGreat.L
namespace Go.Proofs.YtbpmbdlgmmabcaaGreat.L
open Go Go.Proofs
set_option maxRecDepth 100000
attribute [local irreducible] Code.wp wpList Af bodyPost L.Go
open Num
attribute [local simp] D_len octs_len
theorem put_plus {w x j : Nat} (h : w + x * 256 ^ j < W) : (w + x <<< (8 * j) % 18446744073709551616) % 18446744073709551616 = w + x * 256 ^ j := by
 have hW : W = 18446744073709551616 := rfl
 rw [Nat.shiftLeft_eq, Nat.pow_mul, show (2 : Nat) ^ 8 = 256 from rfl, Nat.mod_eq_of_lt (a := x * 256 ^ j) (by omega), Nat.mod_eq_of_lt (by omega)]
theorem y_113 {a b : Prop} (k : b) (h : Rm b → a := by intro k;(first|refine Z01 ?_|refine Z02 ?_|refine Z03 ?_|refine Z04 ?_|refine Z05 ?_|refine Z06 ?_|refine Z07 ?_|refine Z08 ?_|refine Z09 ?_|refine Z10 ?_|refine Z11 ?_|refine Z12 ?_|refine Z13 ?_|refine Z14 ?_|refine Z15 ?_|refine Z16 ?_|refine Z17 ?_|refine Z18 ?_|refine Z20 ?_|refine Z21 ?_|refine Z22 ?_|refine Z23 ?_|refine Z24 ?_|refine Z25 ?_|refine Z26 ?_|refine Z27 ?_|refine Z28 ?_|refine Z29 ?_|refine Z30 ?_|refine Z31 ?_|refine Z32 ?_|refine Z33 ?_|refine Z36 ?_|refine Z37 ?_|refine Z38 ?_|refine Z43 ?_|refine Z44 ?_|refine Z45 ?_|refine Z58 ?_|refine Z59 ?_|refine Z67 ?_|refine Z70 ?_|refine Z71 ?_|refine Z74 ?_|refine Z80 ?_);exact k.h) : a := h ⟨k⟩
set_option maxHeartbeats 1000000 in
theorem words3_spec (s : Value) (bs : List Nat) (hb : Lt 256 bs) (hl : bs.length < 16777216) :
  Spec Tryz.prog 27 [s] (fun w => Rd w s (bs.map (N .u8))) [] (fun v Wr => Wr = [.sl v ((D ((bs.length + 7) / 8) (bval bs)).map (N .u64)) 25]) := by
 refine mk_spec Tryz.func27 rfl rfl rfl fun w hr => ?_
 have hr := RdC.mk0 hr
 have hfit := words_fit hb
 obtain ⟨n, hn⟩ : ∃ n, n = (bs.length + 7) / 8 := ⟨_, rfl⟩
 rw [← hn] at hfit
 repeat (first|refine y_113 ?_|refine Z83 fun _ => ?_)
 rename_i u
 rw [← hn]
 refine st_loop (ι := Nat) (fun i => i ≤ bs.length) (fun i => [(0, s), (3, u), (4, N .i64 i)]) (fun i => [.sl u ((D n (hi8 (bval bs) (bs.length - i))).map (N .u64)) 25]) (fun i => bs.length - i) 0 (by omega) (by repeat (first|apply subL.nil|refine subL.cons (by rfl) ?_)) (by rw [Nat.sub_zero, hi8_all (bval_lt hb), D_zero]; exact (by repeat (first|apply SubW.nil|refine y_8 ?_))) ?_
 intro i hi
 have hDl := D_len n (hi8 (bval bs) (bs.length - i))
 repeat (first|refine y_113 ?_|refine Z83 fun _ => ?_)
 refine st_cond (by rfl) (fun h => ?_) (fun h => ?_)
 ·obtain ⟨k, hk⟩ : ∃ k, k = bs.length - 1 - i := ⟨_, rfl⟩
  have hk1 : bs.length - i = k + 1 := by omega
  rw [hk1] at hDl ⊢
  have hbi := hb.getD (by decide) i
  have hdig := bval_digit hb h
  rw [← hk] at hdig
  obtain ⟨_, p2, p3⟩ := put_byte (bval bs) k n (Nat.lt_of_le_of_lt (hi8_le _ _) hfit) (by omega)
  rw [hdig] at p2 p3
  have hwd := D_getD n (hi8 (bval bs) (k + 1)) (k / 8) (by omega)
  have hkl : k / 8 < n := by omega
  have hxm : bs.getD i 0 % 18446744073709551616 = bs.getD i 0 := Nat.mod_eq_of_lt (by omega)
  repeat (first|rw [← hk]|refine y_113 ?_|refine Z83 fun _ => ?_)
  refine st_draw1 (by rfl) ?_
  repeat (first|(refine Zqf (by intro _ _ _;(first|refine Z01 ?_|refine Z02 ?_|refine Z15 ?_|refine Z16 ?_|refine Z17 ?_|refine Z18 ?_|refine Z20 ?_|refine Z21 ?_|refine Z22 ?_|refine Z23 ?_|refine Z33 ?_|refine Z36 ?_|refine Z37 ?_|refine Z38 ?_|refine Z43 ?_|refine Z44 ?_|refine Z45 ?_|refine Z58 ?_|refine Z59 ?_|refine Z70 ?_|refine Z71 ?_|refine Z74 ?_|refine Z80 ?_);exact Zq) ?_)|refine y_190 ?_|refine y_185 ?_|refine Zqn ?_)
  refine Zq0 ?_ (by kernel_rfl)
  rw [hwd, hxm, Nat.mod_eq_of_lt (a := 8 * (k % 8)) (by omega), put_plus p2, ← p3]
  have hkk : k = bs.length - (i + 1) := by omega
  rw [hkk]
  repeat (first|refine y_113 ?_|refine Z83 fun _ => ?_)
  exact st_round (i + 1) (by omega) (by omega) (by repeat (first|apply subL.nil|refine subL.cons (by rfl) ?_)) (by repeat (first|apply SubW.nil|refine y_8 ?_))
 ·have hie : i = bs.length := by omega
  subst hie
  rw [Nat.sub_self, hi8_0]
  repeat (first|refine y_113 ?_|refine Z83 fun _ => ?_)
  refine Ze1 fun _ hw => post_of hw (Wout := [.sl u ((D n (bval bs)).map (N .u64)) 25]) ?_ rfl
  exact (by repeat (first|apply SubW.nil|refine y_8 ?_))
end Go.Proofs.YtbpmbdlgmmabcaaGreat.L
namespace Go.Proofs.YtbpmbdlgmmabcaaGreat.L
open Go Go.Proofs
set_option maxRecDepth 100000
attribute [local irreducible] Code.wp wpList Af bodyPost L.Go PartAt
open Num
attribute [local simp] D_len
theorem qwide64 (s : Value) (bs : List Nat) (h : Lt 256 bs) (hl : bs.length = 64) : Spec Tryz.prog 26 [s] (fun w => Rd w s ((D 8 (bval bs)).map (N .u64))) [] (IsV (LV .u64 (D 6 (bval bs % p)))) := by
 have := qwide_spec s (D 8 (bval bs)) (D_lt _ _) (by rw [D_len]; decide)
 rwa [w64 h hl] at this
theorem y_114 {a b : Prop} (k : b) (h : Rm b → a := by intro k;(first|refine Z01 ?_|refine Z02 ?_|refine Z03 ?_|refine Z04 ?_|refine Z05 ?_|refine Z06 ?_|refine Z07 ?_|refine Z08 ?_|refine Z09 ?_|refine Z10 ?_|refine Z11 ?_|refine Z12 ?_|refine Z13 ?_|refine Z14 ?_|refine Z15 ?_|refine Z17 ?_|refine Z18 ?_|refine Z19 ?_|refine Z24 ?_|refine Z25 ?_|refine Z26 ?_|refine Z27 ?_|refine Z28 ?_|refine Z29 ?_|refine Z30 ?_|refine Z31 ?_|refine Z32 ?_|refine Z36 ?_|refine Z49 ?_|refine Z50 ?_|refine Z51 ?_|refine Z52 ?_|refine Z53 ?_|refine Z62 ?_|refine Z63 ?_|refine Z64 ?_|refine Z65 ?_|refine Z67 ?_|refine Z70 ?_);exact k.h) : a := h ⟨k⟩
set_option maxHeartbeats 8000000 in
theorem rfields_ok (s1 s2 : Value) (m d : List Nat) (k : Nat) (hm : Lt 256 m) (hd : Lt 256 d) (hl1 : m.length < 1073741824) (h1 : 1 ≤ d.length) (h2 : d.length ≤ 255) (hk1 : 1 ≤ k) (hk : k ≤ 63) :
  Spec Tryz.prog 12 [s1, s2, N .i64 k] (fun w => Rd w s1 (m.map (N .u8)) ∧ Rd w s2 (d.map (N .u8))) [] (fun v W => ∃ x, v = .tuple [x, N .i64 0].toArray ∧ W = [.sl (wide 12 x) ((fels (xpand m d (128 * k)) k).flatten.map (N .u64)) 29]) := by
 refine mk_spec Tryz.func12 rfl rfl rfl fun w hr => ?_
 have hr1 := RdC.mk0 hr.1
 have hr2 := RdC.mk0 hr.2
 have hxl := xpand_len m d (128 * k)
 have hxb := xpand_lt m d (128 * k)
 repeat (first|refine y_30 ?_|(refine st_call (by rfl) (by rfl) (by rfl) (rxexpand_ok s1 s2 m d (128 * k) hm hd hl1 h1 h2 (by omega) (by omega)) .nil (fun w hw => ⟨RdW.old hr1 w hw, RdW.old hr2 w hw⟩) (by rfl) ?_; rintro _ _ ⟨x, rfl, rfl⟩)|refine y_25 ?_|refine Z01 ?_|refine Z02 ?_|refine Z03 ?_|refine Z04 ?_|refine Z05 ?_|refine Z06 ?_|refine Z07 ?_|refine Z08 ?_|refine Z09 ?_|refine Z10 ?_|refine Z11 ?_|refine Z12 ?_|refine Z13 ?_|refine Z14 ?_|refine Z15 ?_|refine Z17 ?_|refine Z18 ?_|refine Z19 ?_|refine Z24 ?_|refine Z25 ?_|refine Z26 ?_|refine Z27 ?_|refine Z28 ?_|refine Z29 ?_|refine Z30 ?_|refine Z31 ?_|refine Z32 ?_|refine Z36 ?_|refine Z49 ?_|refine Z50 ?_|refine Z51 ?_|refine Z52 ?_|refine Z53 ?_|refine Z62 ?_|refine Z63 ?_|refine Z64 ?_|refine Z65 ?_|refine Z67 ?_|refine Z70 ?_|refine Z82 fun _ => ?_|refine Z84 fun _ => ?_|refine Z85 fun _ => ?_)
 generalize xpand m d (128 * k) = b at *
 refine st_own_nilM 12 29 ?_
 refine st_loop (ι := Nat × Value) (fun q => q.1 ≤ k) (fun q => [(2, N .i64 k), (9, x), (11, q.2), (12, N .i64 q.1)]) (fun q => [.sl (wide 12 q.2) ((fels b q.1).flatten.map (N .u64)) 29, .sl x (b.map (N .u8)) 5]) (fun q => k - q.1) (0, .slice none 0 0) (by simp) (by repeat (first|apply subL.nil|refine subL.cons (by rfl) ?_)) (by simp only [fels_0]; exact (by repeat (first|apply SubW.nil|refine y_8 ?_))) ?_
 rintro ⟨i, u⟩ hi
 simp only at hi ⊢
 have hfs := fels_succ b i
 have hfl := fels_flat b i
 have hfl' := fels_len b i
 generalize hL : fels b i = L at *
 repeat (first|refine y_114 ?_|refine Z82 fun _ => ?_|refine Z84 fun _ => ?_|refine Z85 fun _ => ?_)
 refine st_cond (by rfl) (fun h => ?_) (fun h => ?_)
 ·have hfe := fel_def (b.drop (128 * i))
  have e1 : (b.drop (128 * i)).take 64 = (b.take (128 * i + 64)).drop (128 * i) := by rw [List.take_drop]
  have e2 : ((b.drop (128 * i)).take 128).drop 64 = (b.take (128 * i + 128)).drop (128 * i + 64) := by rw [List.take_drop, List.drop_drop]
  rw [e1, e2] at hfe
  have ha : ((b.take (128 * i + 64)).drop (128 * i)).length = 64 := by rw [List.length_drop, List.length_take, hxl]; omega
  have hc : ((b.take (128 * i + 128)).drop (128 * i + 64)).length = 64 := by rw [List.length_drop, List.length_take, hxl]; omega
  have hab : Lt 256 ((b.take (128 * i + 64)).drop (128 * i)) := fun y hy => hxb y (List.mem_of_mem_take (List.mem_of_mem_drop hy))
  have hcb : Lt 256 ((b.take (128 * i + 128)).drop (128 * i + 64)) := fun y hy => hxb y (List.mem_of_mem_take (List.mem_of_mem_drop hy))
  have hs1 : ∀ (c : Cx) (W : List Res), RdW c W x (b.map (N .u8)) → RdW c W (sub x (128 * i) (128 * i + 64)) (((b.take (128 * i + 64)).drop (128 * i)).map (N .u8)) := fun c W h => RdW.subN h (by omega) (by omega)
  have hs2 : ∀ (c : Cx) (W : List Res), RdW c W x (b.map (N .u8)) → RdW c W (sub x (128 * i + 64) (128 * i + 128)) (((b.take (128 * i + 128)).drop (128 * i + 64)).map (N .u8)) := fun c W h => RdW.subN h (by omega) (by omega)
  clear e1 e2
  generalize b.drop (128 * i) = e at *
  generalize (b.take (128 * i + 64)).drop (128 * i) = e1 at *
  generalize (b.take (128 * i + 128)).drop (128 * i + 64) = e2 at *
  have hw1 := fun s => words3_spec s e1 hab (by omega)
  have hw2 := fun s => words3_spec s e2 hcb (by omega)
  rw [ha] at hw1
  rw [hc] at hw2
  have hv1 := fun s => qwide64 s e1 hab ha
  have hv2 := fun s => qwide64 s e2 hcb hc
  have hE : ∀ y ∈ [fel e], y.length = 12 := fun y hy => by rw [List.mem_singleton.1 hy]; exact fel_len _
  have hE1 := flat12_len hE
  have hbd : (L.length + [fel e].length) * 96 ≤ 140737488355328 := by rw [hfl']; simp; omega
  have hbd2 : L.length + [fel e].length < 9223372036854775808 := by rw [hfl']; simp; omega
  have hone : 0 < [fel e].length := Nat.one_pos
  repeat (first|(refine y_35 ?_;intro _)|(refine st_build2 (by rfl) (by rfl) (by rfl) (by rfl) (by simp; done) (by simp; done) (by rfl) ?_; rw [← hfe])|refine y_71 ?_|refine y_65 ?_|(refine st_call (by rfl) (by rfl) (by rfl) (hw1 _) .nil (hs1 _ _ (RdW.own (by repeat first|apply Find.here|apply Find.there))) (by rfl) ?_; rintro x1 _ rfl)|(refine st_call (by rfl) (by rfl) (by rfl) (hw2 _) .nil (hs2 _ _ (RdW.own (by repeat first|apply Find.here|apply Find.there))) (by rfl) ?_; rintro x2 _ rfl)|refine y_28 (hv1 _) ?_|refine y_28 (hv2 _) ?_|refine st_buildSliceM (m := 12) (kk := .u64) (vss := [fel e]) (by rfl) (by rfl) (by rfl) (by rfl) (by rfl) (by rfl) (by rfl) hE (by rfl) (by rfl) fun _ => ?_|(refine st_append_M (m := 12) (kk := .u64) (xss := L) (yss := [fel e]) (by rfl) (by rfl) (by repeat first|apply Find.here|apply Find.there) (RdW.slv (by repeat first|apply Find.here|apply Find.there) hE1) (by rfl) (by rfl) (by rfl) (by rfl) (by decide) hfl hE1 hone hbd hbd2 (by rfl) fun _ => ?_; rw [← hfs])|refine y_114 ?_|refine Z82 fun _ => ?_|refine Z84 fun _ => ?_|refine Z85 fun _ => ?_)
  rename_i v9
  exact st_round (i + 1, v9) (by simp only; omega) (by simp only; omega) (by repeat (first|apply subL.nil|refine subL.cons (by rfl) ?_)) (by repeat (first|apply SubW.nil|refine y_8 ?_))
 ·have hik : i = k := by omega
  subst hik
  subst hL
  repeat (first|refine y_114 ?_|refine Z82 fun _ => ?_|refine Z84 fun _ => ?_|refine Z85 fun _ => ?_)
  exact Ze2 fun _ hw => post_of hw (Wout := [.sl (wide 12 u) ((fels b i).flatten.map (N .u64)) 29]) (by exact (by repeat (first|apply SubW.nil|refine y_8 ?_))) ⟨_, rfl, rfl⟩
theorem rfields_bad (s1 s2 : Value) (d : List Nat) (c n : Int) (er : Nat) (hn : n = if 1 ≤ c ∧ c ≤ 63 then 128 * c else 0) (her : 0 < er)
  (hx : Spec Tryz.prog 25 [s1, s2, .int .i64 n] (fun w => Rd w s2 (d.map (N .u8))) [] (IsV (.tuple [.slice none 0 0, N .i64 er].toArray))) :
  Spec Tryz.prog 12 [s1, s2, .int .i64 c] (fun w => Rd w s2 (d.map (N .u8))) [] (IsV (.tuple [.slice none 0 0, N .i64 er].toArray)) := by
 refine mk_spec Tryz.func12 rfl rfl rfl fun w hr => ?_
 have hr2 := RdC.mk0 hr
 by_cases h1 : (1 : Int) ≤ c
 ·by_cases h2 : c ≤ 63
  ·rw [if_pos ⟨h1, h2⟩] at hn
   obtain ⟨k, rfl⟩ := Int.eq_ofNat_of_zero_le (show 0 ≤ c by omega)
   have hx' : Spec Tryz.prog 25 [s1, s2, N .i64 (128 * k)] (fun w => Rd w s2 (d.map (N .u8))) [] (IsV (.tuple [.slice none 0 0, N .i64 er].toArray)) := by
    rw [hn] at hx
    exact hx
   change Go _ _ [(0, s1), (1, s2), (2, N .i64 k)] _ _
   repeat (first|refine y_30 ?_|refine st_callV (by rfl) (by rfl) (by rfl) (hx') (RdW.old hr2) (by rfl) ?_|refine y_114 ?_|refine Z82 fun _ => ?_|refine Z84 fun _ => ?_|refine Z85 fun _ => ?_)
   exact Ze2 fun _ hw => post_of hw SubW.nil ⟨rfl, rfl⟩
  ·rw [if_neg (by omega)] at hn
   subst hn
   obtain ⟨k, rfl⟩ := Int.eq_ofNat_of_zero_le (show 0 ≤ c by omega)
   change Go _ _ [(0, s1), (1, s2), (2, N .i64 k)] _ _
   repeat (first|refine y_205 ?_|refine st_callV (by rfl) (by rfl) (by rfl) (hx) (RdW.old hr2) (by rfl) ?_|refine y_114 ?_|refine Z82 fun _ => ?_|refine Z84 fun _ => ?_|refine Z85 fun _ => ?_)
   exact Ze2 fun _ hw => post_of hw SubW.nil ⟨rfl, rfl⟩
 ·rw [if_neg (by omega)] at hn
  subst hn
  repeat (first|rw [decide_eq_false (p := Int.ofNat 1 ≤ c) h1]|refine y_30 ?_|refine st_callV (by rfl) (by rfl) (by rfl) (hx) (RdW.old hr2) (by rfl) ?_|refine y_114 ?_|refine Z82 fun _ => ?_|refine Z84 fun _ => ?_|refine Z85 fun _ => ?_)
  exact Ze2 fun _ hw => post_of hw SubW.nil ⟨rfl, rfl⟩
end Go.Proofs.YtbpmbdlgmmabcaaGreat.L
namespace Go.Proofs.YtbpmbdlgmmabcaaGreat.L
open Go Go.Proofs
set_option maxRecDepth 100000
attribute [local irreducible] Code.wp wpList Af bodyPost L.Go PartAt
open Num
attribute [local simp] D_len
def ac : F2 := k2 0 240
def bc : F2 := k2 1012 1012
def zc : F2 := Kf.K2.neg (k2 2 1)
def pol (x : F2) : List F2 → F2
 | [] => Kf.K2.zero
 | c :: r => Kf.K2.add (Kf.K2.mul (pol x r) x) c
def side (x : F2) : F2 := pol x [bc, ac, Kf.K2.zero, Kf.K2.one]
theorem acE : List.replicate 6 0 ++ ([240] ++ List.replicate (6 - [240].length) 0) = E2 ac := by decide +kernel
theorem bcE : ([1012] ++ List.replicate (6 - [1012].length) 0) ++ ([1012] ++ List.replicate (6 - [1012].length) 0) = E2 bc := by decide +kernel
theorem y_115 {a b : Prop} (k : b) (h : Rm b → a := by intro k;refine st_buildP (kk := .u64) (vs := [240]) (by rfl) (by rfl) (by rfl) (by rfl) (by rfl) (by rfl) (by rfl) (by rfl) ?_;exact k.h) : a := h ⟨k⟩
theorem y_215 {a b : Prop} (k : b) (h : Rm b → a := by intro k;(first|refine y_115 ?_|refine y_96 ?_|refine y_98 ?_|refine Z03 ?_|refine Z04 ?_|refine Z05 ?_|refine Z06 ?_|refine Z07 ?_|refine Z08 ?_|refine Z09 ?_|refine Z10 ?_|refine Z11 ?_|refine Z12 ?_|refine Z13 ?_|refine Z14 ?_|refine Z29 ?_|refine Z30 ?_|refine Z31 ?_|refine Z32 ?_|refine Z65 ?_);exact k.h) : a := h ⟨k⟩
theorem ac_spec : Spec Tryz.prog 35 [] NoPre [] (IsV (LV .u64 (E2 ac))) := by
 refine mk_spec Tryz.func35 rfl rfl rfl fun w _ => ?_
 repeat (first|(refine y_62 ?_;intro _)|refine y_215 ?_|refine Z82 fun _ => ?_)
 refine Zec fun _ hw => post_of hw SubW.nil ⟨?_, rfl⟩
 rw [← acE]
theorem y_116 {a b : Prop} (k : b) (h : Rm b → a := by intro k;refine st_buildP (kk := .u64) (vs := [1012]) (by rfl) (by rfl) (by rfl) (by rfl) (by rfl) (by rfl) (by rfl) (by rfl) ?_;exact k.h) : a := h ⟨k⟩
theorem y_216 {a b : Prop} (k : b) (h : Rm b → a := by intro k;(first|refine y_116 ?_|refine y_65 ?_|refine y_96 ?_|refine Z03 ?_|refine Z04 ?_|refine Z05 ?_|refine Z06 ?_|refine Z07 ?_|refine Z08 ?_|refine Z09 ?_|refine Z10 ?_|refine Z11 ?_|refine Z12 ?_|refine Z13 ?_|refine Z14 ?_|refine Z29 ?_|refine Z30 ?_|refine Z31 ?_|refine Z32 ?_|refine Z65 ?_);exact k.h) : a := h ⟨k⟩
theorem bc_spec : Spec Tryz.prog 34 [] NoPre [] (IsV (LV .u64 (E2 bc))) := by
 refine mk_spec Tryz.func34 rfl rfl rfl fun w _ => ?_
 repeat (first|(refine y_62 ?_;intro _)|refine y_216 ?_|refine Z82 fun _ => ?_)
 refine Zec fun _ hw => post_of hw SubW.nil ⟨?_, rfl⟩
 rw [← bcE]
theorem y_117 {a b : Prop} (k : b) (h : Rm b → a := by intro k;refine st_buildP (kk := .u64) (vs := [2]) (by rfl) (by rfl) (by rfl) (by rfl) (by rfl) (by rfl) (by rfl) (by rfl) ?_; rw [two6];exact k.h) : a := h ⟨k⟩
theorem zc_spec : Spec Tryz.prog 31 [] NoPre [] (IsV (LV .u64 (E2 zc))) := by
 refine mk_spec Tryz.func31 rfl rfl rfl fun w _ => ?_
 have hl0 := fun x => D_len 6 x
 have hle := fun x : F2 => E2_len x
 have hn : Spec Tryz.prog 33 [LV .u64 (D 6 2 ++ D 6 1)] NoPre [] (IsV (LV .u64 (E2 zc))) := sneg_spec (by decide) (by decide)
 repeat (first|(refine y_62 ?_;intro _)|refine y_48 ?_|refine y_117 ?_|refine y_65 ?_|refine y_96 ?_|refine y_3 hn ?_|refine y_5 ?_|refine Z82 fun _ => ?_)
 refine Zec fun _ hw => post_of hw SubW.nil ⟨?_, rfl⟩
 rfl
theorem smulX {a b : Nat} (ha : a < W ^ 6) (hb : b < W ^ 6) (x : F2) : Spec Tryz.prog 29 [LV .u64 (E2 x), LV .u64 (D 6 a ++ D 6 b)] NoPre [] (IsV (LV .u64 (E2 (Kf.K2.mul x (k2 a b))))) := by
 have := smul_spec (val_lt x.re) (val_lt x.im) ha hb; rwa [k2_val] at this
theorem pol_drop (x : F2) {cs : List F2} {i : Nat} {c : F2} (h : cs[i]? = some c) : pol x (cs.drop i) = Kf.K2.add (Kf.K2.mul (pol x (cs.drop (i + 1))) x) c := by
 obtain ⟨h1, h2⟩ := List.getElem?_eq_some_iff.1 h
 rw [List.drop_eq_getElem_cons h1, h2]; rfl
set_option maxHeartbeats 4000000 in
theorem poly_spec {a e : Nat} (ha : a < W ^ 6) (he : e < W ^ 6) (b k : Nat) (cs : List F2) (hk : cs.length = k) (hk2 : k < 65536) :
  Spec Tryz.prog 28 [LV .u64 (D 6 a ++ D 6 e), slv b k] (fun w => HasB w b (LV .u64 (cs.map E2).flatten) 29) [] (IsV (LV .u64 (E2 (pol (k2 a e) cs)))) := by
 refine mk_spec Tryz.func28 rfl rfl rfl fun w hr => ?_
 have h1 := OldB.mk0 hr
 have hl0 := fun x => D_len 6 x
 have hle := fun x : F2 => E2_len x
 have hz12 := zero12
 have hm := fun x => smulX ha he x
 generalize k2 a e = x at hm
 have h12 : ∀ v ∈ cs.map E2, v.length = 12 := fun v hv => by
  obtain ⟨c, _, rfl⟩ := List.mem_map.1 hv
  exact hle c
 repeat (first|(refine y_62 ?_;intro _)|refine st_len_slv (by rfl) (by rfl) (by rfl) ?_|refine Z01 ?_|refine Z02 ?_|refine Z03 ?_|refine Z04 ?_|refine Z05 ?_|refine Z06 ?_|refine Z07 ?_|refine Z08 ?_|refine Z09 ?_|refine Z10 ?_|refine Z11 ?_|refine Z12 ?_|refine Z13 ?_|refine Z14 ?_|refine Z16 ?_|refine Z17 ?_|refine Z18 ?_|refine Z20 ?_|refine Z21 ?_|refine Z22 ?_|refine Z23 ?_|refine Z24 ?_|refine Z25 ?_|refine Z26 ?_|refine Z27 ?_|refine Z28 ?_|refine Z29 ?_|refine Z30 ?_|refine Z31 ?_|refine Z32 ?_|refine Z58 ?_|refine Z59 ?_|refine Z67 ?_|refine Z71 ?_|refine Z81 fun _ => ?_|refine Z82 fun _ => ?_)
 rename_i b2 b4
 refine st_loop (ι := Nat) (fun j => j ≤ k) (fun j => [(1, slv b k), (2, pt b2 0), (4, pt b4 0), (5, .int .i64 ((j : Int) - 1))])
  (fun j => [.blk b4 (LV .u64 (E2 (pol x (cs.drop j)))) 29, .blk b2 (LV .u64 (D 6 a ++ D 6 e)) 29]) (fun j => j) k (Nat.le_refl _) (by repeat (first|apply subL.nil|refine subL.cons (by rfl) ?_)) (by rw [← hk, List.drop_length, show pol x [] = Kf.K2.zero from rfl, ← hz12]; exact (by repeat (first|apply SubW.nil|refine y_8 ?_))) ?_
 intro j hj
 repeat (first|refine y_88 ?_|refine Z81 fun _ => ?_|refine Z82 fun _ => ?_)
 refine st_cond (by rfl) (fun h => ?_) (fun h => ?_)
 ·have h0 : (0 : Int) ≤ (j : Int) - 1 := h
  obtain ⟨i, rfl⟩ : ∃ i, j = i + 1 := ⟨j - 1, by omega⟩
  rw [show ((i + 1 : Nat) : Int) - 1 = Int.ofNat i by simp]
  obtain ⟨c, hc⟩ : ∃ c, cs[i]? = some c := ⟨cs[i]'(by omega), List.getElem?_eq_getElem (by omega)⟩
  have hpt : PartAt (cs.map E2).flatten (0 + i * 12) 12 (E2 c) := by
   rw [Nat.zero_add]; exact PartAt.nth h12 (by rw [List.getElem?_map, hc]; rfl)
  have had := saddE (Kf.K2.mul (pol x (cs.drop (i + 1))) x) c
  rw [← pol_drop x hc] at had
  repeat (first|refine y_88 ?_|refine Z81 fun _ => ?_|refine Z82 fun _ => ?_)
  refine st_draw1 (by rfl) ?_
  repeat (first|(refine Zqf (by intro _ _ _;(first|refine st_ia_slv (by rfl) (by rfl) (by rfl) (by rfl) (show i < k by omega) (by rfl) ?_|refine st_ldo (by rfl) (h1.shift (by assumption)) (by rfl) (by rfl) hpt (by rfl) ?_|refine y_89 ?_);exact Zq) ?_)|refine y_66 ?_|refine y_41 (hm (pol x (cs.drop (i + 1)))) ?_|refine y_41 had ?_|refine y_190 ?_|refine y_185 ?_|refine Zqn ?_)
  refine Zq0 ?_ (by kernel_rfl)
  repeat (first|refine y_88 ?_|refine Z81 fun _ => ?_|refine Z82 fun _ => ?_)
  refine st_round i (by omega) (by omega) ?_ (by repeat (first|apply SubW.nil|refine y_8 ?_))
  rw [show ((i : Int) - 1) = Int.ofNat i - Int.ofNat 1 from rfl]
  exact (by repeat (first|apply subL.nil|refine subL.cons (by rfl) ?_))
 ·have hp0 : ¬ (0 : Int) ≤ (j : Int) - 1 := h
  have hj0 : j = 0 := by omega
  subst hj0
  rw [List.drop_zero]
  repeat (first|refine y_88 ?_|refine Z81 fun _ => ?_|refine Z82 fun _ => ?_)
  refine Zec fun _ hw => post_of hw SubW.nil ⟨?_, rfl⟩
  rfl
theorem poly_len {cs : List F2} : ∀ v ∈ cs.map E2, v.length = 12 := fun v hv => by
 obtain ⟨c, _, rfl⟩ := List.mem_map.1 hv
 exact E2_len c
theorem oneE : D 6 1 ++ List.replicate 6 0 = E2 (Kf.K2.one : F2) := by decide +kernel
theorem y_118 {a b : Prop} (k : b) (h : Rm b → a := by intro k;refine st_build2a (by rfl) (by rfl) (by rfl) (by rfl) (by simp; done) (by rfl) ?_; rw [oneE];exact k.h) : a := h ⟨k⟩
theorem y_119 {a b : Prop} (k : b) (h : Rm b → a := by intro k;refine R.Zpn (by rfl) (by intro _ _ _;(first|refine Z81 fun _ => ?_|refine Z82 fun _ => ?_|refine Z85 fun _ => ?_);exact R.Zpx) ?_;exact k.h) : a := h ⟨k⟩
theorem side_spec {a e : Nat} (ha : a < W ^ 6) (he : e < W ^ 6) : Spec Tryz.prog 38 [LV .u64 (D 6 a ++ D 6 e)] NoPre [] (IsV (LV .u64 (E2 (side (k2 a e))))) := by
 refine mk_spec Tryz.func38 rfl rfl rfl fun w _ => ?_
 have hl0 := fun x => D_len 6 x
 have hle := fun x : F2 => E2_len x
 have hp : ∀ b, Spec Tryz.prog 28 [LV .u64 (D 6 a ++ D 6 e), slv b 4] (fun w => HasB w b (LV .u64 ([bc, ac, Kf.K2.zero, Kf.K2.one].map E2).flatten) 29) [] (IsV (LV .u64 (E2 (side (k2 a e))))) := fun b => poly_spec ha he b 4 [bc, ac, Kf.K2.zero, Kf.K2.one] rfl (by decide)
 generalize side (k2 a e) = r at hp
 repeat (first|(refine y_62 ?_;intro _)|refine y_63 ?_|refine Z81 fun _ => ?_|refine Z82 fun _ => ?_|refine Z85 fun _ => ?_)
 refine R.st_perm [0, 1, 2, 3, 4, 5, 6, 7, 8] (by rfl) ?_
 repeat (first|(refine R.Zpf (by rfl) (by intro _ _ _;(first|refine y_94 ?_|refine y_48 ?_|refine y_118 ?_|refine Z65 ?_);exact Zq) ?_)|refine y_202 ?_|(refine R.Zpp (by rfl) (by intro _ _ _;refine st_callV (by rfl) (by rfl) (by rfl) (bc_spec) (fun _ _ => trivial) (by rfl) ?_;exact Zq) ?_)|(refine R.Zpp (by rfl) (by intro _ _ _;refine st_callV (by rfl) (by rfl) (by rfl) (ac_spec) (fun _ _ => trivial) (by rfl) ?_;exact Zq) ?_)|(refine R.Zpp (by rfl) (by intro _ _ _;refine st_callV (by rfl) (by rfl) (by rfl) (hp _) (HasB.own (by repeat first|apply Find.here|apply Find.there)) (by rfl) ?_;exact Zq) ?_)|refine y_199 ?_|(refine R.Zpd (by rfl) (by intro _ _ _;(refine st_buildSliceM (m := 12) (kk := .u64) (vss := [bc, ac, Kf.K2.zero, Kf.K2.one].map E2) (by rfl) (by rfl) (by rfl) (by rfl) (by rfl) (by rfl) (by rfl) poly_len (by rfl) (by rfl) fun _ => ?_);exact R.Zpdx) fun _ => ?_)|(refine y_119 ?_;intro _)|refine R.Zpo (by rfl) ?_)
 refine R.Zp0 ?_
 repeat (first|refine y_63 ?_|refine Z81 fun _ => ?_|refine Z82 fun _ => ?_|refine Z85 fun _ => ?_)
 refine Zec fun _ hw => post_of hw SubW.nil ⟨?_, rfl⟩
 rfl
theorem sideE (x : F2) : Spec Tryz.prog 38 [LV .u64 (E2 x)] NoPre [] (IsV (LV .u64 (E2 (side x)))) := by
 have := side_spec (val_lt x.re) (val_lt x.im); rwa [k2_val] at this
def rootd (g : Nat) (x : F2) : F2 × Bool := (if Kf.K2.sgn (Kf.K2.sqrtP (side x)).1 = g then (Kf.K2.sqrtP (side x)).1 else Kf.K2.neg (Kf.K2.sqrtP (side x)).1, (Kf.K2.sqrtP (side x)).2)
theorem rootd_1 {g s : Nat} {x : F2} {r : F2 × Bool} (hr : r = Kf.K2.sqrtP (side x)) (hs : s = Kf.K2.sgn r.1) (h : s = g) : rootd g x = (r.1, r.2) := by
 subst hs
 subst hr
 rw [rootd, if_pos h]
theorem rootd_0 {g s : Nat} {x : F2} {r : F2 × Bool} (hr : r = Kf.K2.sqrtP (side x)) (hs : s = Kf.K2.sgn r.1) (h : ¬ s = g) : rootd g x = (Kf.K2.neg r.1, r.2) := by
 subst hs
 subst hr
 rw [rootd, if_neg h]
theorem y_120 {a b : Prop} (k : b) (h : Rm b → a := by intro k;(first|refine Z01 ?_|refine Z02 ?_|refine Z03 ?_|refine Z04 ?_|refine Z05 ?_|refine Z06 ?_|refine Z07 ?_|refine Z08 ?_|refine Z09 ?_|refine Z10 ?_|refine Z11 ?_|refine Z12 ?_|refine Z13 ?_|refine Z14 ?_|refine Z17 ?_|refine Z18 ?_|refine Z19 ?_|refine Z24 ?_|refine Z25 ?_|refine Z26 ?_|refine Z27 ?_|refine Z28 ?_|refine Z29 ?_|refine Z30 ?_|refine Z31 ?_|refine Z32 ?_|refine Z67 ?_);exact k.h) : a := h ⟨k⟩
set_option maxHeartbeats 4000000 in
theorem rooted_spec {a e : Nat} (ha : a < W ^ 6) (he : e < W ^ 6) (u : Nat) (x : F2) : Spec Tryz.prog 36 [LV .u64 (E2 x), pt u 0] (fun w => HasB w u (LV .u64 (D 6 a ++ D 6 e)) 29) [] (IsV (.tuple [LV .u64 (E2 (rootd (Kf.K2.sgn (k2 a e)) x).1), .bool (rootd (Kf.K2.sgn (k2 a e)) x).2].toArray)) := by
 refine mk_spec Tryz.func36 rfl rfl rfl fun w hr => ?_
 have h1 := OldB.mk0 hr
 have hl0 := fun x => D_len 6 x
 have hle := fun x : F2 => E2_len x
 have hsd := sideE x
 have hg := ssign_spec ha he
 generalize Kf.K2.sgn (k2 a e) = g at hg
 have hsq := sqrtE (side x)
 obtain ⟨r, hr⟩ : ∃ r, r = Kf.K2.sqrtP (side x) := ⟨_, rfl⟩
 rw [← hr] at hsq
 have hs1 := ssignE r.1
 obtain ⟨s, hs⟩ : ∃ s, s = Kf.K2.sgn r.1 := ⟨_, rfl⟩
 rw [← hs] at hs1
 have hR1 := rootd_1 (g := g) hr hs
 have hR0 := rootd_0 (g := g) hr hs
 clear hr hs
 generalize side x = y at hsd hsq
 obtain ⟨r1, r2⟩ := r
 simp only at hR1 hR0 hsq hs1
 have hn := snegE r1
 repeat (first|(refine y_62 ?_;intro _)|refine y_3 hsd ?_|refine y_3 hsq ?_|refine y_120 ?_|refine Z81 fun _ => ?_|refine Z82 fun _ => ?_)
 refine st_draw1 (by rfl) ?_
 repeat (first|(refine Zqf (by intro _ _ _;(first|(refine st_ldo (by rfl) ((h1).shift (by assumption)) (by rfl) (by rfl) (by first | (refine PartAt.l ?_; (simp; done)) | (refine PartAt.r ?_ ?_ <;> (simp; done)) | (refine PartAt.all ?_; (simp; done))) (by rfl) ?_)|refine Z01 ?_|refine Z02 ?_|refine Z17 ?_|refine Z18 ?_|refine Z19 ?_);exact Zq) ?_)|refine y_66 ?_|refine y_41 hs1 ?_|refine y_41 hg ?_|refine y_259 ?_)
 refine Zq0 ?_ (by kernel_rfl)
 repeat (first|refine y_120 ?_|refine Z81 fun _ => ?_|refine Z82 fun _ => ?_)
 refine st_cond (by rfl) (fun h => ?_) (fun h => ?_)
 ·rw [hR0 h]
  repeat (first|refine y_3 hn ?_|refine y_120 ?_|refine Z81 fun _ => ?_|refine Z82 fun _ => ?_)
  refine st_endc2_LV (by rfl) (by rfl) (by rfl) (by repeat first|apply Find.here|apply Find.there) (by rfl) (by rfl) (by first | with_reducible assumption | (simp [*]; done)) fun _ hw => post_of hw SubW.nil ⟨?_, rfl⟩
  rfl
 ·rw [hR1 (Classical.not_not.1 h)]
  repeat (first|refine y_120 ?_|refine Z81 fun _ => ?_|refine Z82 fun _ => ?_)
  refine st_endc2_LV (by rfl) (by rfl) (by rfl) (by repeat first|apply Find.here|apply Find.there) (by rfl) (by rfl) (by first | with_reducible assumption | (simp [*]; done)) fun _ hw => post_of hw SubW.nil ⟨?_, rfl⟩
  rfl
end Go.Proofs.YtbpmbdlgmmabcaaGreat.L
namespace Go.Proofs.YtbpmbdlgmmabcaaGreat.L
open Go Go.Proofs
set_option maxRecDepth 100000
attribute [local irreducible] Code.wp wpList Af bodyPost L.Go PartAt
open Num
attribute [local simp] D_len
def wz (u : F2) : F2 := Kf.K2.mul zc (Kf.K2.mul u u)
def tz (w : F2) : F2 := Kf.K2.add (Kf.K2.mul w w) w
def xone (w : F2) : F2 := if tz w = Kf.K2.zero then Kf.K2.mul bc (Kf.K2.inv (Kf.K2.mul zc ac)) else Kf.K2.mul (Kf.K2.neg (Kf.K2.mul bc (Kf.K2.inv ac))) (Kf.K2.add Kf.K2.one (Kf.K2.inv (tz w)))
theorem xone_1 {w t : F2} (ht : t = tz w) (h : t = Kf.K2.zero) : xone w = Kf.K2.mul bc (Kf.K2.inv (Kf.K2.mul zc ac)) := by
 subst ht
 exact if_pos h
theorem xone_0 {w t : F2} (ht : t = tz w) (h : ¬ t = Kf.K2.zero) : xone w = Kf.K2.mul (Kf.K2.neg (Kf.K2.mul bc (Kf.K2.inv ac))) (Kf.K2.add Kf.K2.one (Kf.K2.inv t)) := by
 subst ht
 exact if_neg h
def mapP (u : F2) : F2 × F2 :=
 if (rootd (Kf.K2.sgn u) (xone (wz u))).2 = true then (xone (wz u), (rootd (Kf.K2.sgn u) (xone (wz u))).1)
 else (Kf.K2.mul (wz u) (xone (wz u)), (rootd (Kf.K2.sgn u) (Kf.K2.mul (wz u) (xone (wz u)))).1)
theorem mapP_1 {u w x : F2} {r : F2 × Bool} (hw : w = wz u) (hx : x = xone w) (hr : r = rootd (Kf.K2.sgn u) x) (h : r.2 = true) : mapP u = (x, r.1) := by
 subst hw
 subst hx
 subst hr
 rw [mapP, if_pos h]
theorem mapP_0 {u w x : F2} {r s : F2 × Bool} (hw : w = wz u) (hx : x = xone w) (hr : r = rootd (Kf.K2.sgn u) x) (h : r.2 = false) (hs : s = rootd (Kf.K2.sgn u) (Kf.K2.mul w x)) : mapP u = (Kf.K2.mul w x, s.1) := by
 subst hw
 subst hx
 subst hr
 subst hs
 rw [mapP, if_neg (by rw [h]; decide)]
theorem y_121 {a b : Prop} (k : b) (h : Rm b → a := by intro k;(first|refine Z01 ?_|refine Z02 ?_|refine Z03 ?_|refine Z04 ?_|refine Z05 ?_|refine Z06 ?_|refine Z07 ?_|refine Z08 ?_|refine Z09 ?_|refine Z10 ?_|refine Z11 ?_|refine Z12 ?_|refine Z13 ?_|refine Z14 ?_|refine Z19 ?_|refine Z24 ?_|refine Z25 ?_|refine Z26 ?_|refine Z27 ?_|refine Z28 ?_|refine Z29 ?_|refine Z30 ?_|refine Z31 ?_|refine Z32 ?_|refine Z48 ?_|refine Z65 ?_|refine Z67 ?_|refine Z77 ?_|refine Z78 ?_|refine Z79 ?_);exact k.h) : a := h ⟨k⟩
theorem y_122 {a b : Prop} (k : b) (h : Rm b → a := by intro k;refine st_callV (by rfl) (by rfl) (by rfl) (bc_spec) (fun _ _ => trivial) (by rfl) ?_;exact k.h) : a := h ⟨k⟩
theorem y_123 {a b : Prop} (k : b) (h : Rm b → a := by intro k;refine st_callV (by rfl) (by rfl) (by rfl) (ac_spec) (fun _ _ => trivial) (by rfl) ?_;exact k.h) : a := h ⟨k⟩
theorem y_124 {S1 a b : Prop} (s1 : S1) (k : b) (h : S1 → Rm b → a := by intro s1 k;refine st_eq2v (hr := s1) (by rfl) (by rfl) (by rfl) (by kernel_rfl) (by rfl) (by rfl) (by rfl) (by rfl) (by rfl) (by rfl) (by rfl) (by rfl) (by rfl) (by rfl) (by kernel_rfl) (by simp; done) (by simp; done) (by simp; done) (by simp; done) (by rfl) ?_;exact k.h) : a := h s1 ⟨k⟩
theorem y_217 {a b : Prop} (k : b) (h : Rm b → a := by intro k;(first|refine y_96 ?_|refine y_72 ?_|refine y_73 ?_|refine Z01 ?_|refine Z02 ?_|refine Z19 ?_|refine Z48 ?_|refine Z65 ?_|refine Z77 ?_|refine Z78 ?_|refine Z79 ?_);exact k.h) : a := h ⟨k⟩
theorem y_218 {a b : Prop} (k : b) (h : Rm b → a := by intro k;(first|refine y_122 ?_|refine y_123 ?_|refine st_callV (by rfl) (by rfl) (by rfl) (zc_spec) (fun _ _ => trivial) (by rfl) ?_);exact k.h) : a := h ⟨k⟩
set_option maxHeartbeats 8000000 in
theorem map_spec {a e : Nat} (ha : a < W ^ 6) (he : e < W ^ 6) : Spec Tryz.prog 15 [LV .u64 (D 6 a ++ D 6 e)] NoPre [] (IsV (.tuple [LV .u64 (E2 (mapP (k2 a e)).1), LV .u64 (E2 (mapP (k2 a e)).2)].toArray)) := by
 refine mk_spec Tryz.func15 rfl rfl rfl fun w _ => ?_
 have hl0 := fun x => D_len 6 x
 have hle := fun x : F2 => E2_len x
 have hm1 := smul_spec ha he ha he
 obtain ⟨u, hu⟩ : ∃ u : F2, u = k2 a e := ⟨_, rfl⟩
 have hug : Kf.K2.sgn (k2 a e) = Kf.K2.sgn u := by rw [hu]
 obtain ⟨g, hg⟩ : ∃ g, g = Kf.K2.sgn u := ⟨_, rfl⟩
 have hgu := hg
 rw [← hg] at hug
 rw [← hu] at hm1 ⊢
 clear hu hg
 have hm2 := smulE zc (Kf.K2.mul u u)
 generalize hq : Kf.K2.mul u u = q at hm1 hm2
 obtain ⟨w1, hw1⟩ : ∃ w1 : F2, w1 = Kf.K2.mul zc q := ⟨_, rfl⟩
 rw [← hw1] at hm2
 have hw : w1 = wz u := by rw [hw1, ← hq]; rfl
 clear hw1 hq
 have hww := smulE w1 w1
 have hwt := saddE (Kf.K2.mul w1 w1) w1
 generalize hv : Kf.K2.mul w1 w1 = v at hww hwt
 obtain ⟨t, ht1⟩ : ∃ t : F2, t = Kf.K2.add v w1 := ⟨_, rfl⟩
 rw [← ht1] at hwt
 have ht : t = tz w1 := by rw [ht1, ← hv]; rfl
 clear ht1 hv
 have hia := sinvE ac
 have hba := smulE bc (Kf.K2.inv ac)
 have hnb := snegE (Kf.K2.mul bc (Kf.K2.inv ac))
 have hX1 := xone_1 ht
 have hX0 := xone_0 ht
 generalize Kf.K2.neg (Kf.K2.mul bc (Kf.K2.inv ac)) = c0 at hnb hX0
 generalize Kf.K2.mul bc (Kf.K2.inv ac) = c1 at hba hnb
 generalize Kf.K2.inv ac = c2 at hia hba
 clear ht
 repeat (first|(refine y_62 ?_;intro _)|refine y_121 ?_|refine Z81 fun _ => ?_|refine Z82 fun _ => ?_)
 refine R.st_perm [0, 1, 2, 3, 4, 5, 6] (by rfl) ?_
 repeat (first|(refine R.Zpf (by rfl) (by intro _ _ _;(first|refine y_217 ?_);exact Zq) ?_)|refine y_202 ?_|refine y_68 ?_|(refine R.Zpp (by rfl) (by intro _ _ _;refine st_callV (by rfl) (by rfl) (by rfl) (zc_spec) (fun _ _ => trivial) (by rfl) ?_;exact Zq) ?_)|refine y_69 hm1 ?_|refine y_69 hm2 ?_|refine y_199 ?_|(refine y_102 ?_;intro _)|(refine y_60 ?_;intro _)|refine R.Zpo (by rfl) ?_)
 refine R.Zp0 ?_
 repeat (first|refine y_121 ?_|refine Z81 fun _ => ?_|refine Z82 fun _ => ?_)
 refine R.st_perm [0, 1, 2, 3, 4, 5, 6] (by rfl) ?_
 repeat (first|(refine R.Zpf (by rfl) (by intro _ _ _;(first|refine y_217 ?_);exact Zq) ?_)|refine y_202 ?_|refine y_68 ?_|refine y_69 hww ?_|refine y_69 hwt ?_|refine y_199 ?_|(refine y_102 ?_;intro _)|(refine y_60 ?_;intro _)|refine R.Zpo (by rfl) ?_)
 refine R.Zp0 ?_
 repeat (first|(refine y_62 ?_;intro _)|refine y_122 ?_|refine y_123 ?_|refine y_3 hia ?_|refine y_3 hba ?_|refine y_3 hnb ?_|refine y_94 ?_|refine y_124 (E2_iff t Kf.K2.zero) ?_|refine y_121 ?_|refine Z81 fun _ => ?_|refine Z82 fun _ => ?_)
 refine st_cond (by rfl) (fun h => ?_) (fun h => ?_)
 ·have hza := smulE zc ac
  have hzi := sinvE (Kf.K2.mul zc ac)
  have hzb := smulE bc (Kf.K2.inv (Kf.K2.mul zc ac))
  obtain ⟨x1, hxx⟩ : ∃ x1 : F2, x1 = Kf.K2.mul bc (Kf.K2.inv (Kf.K2.mul zc ac)) := ⟨_, rfl⟩
  have hx1 : x1 = xone w1 := hxx.trans (hX1 h).symm
  rw [← hxx] at hzb
  generalize Kf.K2.inv (Kf.K2.mul zc ac) = d1 at hzi hzb
  generalize Kf.K2.mul zc ac = d2 at hza hzi
  clear hxx hX1 hX0
  have hr1 := fun u => rooted_spec ha he u x1
  rw [hug] at hr1
  obtain ⟨r, hr⟩ : ∃ r, r = rootd g x1 := ⟨_, rfl⟩
  rw [← hr] at hr1
  have hm3 := smulE w1 x1
  obtain ⟨x2, hx2⟩ : ∃ x2 : F2, x2 = Kf.K2.mul w1 x1 := ⟨_, rfl⟩
  rw [← hx2] at hm3
  have hr2 := fun u => rooted_spec ha he u x2
  rw [hug] at hr2
  obtain ⟨s, hs⟩ : ∃ s, s = rootd g x2 := ⟨_, rfl⟩
  rw [← hs] at hr2
  have hM1 := fun h => mapP_1 hw hx1 (hr.trans (by rw [hgu])) h
  have hM0 := fun h => mapP_0 hw hx1 (hr.trans (by rw [hgu])) h (hs.trans (by rw [hgu, hx2]))
  rw [← hx2] at hM0
  clear hr hx2 hs hw hx1 hug hgu
  obtain ⟨r1, r2⟩ := r
  obtain ⟨s1, s2⟩ := s
  simp only at hM1 hM0 hr1 hr2
  cases r2 with
  | true =>
   rw [hM1 rfl]
   clear hM1 hM0
   repeat (first|refine y_218 ?_|refine y_3 hza ?_|refine y_3 hzi ?_|refine y_3 hzb ?_|refine y_121 ?_|refine Z81 fun _ => ?_|refine Z82 fun _ => ?_)
   repeat (first|(refine y_62 ?_;intro _)|refine y_95 (hr1 _) ?_|refine y_121 ?_|refine Z81 fun _ => ?_|refine Z82 fun _ => ?_)
   refine R.st_perm [0, 1, 2, 3] (by rfl) ?_
   refine R.Zpp (by rfl) (by intro _ _ _;(first|refine y_47 ?_);exact Zq) ?_
   refine R.Zpls [2, 3] [1, 3] (by rfl) (by rfl) (by intro _ _ _;(first|refine y_47 ?_);exact Zq) (by intro _ _ _;(first|refine y_10 ?_);exact Zqq) ?_ ?_
   case' refine_1 => refine R.Zps (by rfl) (by intro _ _ _;(first|refine y_10 ?_);exact Zqq) ?_
   case' refine_2 => refine R.Zple (by rfl) (by intro _ _ _;(first|refine y_47 ?_);exact Zq) ?_
   all_goals refine R.Zps (by rfl) (by intro _ _ _;(first|refine y_10 ?_);exact Zqq) ?_
   all_goals refine R.Zp0 ?_
   all_goals
    repeat (first|refine y_121 ?_|refine Z81 fun _ => ?_|refine Z82 fun _ => ?_)
    refine st_endc2c_LV (by rfl) (by rfl) (by rfl) (by repeat first|apply Find.here|apply Find.there) (by repeat first|apply Find.here|apply Find.there) (by rfl) (by rfl) (by first | with_reducible assumption | (simp [*]; done)) (by rfl) (by rfl) (by first | with_reducible assumption | (simp [*]; done)) fun _ hw => post_of hw SubW.nil ⟨?_, rfl⟩
    rfl
  | false =>
   rw [hM0 rfl]
   clear hM1 hM0
   repeat (first|refine y_218 ?_|refine y_3 hza ?_|refine y_3 hzi ?_|refine y_3 hzb ?_|refine y_121 ?_|refine Z81 fun _ => ?_|refine Z82 fun _ => ?_)
   repeat (first|(refine y_62 ?_;intro _)|refine y_95 (hr1 _) ?_|refine y_3 hm3 ?_|refine y_95 (hr2 _) ?_|refine y_121 ?_|refine Z81 fun _ => ?_|refine Z82 fun _ => ?_)
   refine R.st_perm [0, 1, 2, 3] (by rfl) ?_
   refine R.Zpp (by rfl) (by intro _ _ _;(first|refine y_47 ?_);exact Zq) ?_
   refine R.Zpls [2, 3] [1, 3] (by rfl) (by rfl) (by intro _ _ _;(first|refine y_47 ?_);exact Zq) (by intro _ _ _;(first|refine y_10 ?_);exact Zqq) ?_ ?_
   case' refine_1 => refine R.Zps (by rfl) (by intro _ _ _;(first|refine y_10 ?_);exact Zqq) ?_
   case' refine_2 => refine R.Zple (by rfl) (by intro _ _ _;(first|refine y_47 ?_);exact Zq) ?_
   all_goals refine R.Zps (by rfl) (by intro _ _ _;(first|refine y_10 ?_);exact Zqq) ?_
   all_goals refine R.Zp0 ?_
   all_goals
    repeat (first|refine y_121 ?_|refine Z81 fun _ => ?_|refine Z82 fun _ => ?_)
    refine st_endc2c_LV (by rfl) (by rfl) (by rfl) (by repeat first|apply Find.here|apply Find.there) (by repeat first|apply Find.here|apply Find.there) (by rfl) (by rfl) (by first | with_reducible assumption | (simp [*]; done)) (by rfl) (by rfl) (by first | with_reducible assumption | (simp [*]; done)) fun _ hw => post_of hw SubW.nil ⟨?_, rfl⟩
    rfl
 ·have hit := sinvE t
  have hio := saddE Kf.K2.one (Kf.K2.inv t)
  have him := smulE c0 (Kf.K2.add Kf.K2.one (Kf.K2.inv t))
  obtain ⟨x1, hxx⟩ : ∃ x1 : F2, x1 = Kf.K2.mul c0 (Kf.K2.add Kf.K2.one (Kf.K2.inv t)) := ⟨_, rfl⟩
  have hx1 : x1 = xone w1 := hxx.trans (hX0 h).symm
  rw [← hxx] at him
  generalize Kf.K2.add Kf.K2.one (Kf.K2.inv t) = d1 at hio him
  generalize Kf.K2.inv t = d2 at hit hio
  clear hxx hX1 hX0
  repeat (first|refine y_121 ?_|refine Z81 fun _ => ?_|refine Z82 fun _ => ?_)
  refine st_draw1 (by rfl) ?_
  repeat (first|(refine Zqf (by intro _ _ _;(first|refine y_48 ?_|refine y_118 ?_|refine y_96 ?_|refine y_72 ?_|refine y_73 ?_|refine Z01 ?_|refine Z02 ?_|refine Z19 ?_|refine Z48 ?_|refine Z65 ?_|refine Z77 ?_|refine Z78 ?_|refine Z79 ?_);exact Zq) ?_)|refine y_66 ?_|refine y_41 hit ?_|refine y_41 hio ?_|refine y_41 him ?_|refine y_259 ?_)
  refine Zq0 ?_ (by kernel_rfl)
  have hr1 := fun u => rooted_spec ha he u x1
  rw [hug] at hr1
  obtain ⟨r, hr⟩ : ∃ r, r = rootd g x1 := ⟨_, rfl⟩
  rw [← hr] at hr1
  have hm3 := smulE w1 x1
  obtain ⟨x2, hx2⟩ : ∃ x2 : F2, x2 = Kf.K2.mul w1 x1 := ⟨_, rfl⟩
  rw [← hx2] at hm3
  have hr2 := fun u => rooted_spec ha he u x2
  rw [hug] at hr2
  obtain ⟨s, hs⟩ : ∃ s, s = rootd g x2 := ⟨_, rfl⟩
  rw [← hs] at hr2
  have hM1 := fun h => mapP_1 hw hx1 (hr.trans (by rw [hgu])) h
  have hM0 := fun h => mapP_0 hw hx1 (hr.trans (by rw [hgu])) h (hs.trans (by rw [hgu, hx2]))
  rw [← hx2] at hM0
  clear hr hx2 hs hw hx1 hug hgu
  obtain ⟨r1, r2⟩ := r
  obtain ⟨s1, s2⟩ := s
  simp only at hM1 hM0 hr1 hr2
  cases r2 with
  | true =>
   rw [hM1 rfl]
   clear hM1 hM0
   repeat (first|refine y_121 ?_|refine Z81 fun _ => ?_|refine Z82 fun _ => ?_)
   repeat (first|(refine y_62 ?_;intro _)|refine y_95 (hr1 _) ?_|refine y_121 ?_|refine Z81 fun _ => ?_|refine Z82 fun _ => ?_)
   refine R.st_perm [0, 1, 2, 3] (by rfl) ?_
   refine R.Zpp (by rfl) (by intro _ _ _;(first|refine y_47 ?_);exact Zq) ?_
   refine R.Zpls [2, 3] [1, 3] (by rfl) (by rfl) (by intro _ _ _;(first|refine y_47 ?_);exact Zq) (by intro _ _ _;(first|refine y_10 ?_);exact Zqq) ?_ ?_
   case' refine_1 => refine R.Zps (by rfl) (by intro _ _ _;(first|refine y_10 ?_);exact Zqq) ?_
   case' refine_2 => refine R.Zple (by rfl) (by intro _ _ _;(first|refine y_47 ?_);exact Zq) ?_
   all_goals refine R.Zps (by rfl) (by intro _ _ _;(first|refine y_10 ?_);exact Zqq) ?_
   all_goals refine R.Zp0 ?_
   all_goals
    repeat (first|refine y_121 ?_|refine Z81 fun _ => ?_|refine Z82 fun _ => ?_)
    refine st_endc2c_LV (by rfl) (by rfl) (by rfl) (by repeat first|apply Find.here|apply Find.there) (by repeat first|apply Find.here|apply Find.there) (by rfl) (by rfl) (by first | with_reducible assumption | (simp [*]; done)) (by rfl) (by rfl) (by first | with_reducible assumption | (simp [*]; done)) fun _ hw => post_of hw SubW.nil ⟨?_, rfl⟩
    rfl
  | false =>
   rw [hM0 rfl]
   clear hM1 hM0
   repeat (first|refine y_121 ?_|refine Z81 fun _ => ?_|refine Z82 fun _ => ?_)
   repeat (first|(refine y_62 ?_;intro _)|refine y_95 (hr1 _) ?_|refine y_3 hm3 ?_|refine y_95 (hr2 _) ?_|refine y_121 ?_|refine Z81 fun _ => ?_|refine Z82 fun _ => ?_)
   refine R.st_perm [0, 1, 2, 3] (by rfl) ?_
   refine R.Zpp (by rfl) (by intro _ _ _;(first|refine y_47 ?_);exact Zq) ?_
   refine R.Zpls [2, 3] [1, 3] (by rfl) (by rfl) (by intro _ _ _;(first|refine y_47 ?_);exact Zq) (by intro _ _ _;(first|refine y_10 ?_);exact Zqq) ?_ ?_
   case' refine_1 => refine R.Zps (by rfl) (by intro _ _ _;(first|refine y_10 ?_);exact Zqq) ?_
   case' refine_2 => refine R.Zple (by rfl) (by intro _ _ _;(first|refine y_47 ?_);exact Zq) ?_
   all_goals refine R.Zps (by rfl) (by intro _ _ _;(first|refine y_10 ?_);exact Zqq) ?_
   all_goals refine R.Zp0 ?_
   all_goals
    repeat (first|refine y_121 ?_|refine Z81 fun _ => ?_|refine Z82 fun _ => ?_)
    refine st_endc2c_LV (by rfl) (by rfl) (by rfl) (by repeat first|apply Find.here|apply Find.there) (by repeat first|apply Find.here|apply Find.there) (by rfl) (by rfl) (by first | with_reducible assumption | (simp [*]; done)) (by rfl) (by rfl) (by first | with_reducible assumption | (simp [*]; done)) fun _ hw => post_of hw SubW.nil ⟨?_, rfl⟩
    rfl
end Go.Proofs.YtbpmbdlgmmabcaaGreat.L
namespace Go.Proofs.YtbpmbdlgmmabcaaGreat.L
open Go Go.Proofs
set_option maxRecDepth 100000
attribute [local irreducible] Code.wp wpList Af bodyPost L.Go PartAt
open Num
attribute [local simp] D_len
def c10 : F2 := k2 889424345604814976315064405719089812568196182208668418962679585805340366775741747653930584250892369786198727235542 889424345604814976315064405719089812568196182208668418962679585805340366775741747653930584250892369786198727235542
theorem c10E : ([7077594464397203414, 6640057249351452444, 9850925049107374429, 3658379999393219626, 13500519111022079365, 416399692810564414] ++ List.replicate (6 - [7077594464397203414, 6640057249351452444, 9850925049107374429, 3658379999393219626, 13500519111022079365, 416399692810564414].length) 0) ++ ([7077594464397203414, 6640057249351452444, 9850925049107374429, 3658379999393219626, 13500519111022079365, 416399692810564414] ++ List.replicate (6 - [7077594464397203414, 6640057249351452444, 9850925049107374429, 3658379999393219626, 13500519111022079365, 416399692810564414].length) 0) = E2 c10 := by decide +kernel
def c11 : F2 := k2 0 2668273036814444928945193217157269437704588546626005256888038757416021100327225242961791752752677109358596181706522
theorem c11E : ([0, 0, 0, 0, 0, 0] ++ List.replicate (6 - [0, 0, 0, 0, 0, 0].length) 0) ++ ([2786039319482058522, 1473427674344805717, 11106031073612571672, 10975139998179658879, 3608069185647134863, 1249199078431693244] ++ List.replicate (6 - [2786039319482058522, 1473427674344805717, 11106031073612571672, 10975139998179658879, 3608069185647134863, 1249199078431693244].length) 0) = E2 c11 := by decide +kernel
def c12 : F2 := k2 2668273036814444928945193217157269437704588546626005256888038757416021100327225242961791752752677109358596181706526 1334136518407222464472596608578634718852294273313002628444019378708010550163612621480895876376338554679298090853261
theorem c12E : ([2786039319482058526, 1473427674344805717, 11106031073612571672, 10975139998179658879, 3608069185647134863, 1249199078431693244] ++ List.replicate (6 - [2786039319482058526, 1473427674344805717, 11106031073612571672, 10975139998179658879, 3608069185647134863, 1249199078431693244].length) 0) ++ ([10616391696595805069, 736713837172402858, 14776387573661061644, 14710942035944605247, 1804034592823567431, 624599539215846622] ++ List.replicate (6 - [10616391696595805069, 736713837172402858, 14776387573661061644, 14710942035944605247, 1804034592823567431, 624599539215846622].length) 0) = E2 c12 := by decide +kernel
def c13 : F2 := k2 3557697382419259905260257622876359250272784728834673675850718343221361467102966990615722337003569479144794908942033 0
theorem c13E : ([9863633783879261905, 8113484923696258161, 2510212049010394485, 14633519997572878506, 17108588296669214228, 1665598771242257658] ++ List.replicate (6 - [9863633783879261905, 8113484923696258161, 2510212049010394485, 14633519997572878506, 17108588296669214228, 1665598771242257658].length) 0) ++ ([0, 0, 0, 0, 0, 0] ++ List.replicate (6 - [0, 0, 0, 0, 0, 0].length) 0) = E2 c13 := by decide +kernel
def c20 : F2 := k2 0 4002409555221667393417789825735904156556882819939007885332058136124031650490837864442687629129015664037894272559715
theorem c20E : ([0, 0, 0, 0, 0, 0] ++ List.replicate (6 - [0, 0, 0, 0, 0, 0].length) 0) ++ ([13402431016077863523, 2210141511517208575, 7435674573564081700, 7239337960414712511, 5412103778470702295, 1873798617647539866] ++ List.replicate (6 - [13402431016077863523, 2210141511517208575, 7435674573564081700, 7239337960414712511, 5412103778470702295, 1873798617647539866].length) 0) = E2 c20 := by decide +kernel
def c21 : F2 := k2 12 4002409555221667393417789825735904156556882819939007885332058136124031650490837864442687629129015664037894272559775
theorem c21E : ([12, 0, 0, 0, 0, 0] ++ List.replicate (6 - [12, 0, 0, 0, 0, 0].length) 0) ++ ([13402431016077863583, 2210141511517208575, 7435674573564081700, 7239337960414712511, 5412103778470702295, 1873798617647539866] ++ List.replicate (6 - [13402431016077863583, 2210141511517208575, 7435674573564081700, 7239337960414712511, 5412103778470702295, 1873798617647539866].length) 0) = E2 c21 := by decide +kernel
def c22 : F2 := k2 1 0
theorem c22E : ([1, 0, 0, 0, 0, 0] ++ List.replicate (6 - [1, 0, 0, 0, 0, 0].length) 0) ++ ([0, 0, 0, 0, 0, 0] ++ List.replicate (6 - [0, 0, 0, 0, 0, 0].length) 0) = E2 c22 := by decide +kernel
def c30 : F2 := k2 3261222600550988246488569487636662646083386001431784202863158481286248011511053074731078808919938689216061999863558 3261222600550988246488569487636662646083386001431784202863158481286248011511053074731078808919938689216061999863558
theorem c30E : ([1355520937843676934, 18197961889718808424, 17673314439684154624, 1116230615302104219, 6459500568425337235, 1526798873638736187] ++ List.replicate (6 - [1355520937843676934, 18197961889718808424, 17673314439684154624, 1116230615302104219, 6459500568425337235, 1526798873638736187].length) 0) ++ ([1355520937843676934, 18197961889718808424, 17673314439684154624, 1116230615302104219, 6459500568425337235, 1526798873638736187] ++ List.replicate (6 - [1355520937843676934, 18197961889718808424, 17673314439684154624, 1116230615302104219, 6459500568425337235, 1526798873638736187].length) 0) = E2 c30 := by decide +kernel
def c31 : F2 := k2 0 889424345604814976315064405719089812568196182208668418962679585805340366775741747653930584250892369786198727235518
theorem c31E : ([0, 0, 0, 0, 0, 0] ++ List.replicate (6 - [0, 0, 0, 0, 0, 0].length) 0) ++ ([7077594464397203390, 6640057249351452444, 9850925049107374429, 3658379999393219626, 13500519111022079365, 416399692810564414] ++ List.replicate (6 - [7077594464397203390, 6640057249351452444, 9850925049107374429, 3658379999393219626, 13500519111022079365, 416399692810564414].length) 0) = E2 c31 := by decide +kernel
def c32 : F2 := k2 2668273036814444928945193217157269437704588546626005256888038757416021100327225242961791752752677109358596181706524 1334136518407222464472596608578634718852294273313002628444019378708010550163612621480895876376338554679298090853263
theorem c32E : ([2786039319482058524, 1473427674344805717, 11106031073612571672, 10975139998179658879, 3608069185647134863, 1249199078431693244] ++ List.replicate (6 - [2786039319482058524, 1473427674344805717, 11106031073612571672, 10975139998179658879, 3608069185647134863, 1249199078431693244].length) 0) ++ ([10616391696595805071, 736713837172402858, 14776387573661061644, 14710942035944605247, 1804034592823567431, 624599539215846622] ++ List.replicate (6 - [10616391696595805071, 736713837172402858, 14776387573661061644, 14710942035944605247, 1804034592823567431, 624599539215846622].length) 0) = E2 c32 := by decide +kernel
def c33 : F2 := k2 2816510427748580758331037284777117739799287910327449993381818688383577828123182200904113516794492504322962636245776 0
theorem c33E : ([16263467779354626832, 5654561228188306393, 12747851915130467410, 8510412652460270214, 18155985086623849168, 1318599027233453979] ++ List.replicate (6 - [16263467779354626832, 5654561228188306393, 12747851915130467410, 8510412652460270214, 18155985086623849168, 1318599027233453979].length) 0) ++ ([0, 0, 0, 0, 0, 0] ++ List.replicate (6 - [0, 0, 0, 0, 0, 0].length) 0) = E2 c33 := by decide +kernel
def c40 : F2 := k2 4002409555221667393417789825735904156556882819939007885332058136124031650490837864442687629129015664037894272559355 4002409555221667393417789825735904156556882819939007885332058136124031650490837864442687629129015664037894272559355
theorem c40E : ([13402431016077863163, 2210141511517208575, 7435674573564081700, 7239337960414712511, 5412103778470702295, 1873798617647539866] ++ List.replicate (6 - [13402431016077863163, 2210141511517208575, 7435674573564081700, 7239337960414712511, 5412103778470702295, 1873798617647539866].length) 0) ++ ([13402431016077863163, 2210141511517208575, 7435674573564081700, 7239337960414712511, 5412103778470702295, 1873798617647539866] ++ List.replicate (6 - [13402431016077863163, 2210141511517208575, 7435674573564081700, 7239337960414712511, 5412103778470702295, 1873798617647539866].length) 0) = E2 c40 := by decide +kernel
def c41 : F2 := k2 0 4002409555221667393417789825735904156556882819939007885332058136124031650490837864442687629129015664037894272559571
theorem c41E : ([0, 0, 0, 0, 0, 0] ++ List.replicate (6 - [0, 0, 0, 0, 0, 0].length) 0) ++ ([13402431016077863379, 2210141511517208575, 7435674573564081700, 7239337960414712511, 5412103778470702295, 1873798617647539866] ++ List.replicate (6 - [13402431016077863379, 2210141511517208575, 7435674573564081700, 7239337960414712511, 5412103778470702295, 1873798617647539866].length) 0) = E2 c41 := by decide +kernel
def c42 : F2 := k2 18 4002409555221667393417789825735904156556882819939007885332058136124031650490837864442687629129015664037894272559769
theorem c42E : ([18, 0, 0, 0, 0, 0] ++ List.replicate (6 - [18, 0, 0, 0, 0, 0].length) 0) ++ ([13402431016077863577, 2210141511517208575, 7435674573564081700, 7239337960414712511, 5412103778470702295, 1873798617647539866] ++ List.replicate (6 - [13402431016077863577, 2210141511517208575, 7435674573564081700, 7239337960414712511, 5412103778470702295, 1873798617647539866].length) 0) = E2 c42 := by decide +kernel
def Q1 : List F2 := [c10, c11, c12, c13]
def Q2 : List F2 := [c20, c21, c22]
def Q3 : List F2 := [c30, c31, c32, c33]
def Q4 : List F2 := [c40, c41, c42, c22]
abbrev GE (x y : F2) (i : Bool) : Value := GL (E2 x ++ E2 y) i
theorem zero24 : (List.replicate 24 0 : List Nat) = E2 (Kf.K2.zero : F2) ++ E2 (Kf.K2.zero : F2) := by decide +kernel
theorem zero24' : (List.replicate (12 + 12) 0 : List Nat) = E2 (Kf.K2.zero : F2) ++ E2 (Kf.K2.zero : F2) := by decide +kernel
def isoP (x y : F2) : F2 × F2 × Bool :=
 if pol x Q2 = Kf.K2.zero ∨ pol x Q4 = Kf.K2.zero then (Kf.K2.zero, Kf.K2.zero, true)
 else (Kf.K2.mul (pol x Q1) (Kf.K2.inv (pol x Q2)), Kf.K2.mul y (Kf.K2.mul (pol x Q3) (Kf.K2.inv (pol x Q4))), false)
theorem isoP_1 {x y q2 q4 : F2} (h2 : q2 = pol x Q2) (h4 : q4 = pol x Q4) (h : q2 = Kf.K2.zero ∨ q4 = Kf.K2.zero) : isoP x y = (Kf.K2.zero, Kf.K2.zero, true) := by
 subst h2
 subst h4
 exact if_pos h
theorem isoP_0 {x y q1 q2 q3 q4 : F2} (h1 : q1 = pol x Q1) (h2 : q2 = pol x Q2) (h3 : q3 = pol x Q3) (h4 : q4 = pol x Q4) (n2 : ¬ q2 = Kf.K2.zero) (n4 : ¬ q4 = Kf.K2.zero) : isoP x y = (Kf.K2.mul q1 (Kf.K2.inv q2), Kf.K2.mul y (Kf.K2.mul q3 (Kf.K2.inv q4)), false) := by
 subst h1
 subst h2
 subst h3
 subst h4
 exact if_neg fun h => h.elim n2 n4
theorem smulY {a b : Nat} (ha : a < W ^ 6) (hb : b < W ^ 6) (x : F2) : Spec Tryz.prog 29 [LV .u64 (D 6 a ++ D 6 b), LV .u64 (E2 x)] NoPre [] (IsV (LV .u64 (E2 (Kf.K2.mul (k2 a b) x)))) := by
 have := smul_spec ha hb (val_lt x.re) (val_lt x.im); rwa [k2_val] at this
theorem y_125 {a b : Prop} (k : b) (h : Rm b → a := by intro k;refine st_alloc (E := 31) (v := GL (List.replicate 24 0) false) (by kernel_rfl) (by rfl) ?_;exact k.h) : a := h ⟨k⟩
theorem y_126 {a b : Prop} (k : b) (h : Rm b → a := by intro k;refine st_buildC (m := 6) (kk := .u64) (by rfl) (by rfl) (by rfl) (by rfl) (by rfl) (by rfl) (by rfl) (by rfl) ?_;exact k.h) : a := h ⟨k⟩
theorem y_127 {a b : Prop} (k : b) (h : Rm b → a := by intro k;(first|refine Z01 ?_|refine Z03 ?_|refine Z04 ?_|refine Z05 ?_|refine Z06 ?_|refine Z07 ?_|refine Z08 ?_|refine Z09 ?_|refine Z10 ?_|refine Z11 ?_|refine Z12 ?_|refine Z13 ?_|refine Z14 ?_|refine Z24 ?_|refine Z25 ?_|refine Z26 ?_|refine Z27 ?_|refine Z28 ?_|refine Z29 ?_|refine Z30 ?_|refine Z31 ?_|refine Z32 ?_|refine Z49 ?_|refine Z50 ?_|refine Z51 ?_|refine Z52 ?_|refine Z53 ?_|refine Z65 ?_|refine Z67 ?_|refine Z77 ?_|refine Z78 ?_|refine Z79 ?_);exact k.h) : a := h ⟨k⟩
theorem y_128 {a b : Prop} (k : b) (h : Rm b → a := by intro k;refine st_buildGi (m := 12) (by rfl) (by rfl) (by kernel_rfl) (by rfl) (by rfl) ?_; rw [zero24'];exact k.h) : a := h ⟨k⟩
theorem y_129 {a b : Prop} (k : b) (h : Rm b → a := by intro k;refine st_store_GL (m := 24) (by rfl) (by rfl) (by repeat first|apply Find.here|apply Find.there) (by rfl) (by first|with_reducible assumption|simp) (by first|with_reducible assumption|simp) ?_;exact k.h) : a := h ⟨k⟩
theorem y_130 {a b : Prop} (k : b) (h : Rm b → a := by intro k;refine st_buildG (m := 12) (by rfl) (by rfl) (by kernel_rfl) (by rfl) (by simp; done) (by simp; done) (by rfl) ?_;exact k.h) : a := h ⟨k⟩
theorem y_131 {a b : Prop} (k : b) (h : Rm b → a := by intro k;refine R.Zps (by rfl) (by intro _ _ _;refine st_store_GL (m := 24) (by rfl) (by rfl) (by repeat first|apply Find.here|apply Find.there) (by rfl) (by first|with_reducible assumption|simp) (by first|with_reducible assumption|simp) ?_;exact Zqq) ?_;exact k.h) : a := h ⟨k⟩
theorem y_219 {a b : Prop} (k : b) (h : Rm b → a := by intro k;(first|refine y_128 ?_|refine y_129 ?_|refine Z01 ?_|refine Z03 ?_|refine Z04 ?_|refine Z05 ?_|refine Z06 ?_|refine Z07 ?_|refine Z08 ?_|refine Z09 ?_|refine Z10 ?_|refine Z11 ?_|refine Z12 ?_|refine Z13 ?_|refine Z14 ?_|refine Z24 ?_|refine Z25 ?_|refine Z26 ?_|refine Z27 ?_|refine Z28 ?_|refine Z29 ?_|refine Z30 ?_|refine Z31 ?_|refine Z32 ?_|refine Z49 ?_|refine Z50 ?_|refine Z51 ?_|refine Z52 ?_|refine Z53 ?_|refine Z65 ?_|refine Z67 ?_|refine Z77 ?_|refine Z78 ?_|refine Z79 ?_);exact k.h) : a := h ⟨k⟩
theorem y_263 {a b : Prop} (k : b) (h : Rm b → a := by intro k;(first|refine y_199 ?_|refine y_131 ?_);exact k.h) : a := h ⟨k⟩
set_option maxHeartbeats 16000000 in
theorem iso_spec {a e f g : Nat} (ha : a < W ^ 6) (he : e < W ^ 6) (hf : f < W ^ 6) (hg : g < W ^ 6) : Spec Tryz.prog 14 [LV .u64 (D 6 a ++ D 6 e), LV .u64 (D 6 f ++ D 6 g)] NoPre [] (IsV (GE (isoP (k2 a e) (k2 f g)).1 (isoP (k2 a e) (k2 f g)).2.1 (isoP (k2 a e) (k2 f g)).2.2)) := by
 refine mk_spec Tryz.func14 rfl rfl rfl fun w _ => ?_
 have hl0 := fun x => D_len 6 x
 have hle := fun x : F2 => E2_len x
 have hp1 : ∀ b, Spec Tryz.prog 28 [LV .u64 (D 6 a ++ D 6 e), slv b 4] (fun w => HasB w b (LV .u64 (Q1.map E2).flatten) 29) [] (IsV (LV .u64 (E2 (pol (k2 a e) Q1)))) := fun b => poly_spec ha he b 4 Q1 rfl (by decide)
 have hp2 : ∀ b, Spec Tryz.prog 28 [LV .u64 (D 6 a ++ D 6 e), slv b 3] (fun w => HasB w b (LV .u64 (Q2.map E2).flatten) 29) [] (IsV (LV .u64 (E2 (pol (k2 a e) Q2)))) := fun b => poly_spec ha he b 3 Q2 rfl (by decide)
 have hp3 : ∀ b, Spec Tryz.prog 28 [LV .u64 (D 6 a ++ D 6 e), slv b 4] (fun w => HasB w b (LV .u64 (Q3.map E2).flatten) 29) [] (IsV (LV .u64 (E2 (pol (k2 a e) Q3)))) := fun b => poly_spec ha he b 4 Q3 rfl (by decide)
 have hp4 : ∀ b, Spec Tryz.prog 28 [LV .u64 (D 6 a ++ D 6 e), slv b 4] (fun w => HasB w b (LV .u64 (Q4.map E2).flatten) 29) [] (IsV (LV .u64 (E2 (pol (k2 a e) Q4)))) := fun b => poly_spec ha he b 4 Q4 rfl (by decide)
 have hmy := fun x => smulY hf hg x
 generalize k2 a e = x at hp1 hp2 hp3 hp4
 generalize k2 f g = y at hmy
 obtain ⟨q1, h1⟩ : ∃ q, q = pol x Q1 := ⟨_, rfl⟩
 obtain ⟨q2, h2⟩ : ∃ q, q = pol x Q2 := ⟨_, rfl⟩
 obtain ⟨q3, h3⟩ : ∃ q, q = pol x Q3 := ⟨_, rfl⟩
 obtain ⟨q4, h4⟩ : ∃ q, q = pol x Q4 := ⟨_, rfl⟩
 have hI1 := isoP_1 (y := y) h2 h4
 have hI0 := isoP_0 (y := y) h1 h2 h3 h4
 rw [← h1] at hp1
 rw [← h2] at hp2
 rw [← h3] at hp3
 rw [← h4] at hp4
 clear h1 h2 h3 h4
 repeat (first|(refine y_62 ?_;intro _)|(refine y_125 ?_;intro _)|refine y_126 ?_|(refine st_build2 (by rfl) (by rfl) (by rfl) (by rfl) (by simp; done) (by simp; done) (by rfl) ?_; first | rw [c10E] | rw [c11E] | rw [c12E] | rw [c13E] | rw [c20E] | rw [c21E] | rw [c22E] | rw [c30E] | rw [c31E] | rw [c32E] | rw [c33E] | rw [c40E] | rw [c41E] | rw [c42E])|refine st_buildSliceM (m := 12) (kk := .u64) (vss := Q2.map E2) (by rfl) (by rfl) (by rfl) (by rfl) (by rfl) (by rfl) (by rfl) poly_len (by rfl) (by rfl) fun _ => ?_|refine st_buildSliceM (m := 12) (kk := .u64) (vss := Q4.map E2) (by rfl) (by rfl) (by rfl) (by rfl) (by rfl) (by rfl) (by rfl) poly_len (by rfl) (by rfl) fun _ => ?_|refine y_95 (hp2 _) ?_|refine y_95 (hp4 _) ?_|refine y_127 ?_|refine Z81 fun _ => ?_|refine Z82 fun _ => ?_|refine Z85 fun _ => ?_)
 by_cases z2 : q2 = Kf.K2.zero
 ·have hz2 : (decide (D 6 q2.re.val = D 6 (Kf.K2.zero : F2).re.val) && decide (D 6 q2.im.val = D 6 (Kf.K2.zero : F2).im.val)) = true := by rw [z2]; exact E2_same _
  rw [hI1 (.inl z2)]
  repeat (first|refine y_94 ?_|refine y_124 hz2 ?_|refine y_219 ?_|refine Z81 fun _ => ?_|refine Z82 fun _ => ?_|refine Z85 fun _ => ?_)
  refine st_endc_GL (m := 24) (by rfl) (by rfl) (by repeat first|apply Find.here|apply Find.there) (by rfl) (by rfl) (by first|with_reducible assumption|simp) fun _ hw => post_of hw SubW.nil ⟨?_, rfl⟩
  rfl
 ·by_cases z4 : q4 = Kf.K2.zero
  ·have hz4 : (decide (D 6 q4.re.val = D 6 (Kf.K2.zero : F2).re.val) && decide (D 6 q4.im.val = D 6 (Kf.K2.zero : F2).im.val)) = true := by rw [z4]; exact E2_same _
   rw [hI1 (.inr z4)]
   repeat (first|refine y_94 ?_|refine y_124 (E2_diff z2) ?_|refine y_124 hz4 ?_|refine y_219 ?_|refine Z81 fun _ => ?_|refine Z82 fun _ => ?_|refine Z85 fun _ => ?_)
   refine st_endc_GL (m := 24) (by rfl) (by rfl) (by repeat first|apply Find.here|apply Find.there) (by rfl) (by rfl) (by first|with_reducible assumption|simp) fun _ hw => post_of hw SubW.nil ⟨?_, rfl⟩
   rfl
  ·rw [hI0 z2 z4]
   have hi2 := sinvE q2
   have hm2 := smulE q1 (Kf.K2.inv q2)
   have hi4 := sinvE q4
   have hm4 := smulE q3 (Kf.K2.inv q4)
   have hmm := hmy (Kf.K2.mul q3 (Kf.K2.inv q4))
   generalize Kf.K2.mul y (Kf.K2.mul q3 (Kf.K2.inv q4)) = s1 at hmm ⊢
   generalize Kf.K2.mul q3 (Kf.K2.inv q4) = s2 at hm4 hmm
   generalize Kf.K2.inv q4 = s3 at hi4 hm4
   generalize Kf.K2.mul q1 (Kf.K2.inv q2) = s4 at hm2 ⊢
   generalize Kf.K2.inv q2 = s5 at hi2 hm2
   clear hI0 hI1
   repeat (first|(refine y_62 ?_;intro _)|refine y_126 ?_|(refine st_build2 (by rfl) (by rfl) (by rfl) (by rfl) (by simp; done) (by simp; done) (by rfl) ?_; first | rw [c10E] | rw [c11E] | rw [c12E] | rw [c13E] | rw [c20E] | rw [c21E] | rw [c22E] | rw [c30E] | rw [c31E] | rw [c32E] | rw [c33E] | rw [c40E] | rw [c41E] | rw [c42E])|refine y_94 ?_|refine y_124 (E2_diff z2) ?_|refine y_124 (E2_diff z4) ?_|refine st_buildSliceM (m := 12) (kk := .u64) (vss := Q1.map E2) (by rfl) (by rfl) (by rfl) (by rfl) (by rfl) (by rfl) (by rfl) poly_len (by rfl) (by rfl) fun _ => ?_|refine y_95 (hp1 _) ?_|refine y_127 ?_|refine Z81 fun _ => ?_|refine Z82 fun _ => ?_|refine Z85 fun _ => ?_)
   clear hp1
   repeat (first|(refine y_62 ?_;intro _)|refine y_126 ?_|(refine st_build2 (by rfl) (by rfl) (by rfl) (by rfl) (by simp; done) (by simp; done) (by rfl) ?_; first | rw [c10E] | rw [c11E] | rw [c12E] | rw [c13E] | rw [c20E] | rw [c21E] | rw [c22E] | rw [c30E] | rw [c31E] | rw [c32E] | rw [c33E] | rw [c40E] | rw [c41E] | rw [c42E])|refine st_buildSliceM (m := 12) (kk := .u64) (vss := Q3.map E2) (by rfl) (by rfl) (by rfl) (by rfl) (by rfl) (by rfl) (by rfl) poly_len (by rfl) (by rfl) fun _ => ?_|refine y_95 (hp3 _) ?_|refine y_127 ?_|refine Z81 fun _ => ?_|refine Z82 fun _ => ?_|refine Z85 fun _ => ?_)
   refine R.st_perm [0, 1, 2, 3, 4, 5, 6, 7, 8, 9, 10, 11] (by rfl) ?_
   repeat (first|(refine R.Zpf (by rfl) (by intro _ _ _;(first|refine y_130 ?_|refine y_65 ?_|refine y_72 ?_|refine y_73 ?_|refine Z01 ?_|refine Z49 ?_|refine Z50 ?_|refine Z65 ?_|refine Z77 ?_|refine Z78 ?_|refine Z79 ?_);exact Zq) ?_)|refine y_202 ?_|refine y_68 ?_|refine y_69 hi2 ?_|refine y_69 hm2 ?_|refine y_69 hi4 ?_|refine y_69 hm4 ?_|refine y_69 hmm ?_|refine y_263 ?_|(refine y_119 ?_;intro _)|refine R.Zpo (by rfl) ?_)
   refine R.Zp0 ?_
   repeat (first|refine y_127 ?_|refine Z81 fun _ => ?_|refine Z82 fun _ => ?_|refine Z85 fun _ => ?_)
   refine st_endc_GL (m := 24) (by rfl) (by rfl) (by repeat first|apply Find.here|apply Find.there) (by rfl) (by rfl) (by first|with_reducible assumption|simp) fun _ hw => post_of hw SubW.nil ⟨?_, rfl⟩
   rfl
end Go.Proofs.YtbpmbdlgmmabcaaGreat.L
namespace Go.Proofs.YtbpmbdlgmmabcaaGreat.L
open Go Go.Proofs
set_option maxRecDepth 100000
attribute [local irreducible] Code.wp wpList Af bodyPost L.Go
open Num
theorem side_eq (x : F2) : side x = Kf.K2.add (Kf.K2.add (Kf.K2.mul (Kf.K2.mul x x) x) (Kf.K2.mul ac x)) bc := by
 have h1 : side x = Kf.K2.add (Kf.K2.mul (Kf.K2.add (Kf.K2.mul (Kf.K2.add (Kf.K2.mul (Kf.K2.add (Kf.K2.mul Kf.K2.zero x) Kf.K2.one) x) Kf.K2.zero) x) ac) x) bc := rfl
 rw [h1, Kf.K2.zero_mul2, Kf.K2.zero_add', Kf.K2.one_mul', Kf.K2.add_zero', Kf.K2.add_mul']
def padd : List F2 → List F2 → List F2
 | [], q => q
 | a :: p, [] => a :: p
 | a :: p, b :: q => Kf.K2.add a b :: padd p q
def pmul : List F2 → List F2 → List F2
 | [], _ => []
 | a :: p, q => padd (q.map (Kf.K2.mul a)) (Kf.K2.zero :: pmul p q)
theorem pol_cons (x c : F2) (r : List F2) : pol x (c :: r) = Kf.K2.add (Kf.K2.mul (pol x r) x) c := rfl
theorem pol_nil (x : F2) : pol x [] = Kf.K2.zero := rfl
theorem pol_padd (x : F2) : ∀ p q : List F2, pol x (padd p q) = Kf.K2.add (pol x p) (pol x q)
 | [], q => by rw [padd, pol_nil, Kf.K2.zero_add']
 | a :: p, [] => by rw [padd, pol_nil, Kf.K2.add_zero']
 | a :: p, b :: q => by
  rw [padd, pol_cons, pol_cons, pol_cons, pol_padd x p q, Kf.K2.add_mul']
  ac_rfl
theorem pol_scale (x a : F2) : ∀ q : List F2, pol x (q.map (Kf.K2.mul a)) = Kf.K2.mul a (pol x q)
 | [] => by rw [List.map_nil, pol_nil, Kf.K2.mul_zero2]
 | b :: q => by
  rw [List.map_cons, pol_cons, pol_cons, pol_scale x a q, Kf.K2.mul_add', Kf.K2.mul_assoc']
theorem pol_pmul (x : F2) : ∀ p q : List F2, pol x (pmul p q) = Kf.K2.mul (pol x p) (pol x q)
 | [], q => by rw [pmul, pol_nil, Kf.K2.zero_mul2]
 | a :: p, q => by
  rw [pmul, pol_padd, pol_scale, pol_cons, pol_cons, pol_pmul x p q, Kf.K2.add_zero', Kf.K2.add_mul', Kf.K2.add_comm']
  congr 1
  ac_rfl
theorem ac_ne : ac ≠ Kf.K2.zero := by decide +kernel
theorem zc_ne : zc ≠ Kf.K2.zero := by decide +kernel
theorem isq_5 : Kf.isq (kp 5) = false := by
 have h : Kf.isq (-kp 5) = true := (Kf.isq_iff p_3).2 ⟨kp 3754115229487400743760384662840082984744650971178826659753975400945528899667118516813924993650507119217982417812692, by decide +kernel⟩
 have h2 := Kf.isq_neg p_3 (a := kp 5) (by decide +kernel)
 rw [h] at h2
 cases h3 : Kf.isq (kp 5)
 ·rfl
 ·rw [h3] at h2; exact absurd h2 (by decide)
theorem zc_no : Kf.K2.isq2 zc = false := by
 rw [Kf.K2.isq2_norm p_3, show Kf.K2.norm zc = kp 5 by decide +kernel]
 exact isq_5
theorem neg_one_sq : Kf.K2.isq2 (Kf.K2.neg Kf.K2.one : F2) = true := (Kf.K2.isq2_iff p_3).2 ⟨⟨0, 1⟩, by decide +kernel⟩
theorem zero_sq : Kf.K2.isq2 (Kf.K2.zero : F2) = true := (Kf.K2.isq2_iff p_3).2 ⟨Kf.K2.zero, by decide +kernel⟩
theorem wz_zero {u : F2} (h : wz u = Kf.K2.zero) : u = Kf.K2.zero := by
 rcases Kf.K2.mul_zero_or p_3 h with h1 | h1
 ·exact absurd h1 zc_ne
 ·rcases Kf.K2.mul_zero_or p_3 h1 with h2 | h2 <;> exact h2
theorem tz_zero {u : F2} (h : tz (wz u) = Kf.K2.zero) : u = Kf.K2.zero := by
 have e : tz (wz u) = Kf.K2.mul (wz u) (Kf.K2.add (wz u) Kf.K2.one) := by rw [tz, Kf.K2.mul_add', Kf.K2.mul_one']
 rw [e] at h
 rcases Kf.K2.mul_zero_or p_3 h with h1 | h1
 ·exact wz_zero h1
 ·exfalso
  have h2 : wz u = Kf.K2.neg Kf.K2.one := Kf.K2.add_zero_neg h1
  have hu : u ≠ Kf.K2.zero := by
   rintro rfl
   rw [wz, Kf.K2.mul_zero2, Kf.K2.mul_zero2] at h2
   exact absurd h2 (by decide +kernel)
  have h3 := Kf.K2.isq2_mul p_3 zc_ne (Kf.K2.mul_ne p_3 hu hu)
  rw [show Kf.K2.mul zc (Kf.K2.mul u u) = wz u from rfl, h2, neg_one_sq, zc_no, Kf.K2.isq2_sq p_3] at h3
  exact absurd h3 (by decide)
def x00 : F2 := k2 253485938497372268249793355629940596581935911929470499404363681954522004531086398081370216511504325389066637262119 3241951739729550588668409758846082366811075084150596387118967090260465636897578670198576979594502687870694360773430
def y00 : F2 := k2 391013756818087021228608844186469378708965029305944648629640836944759185027123020480318340657013194950516187264795 3578796461873081174841411974298466426866052387096285028890861355461367155938811896227938614244375769879856986283402
theorem x00_eq : xone (wz Kf.K2.zero) = x00 := by
 rw [xone, if_pos (by decide +kernel)]
 exact Kf.K2.div_eq p_3 (by decide +kernel) (by decide +kernel)
theorem x00_sq : Kf.K2.mul y00 y00 = side x00 := by decide +kernel
theorem side_w {u : F2} (h : ¬ u = Kf.K2.zero) : side (Kf.K2.mul (wz u) (xone (wz u))) = Kf.K2.mul (Kf.K2.mul (Kf.K2.mul (wz u) (wz u)) (wz u)) (side (xone (wz u))) := by
 have ht : ¬ tz (wz u) = Kf.K2.zero := fun e => h (tz_zero e)
 rw [side_eq, side_eq]
 refine Kf.K2.sswu_alg (s := Kf.K2.inv (tz (wz u))) (Kf.K2.mul_inv2 p_3 ht) ?_
 rw [xone, if_neg ht]
 exact Kf.K2.sswu_x (Kf.K2.mul_inv2 p_3 ac_ne)
theorem one_side {u : F2} (h : Kf.K2.isq2 (side (xone (wz u))) = false) : Kf.K2.isq2 (side (Kf.K2.mul (wz u) (xone (wz u)))) = true := by
 by_cases hu : u = Kf.K2.zero
 ·subst hu
  rw [x00_eq] at h
  have := (Kf.K2.isq2_iff p_3).2 ⟨y00, x00_sq⟩
  rw [h] at this
  exact absurd this (by decide)
 ·rw [side_w hu]
  have hs : side (xone (wz u)) ≠ Kf.K2.zero := by
   intro e
   rw [e, zero_sq] at h
   exact absurd h (by decide)
  have e : Kf.K2.mul (Kf.K2.mul (Kf.K2.mul (wz u) (wz u)) (wz u)) (side (xone (wz u))) = Kf.K2.mul (Kf.K2.mul zc (side (xone (wz u)))) (Kf.K2.mul (Kf.K2.mul (wz u) u) (Kf.K2.mul (wz u) u)) := by
   have : Kf.K2.mul (Kf.K2.mul (wz u) (wz u)) (wz u) = Kf.K2.mul (Kf.K2.mul (wz u) (wz u)) (Kf.K2.mul zc (Kf.K2.mul u u)) := rfl
   rw [this]
   ac_rfl
  have hw : wz u ≠ Kf.K2.zero := fun e => hu (wz_zero e)
  have hm := Kf.K2.mul_ne p_3 hw hu
  rw [e, Kf.K2.isq2_mul p_3 (Kf.K2.mul_ne p_3 zc_ne hs) (Kf.K2.mul_ne p_3 hm hm), Kf.K2.isq2_mul p_3 zc_ne hs, Kf.K2.isq2_sq p_3, zc_no, h]
  rfl
theorem sq_pick {g : Nat} {r s : F2 × Bool} {y : F2} (h2 : Kf.K2.mul r.1 r.1 = y) (h1 : Kf.K2.sgn r.1 = g → s = (r.1, r.2)) (h0 : ¬ Kf.K2.sgn r.1 = g → s = (Kf.K2.neg r.1, r.2)) : Kf.K2.mul s.1 s.1 = y := by
 by_cases hg : Kf.K2.sgn r.1 = g
 ·rw [h1 hg]; exact h2
 ·rw [h0 hg]
  show Kf.K2.mul (Kf.K2.neg r.1) (Kf.K2.neg r.1) = y
  rw [Kf.K2.neg_mul_neg]; exact h2
theorem sgn_pick {g : Nat} (hg2 : g < 2) {r s : F2 × Bool} (hr : r.1 ≠ Kf.K2.zero) (h1 : Kf.K2.sgn r.1 = g → s = (r.1, r.2)) (h0 : ¬ Kf.K2.sgn r.1 = g → s = (Kf.K2.neg r.1, r.2)) : Kf.K2.sgn s.1 = g := by
 by_cases hg : Kf.K2.sgn r.1 = g
 ·rw [h1 hg]; exact hg
 ·rw [h0 hg]
  show Kf.K2.sgn (Kf.K2.neg r.1) = g
  have e1 := Kf.K2.sgn_flip p_3 hr
  have e2 := Kf.K2.sgn_lt r.1
  omega
theorem rootd_sq {g : Nat} {x : F2} (h : Kf.K2.isq2 (side x) = true) : Kf.K2.mul (rootd g x).1 (rootd g x).1 = side x := by
 rcases Kf.K2.sqrtP_root p_3 (side x) with ⟨_, h2, _⟩ | ⟨h1, _, _⟩
 ·exact sq_pick h2 (rootd_1 rfl rfl) (rootd_0 rfl rfl)
 ·rw [Kf.K2.isq2_def, h1] at h
  exact absurd h (by decide)
theorem rootd_sgn {g : Nat} (hg : g < 2) {x : F2} (h : Kf.K2.isq2 (side x) = true) (hs : side x ≠ Kf.K2.zero) : Kf.K2.sgn (rootd g x).1 = g := by
 rcases Kf.K2.sqrtP_root p_3 (side x) with ⟨_, h2, _⟩ | ⟨h1, _, _⟩
 ·refine sgn_pick hg (fun e => hs ?_) (rootd_1 rfl rfl) (rootd_0 rfl rfl)
  rw [← h2, e, Kf.K2.mul_zero2]
 ·rw [Kf.K2.isq2_def, h1] at h
  exact absurd h (by decide)
theorem snd_pick {g : Nat} {r s : F2 × Bool} {b : Bool} (hb : b = r.2) (h1 : Kf.K2.sgn r.1 = g → s = (r.1, r.2)) (h0 : ¬ Kf.K2.sgn r.1 = g → s = (Kf.K2.neg r.1, r.2)) : s.2 = b := by
 by_cases hg : Kf.K2.sgn r.1 = g
 ·rw [h1 hg]; exact hb.symm
 ·rw [h0 hg]; exact hb.symm
theorem rootd_2 (g : Nat) (x : F2) : (rootd g x).2 = Kf.K2.isq2 (side x) := snd_pick (Kf.K2.isq2_def _) (rootd_1 rfl rfl) (rootd_0 rfl rfl)
theorem mapP_root (u : F2) : ∃ x, mapP u = (x, (rootd (Kf.K2.sgn u) x).1) ∧ Kf.K2.isq2 (side x) = true := by
 cases h : (rootd (Kf.K2.sgn u) (xone (wz u))).2
 ·have e := mapP_0 (u := u) rfl rfl rfl h rfl
  rw [rootd_2] at h
  exact ⟨_, e, one_side h⟩
 ·have e := mapP_1 (u := u) rfl rfl rfl h
  rw [rootd_2] at h
  exact ⟨_, e, h⟩
theorem mapP_on (u : F2) : Kf.K2.mul (mapP u).2 (mapP u).2 = side (mapP u).1 := by
 obtain ⟨x, e, h⟩ := mapP_root u
 rw [e]
 exact rootd_sq h
end Go.Proofs.YtbpmbdlgmmabcaaGreat.L
namespace Go.Proofs.YtbpmbdlgmmabcaaGreat.L
open Go Go.Proofs
set_option maxRecDepth 100000
attribute [local irreducible] Code.wp wpList Af bodyPost L.Go PartAt
open Num
attribute [local simp] D_len
theorem rac_spec : Spec Tryz.prog 81 [] NoPre [] (IsV (LV .u64 (E2 ac))) := by
 refine mk_spec Tryz.func81 rfl rfl rfl fun w _ => ?_
 repeat (first|(refine y_62 ?_;intro _)|refine y_215 ?_|refine Z82 fun _ => ?_)
 refine Zec fun _ hw => post_of hw SubW.nil ⟨?_, rfl⟩
 rw [← acE]
theorem rbc_spec : Spec Tryz.prog 80 [] NoPre [] (IsV (LV .u64 (E2 bc))) := by
 refine mk_spec Tryz.func80 rfl rfl rfl fun w _ => ?_
 repeat (first|(refine y_62 ?_;intro _)|refine y_216 ?_|refine Z82 fun _ => ?_)
 refine Zec fun _ hw => post_of hw SubW.nil ⟨?_, rfl⟩
 rw [← bcE]
theorem rzc_spec : Spec Tryz.prog 47 [] NoPre [] (IsV (LV .u64 (E2 zc))) := by
 refine mk_spec Tryz.func47 rfl rfl rfl fun w _ => ?_
 have hl0 := fun x => D_len 6 x
 have hle := fun x : F2 => E2_len x
 have hn : Spec Tryz.prog 49 [LV .u64 (D 6 2 ++ D 6 1)] NoPre [] (IsV (LV .u64 (E2 zc))) := tneg_spec (by decide) (by decide)
 repeat (first|(refine y_62 ?_;intro _)|refine y_48 ?_|refine y_117 ?_|refine y_65 ?_|refine y_96 ?_|refine y_3 hn ?_|refine y_5 ?_|refine Z82 fun _ => ?_)
 refine Zec fun _ hw => post_of hw SubW.nil ⟨?_, rfl⟩
 rfl
theorem tmulY {a b : Nat} (ha : a < W ^ 6) (hb : b < W ^ 6) (x : F2) : Spec Tryz.prog 46 [LV .u64 (D 6 a ++ D 6 b), LV .u64 (E2 x)] NoPre [] (IsV (LV .u64 (E2 (Kf.K2.mul (k2 a b) x)))) := by
 have := tmul_spec ha hb (val_lt x.re) (val_lt x.im); rwa [k2_val] at this
theorem rside_spec {a e : Nat} (ha : a < W ^ 6) (he : e < W ^ 6) : Spec Tryz.prog 45 [LV .u64 (D 6 a ++ D 6 e)] NoPre [] (IsV (LV .u64 (E2 (side (k2 a e))))) := by
 refine mk_spec Tryz.func45 rfl rfl rfl fun w _ => ?_
 have hl0 := fun x => D_len 6 x
 have hle := fun x : F2 => E2_len x
 have hm1 := tmul_spec ha he ha he
 have hm2 := tmulX ha he (Kf.K2.mul (k2 a e) (k2 a e))
 have hm3 := tmulX ha he ac
 rw [side_eq]
 generalize k2 a e = x at hm1 hm2 hm3 ⊢
 have ha1 := taddE (Kf.K2.mul (Kf.K2.mul x x) x) (Kf.K2.mul ac x)
 have ha2 := taddE (Kf.K2.add (Kf.K2.mul (Kf.K2.mul x x) x) (Kf.K2.mul ac x)) bc
 generalize Kf.K2.add (Kf.K2.add (Kf.K2.mul (Kf.K2.mul x x) x) (Kf.K2.mul ac x)) bc = r at ha2 ⊢
 generalize Kf.K2.add (Kf.K2.mul (Kf.K2.mul x x) x) (Kf.K2.mul ac x) = r1 at ha1 ha2
 generalize Kf.K2.mul (Kf.K2.mul x x) x = r2 at hm2 ha1
 generalize Kf.K2.mul ac x = r3 at hm3 ha1
 generalize Kf.K2.mul x x = r4 at hm1 hm2
 repeat (first|(refine y_62 ?_;intro _)|refine y_46 ?_|refine Z81 fun _ => ?_|refine Z82 fun _ => ?_)
 refine R.st_perm [0, 1, 2, 3, 4, 5, 6] (by rfl) ?_
 repeat (first|(refine R.Zpf (by rfl) (by intro _ _ _;(first|contradiction);exact Zq) ?_)|refine y_202 ?_|refine y_68 ?_|refine y_69 hm1 ?_|refine y_69 hm2 ?_|refine y_199 ?_|(refine y_102 ?_;intro _)|(refine y_60 ?_;intro _)|refine R.Zpo (by rfl) ?_)
 refine R.Zp0 ?_
 repeat (first|refine y_46 ?_|refine Z81 fun _ => ?_|refine Z82 fun _ => ?_)
 refine st_draw1 (by rfl) ?_
 repeat (first|(refine Zqf (by intro _ _ _;(first|contradiction);exact Zq) ?_)|refine y_66 ?_|(refine Zqp (by intro _ _ _;refine st_callV (by rfl) (by rfl) (by rfl) (rac_spec) (fun _ _ => trivial) (by rfl) ?_;exact Zq) ?_)|(refine Zqp (by intro _ _ _;refine st_callV (by rfl) (by rfl) (by rfl) (rbc_spec) (fun _ _ => trivial) (by rfl) ?_;exact Zq) ?_)|refine y_41 hm3 ?_|refine y_41 ha1 ?_|refine y_41 ha2 ?_|refine y_259 ?_)
 refine Zq0 ?_ (by kernel_rfl)
 repeat (first|refine y_46 ?_|refine Z81 fun _ => ?_|refine Z82 fun _ => ?_)
 refine Zec fun _ hw => post_of hw SubW.nil ⟨?_, rfl⟩
 rfl
end Go.Proofs.YtbpmbdlgmmabcaaGreat.L
namespace Go.Proofs.YtbpmbdlgmmabcaaGreat.L
open Go Go.Proofs
set_option maxRecDepth 100000
attribute [local irreducible] Code.wp wpList Af bodyPost L.Go
open Num
def S3 : List F2 := [bc, ac, Kf.K2.zero, Kf.K2.one]
def B2 : List F2 := [k2 4 4]
def q22 : List F2 := [k2 4002409555221667393417789825735904156556882819939007885332058136124031650490837864442687629129015664037894272554603 0, k2 4002409555221667393417789825735904156556882819939007885332058136124031650490837864442687629129015664037894272558059 4002409555221667393417789825735904156556882819939007885332058136124031650490837864442687629129015664037894272558059, k2 0 4002409555221667393417789825735904156556882819939007885332058136124031650490837864442687629129015664037894272559355, k2 24 4002409555221667393417789825735904156556882819939007885332058136124031650490837864442687629129015664037894272559763, k2 1 0]
theorem q22_eq : pmul Q2 Q2 = q22 := by decide +kernel
def q222 : List F2 := [k2 0 373248, k2 4002409555221667393417789825735904156556882819939007885332058136124031650490837864442687629129015664037894272373163 186624, k2 4002409555221667393417789825735904156556882819939007885332058136124031650490837864442687629129015664037894272482027 0, k2 4002409555221667393417789825735904156556882819939007885332058136124031650490837864442687629129015664037894272551147 4002409555221667393417789825735904156556882819939007885332058136124031650490837864442687629129015664037894272551147, k2 0 4002409555221667393417789825735904156556882819939007885332058136124031650490837864442687629129015664037894272558707, k2 36 4002409555221667393417789825735904156556882819939007885332058136124031650490837864442687629129015664037894272559751, k2 1 0]
theorem q222_eq : pmul q22 Q2 = q222 := by decide +kernel
def q11 : List F2 := [k2 0 49412463644711943128614689206616100698233121233814912164593310322518909265318985980773921347271798321455484848699, k2 741186954670679146929220338099241510473496818507223682468899654837783638979784789711608820209076974821832272696437 3261222600550988246488569487636662646083386001431784202863158481286248011511053074731078808919938689216061999863350, k2 1185899127473086635086752540958786416757594909611557891950239447740453822367655663538574112334523159714931636314184 0, k2 642362027381255260671990959686009309077030576039593858139713034192745820449146817750060977514533378178921303003423 642362027381255260671990959686009309077030576039593858139713034192745820449146817750060977514533378178921303003423, k2 0 3261222600550988246488569487636662646083386001431784202863158481286248011511053074731078808919938689216061999863526, k2 1482373909341358293858440676198483020946993637014447364937799309675567277959569579423217640418153949643664545392514 2520035645880309099559349149537421135609889182924560520394258826448464372531268285019469988710861714394229727167273, k2 395299709157695545028917513652928805585864969870519297316746482580151274122551887846191370778174386571643878771337 0]
theorem q11_eq : pmul Q1 Q1 = q11 := by decide +kernel
def q111 : List F2 := [k2 2778078511580471469231003637616416328145106593812260617253801669243840898694600767363511577968836661184052814621486 1224331043641195924186786188119487828411776226126747268078256466880190751796237097079176051160179002853841457938301, k2 395299709157695545028917513652928805585864969870519297316746482580151274122551887846191370778174386571643878789592 0, k2 1235311591117798578215367230165402517455828030845372804114832758062972731632974649519348033681794958036387121168835 1235311591117798578215367230165402517455828030845372804114832758062972731632974649519348033681794958036387121168835, k2 0 3574168203634163886303129185945231283838862435912611979905582779995534436858073319275980310785993411918613403890177, k2 840011881960103033186449716512473711869963060974853506798086275482821457510422761673156662903620571464743242389483 3162397673261564360231340109223430444686919758964154378533971860641210192980415102769530966225395092573151030170304, k2 3508284918774547962131642933669743149574551607600858763686125032898842557837648004634948415656297680823339424095645 0, k2 1811790333639437914715871937575923692268547778573213446035088045159026673061696152628377116066632605120034444368622 1811790333639437914715871937575923692268547778573213446035088045159026673061696152628377116066632605120034444368622, k2 0 2915335355038004644588266663190349941195754152795079817711005309028615646653820172865661359489036100965873605938609, k2 1581198836630782180115670054611715222343459879482077189266985930320605096490207551384765483112697546286575515085348 2421210718590885213302119771124188934213422940456930696065072205803426554000630313057922146016318117751318757474439, k2 3156907399523263033217049588200473100164893856604841610515683715049819203062046326549444974964587114981878198521094 0]
theorem q111_eq : pmul q11 Q1 = q111 := by decide +kernel
def q33 : List F2 := [k2 0 1998459640741683033201749652356473406017428458789847558656884995266320330286234544111300818934103843223310720456644, k2 1597669657845686161158541617680587255909537586560015493321850367094778066245313880045023456895121479060394010033609 2404739897375981232259248208055316900647345233378992392010207769029253584245523984397664172233894184977500262526178, k2 3952997091576955450289175136529288055858649698705192973167464825801512741225518878461913707781743865716438787713200 0, k2 1685514037658507393387189954047904768261952024309019781614460696557033904939214299566399317068049120520759316427769 1685514037658507393387189954047904768261952024309019781614460696557033904939214299566399317068049120520759316427769, k2 0 1712965406350014028458642559162691490872081536105583621705901424513988854531058180666829273372089008477123474675792, k2 1581198836630782180115670054611715222343459879482077189266985930320605096490207551384765483112697546286575515085348 2421210718590885213302119771124188934213422940456930696065072205803426554000630313057922146016318117751318757474439, k2 3156907399523263033217049588200473100164893856604841610515683715049819203062046326549444974964587114981878198521094 0]
theorem q33_eq : pmul Q3 Q3 = q33 := by decide +kernel
def q44 : List F2 := [k2 0 373248, k2 4002409555221667393417789825735904156556882819939007885332058136124031650490837864442687629129015664037894272373163 186624, k2 4002409555221667393417789825735904156556882819939007885332058136124031650490837864442687629129015664037894272482027 0, k2 4002409555221667393417789825735904156556882819939007885332058136124031650490837864442687629129015664037894272551147 4002409555221667393417789825735904156556882819939007885332058136124031650490837864442687629129015664037894272551147, k2 0 4002409555221667393417789825735904156556882819939007885332058136124031650490837864442687629129015664037894272558707, k2 36 4002409555221667393417789825735904156556882819939007885332058136124031650490837864442687629129015664037894272559751, k2 1 0]
theorem q44_eq : pmul Q4 Q4 = q44 := by decide +kernel
def sq2 : List F2 := [k2 4002409555221667393417789825735904156556882819939007885332058136124031650490837864442687629129015664037893894832811 377726976, k2 4002409555221667393417789825735904156556882819939007885332058136124031650490837864442687629129015664037893805253291 0, k2 4002409555221667393417789825735904156556882819939007885332058136124031650490837864442687629129015664037894149076907 4002409555221667393417789825735904156556882819939007885332058136124031650490837864442687629129015664037894149076907, k2 0 4002409555221667393417789825735904156556882819939007885332058136124031650490837864442687629129015664037894236783275, k2 2979936 4002409555221667393417789825735904156556882819939007885332058136124031650490837864442687629129015664037894269579851, k2 254304 0, k2 1012 1012, k2 0 4002409555221667393417789825735904156556882819939007885332058136124031650490837864442687629129015664037894272558947, k2 36 4002409555221667393417789825735904156556882819939007885332058136124031650490837864442687629129015664037894272559751, k2 1 0]
theorem sq2_eq : pmul S3 q222 = sq2 := by decide +kernel
def bq2 : List F2 := [k2 4002409555221667393417789825735904156556882819939007885332058136124031650490837864442687629129015664037894271066795 1492992, k2 4002409555221667393417789825735904156556882819939007885332058136124031650490837864442687629129015664037894271066795 0, k2 4002409555221667393417789825735904156556882819939007885332058136124031650490837864442687629129015664037894272248747 4002409555221667393417789825735904156556882819939007885332058136124031650490837864442687629129015664037894272248747, k2 0 4002409555221667393417789825735904156556882819939007885332058136124031650490837864442687629129015664037894272490667, k2 4320 4002409555221667393417789825735904156556882819939007885332058136124031650490837864442687629129015664037894272555467, k2 288 0, k2 4 4]
theorem bq2_eq : pmul B2 q222 = bq2 := by decide +kernel
def sum1 : List F2 := [k2 2778078511580471469231003637616416328145106593812260617253801669243840898694600767363511577968836661184052813128494 1224331043641195924186786188119487828411776226126747268078256466880190751796237097079176051160179002853841459431293, k2 395299709157695545028917513652928805585864969870519297316746482580151274122551887846191370778174386571643877296600 0, k2 1235311591117798578215367230165402517455828030845372804114832758062972731632974649519348033681794958036387120857795 1235311591117798578215367230165402517455828030845372804114832758062972731632974649519348033681794958036387120857795, k2 0 3574168203634163886303129185945231283838862435912611979905582779995534436858073319275980310785993411918613403821057, k2 840011881960103033186449716512473711869963060974853506798086275482821457510422761673156662903620571464743242393803 3162397673261564360231340109223430444686919758964154378533971860641210192980415102769530966225395092573151030165984, k2 3508284918774547962131642933669743149574551607600858763686125032898842557837648004634948415656297680823339424095933 0, k2 1811790333639437914715871937575923692268547778573213446035088045159026673061696152628377116066632605120034444368626 1811790333639437914715871937575923692268547778573213446035088045159026673061696152628377116066632605120034444368626, k2 0 2915335355038004644588266663190349941195754152795079817711005309028615646653820172865661359489036100965873605938609, k2 1581198836630782180115670054611715222343459879482077189266985930320605096490207551384765483112697546286575515085348 2421210718590885213302119771124188934213422940456930696065072205803426554000630313057922146016318117751318757474439, k2 3156907399523263033217049588200473100164893856604841610515683715049819203062046326549444974964587114981878198521094 0]
theorem sum1_eq : padd q111 bq2 = sum1 := by decide +kernel
def lhs : List F2 := [k2 4002409555221667393417789825735904156556882819939007885332058136124031650490837864442687629129015664037308247550635 4002409555221667393417789825735904156556882819939007885332058136124031650490837864442687629129015664037308247550635, k2 0 4002409555221667393417789825735904156556882819939007885332058136124031650490837864442687629129015664036757804919467, k2 2668273036814444928945193217157269437704588546626005256888038757416021100327225242961791752752677109359106448759922 1334136518407222464472596608578634718852294273313002628444019378708010550163612621480895876376338554678787823799865, k2 3705934773353395734646101690496207552367484092536118412344498274188918194898923948558044101045384874109442172852553 0, k2 148237390934135829385844067619848302094699363701444736493779930967556727795956957942321764041815394964419206318257 148237390934135829385844067619848302094699363701444736493779930967556727795956957942321764041815394964419206318257, k2 0 98824927289423886257229378413232201396466242467629824329186620645037818530637971961547842694543596642925208285302, k2 554517647568434028443342623318691796724616138290589569847102704730489981755246398228685117341605736718554587285711 3447891907653233364974447202417212359832266681648418315484955431393541668735591466214002511787409927319339685274076, k2 395299709157695545028917513652928805585864969870519297316746482580151274122551887846191370778174386571643675226584 0, k2 1828261154854341895758743500644795725834625485651151750089952481933199642816802481288635089849056537893852929075591 1828261154854341895758743500644795725834625485651151750089952481933199642816802481288635089849056537893852929075591, k2 0 3574168203634163886303129185945231283838862435912611979905582779995534436858073319275980310785993411918613403290113, k2 3952997091576955450289175136529288055858649698705192973167464825801512741225518878461913707781743865716438787712304 49412463644711943128614689206616100698233121233814912164593310322518909265318985980773921347271798321455484847483, k2 543537100091831374414761581272777107680564333571964033810526413547708001918508845788513134819989781536010333308425 0, k2 774128597100487109014963464236985577605652232663100290578628528386129578489997447032124767773924840369469262593755 774128597100487109014963464236985577605652232663100290578628528386129578489997447032124767773924840369469262593755, k2 0 1729436227564918009501514122231563524438159243183521925760765861288161824286164509327087247154512941250941969624593, k2 3162397673261564360231340109223430444686919758964154378533971860641210192980415102769530966225395092573151030170696 840011881960103033186449716512473711869963060974853506798086275482821457510422761673156662903620571464743242389091, k2 3156907399523263033217049588200473100164893856604841610515683715049819203062046326549444974964587114981878198521094 0]
theorem lhs_eq : pmul q33 sq2 = lhs := by decide +kernel
theorem rhs_eq : pmul sum1 q44 = lhs := by decide +kernel
theorem iso_pol (x : F2) : Kf.K2.mul (pol x q33) (Kf.K2.mul (side x) (pol x q222)) = Kf.K2.mul (Kf.K2.add (pol x q111) (Kf.K2.mul (pol x B2) (pol x q222))) (pol x q44) := by
 have h1 : pol x (pmul q33 sq2) = pol x (pmul sum1 q44) := by rw [lhs_eq, rhs_eq]
 rw [pol_pmul, pol_pmul, ← sum1_eq, pol_padd, ← sq2_eq, pol_pmul, ← bq2_eq, pol_pmul] at h1
 exact h1
theorem pol_q222 (x : F2) : pol x q222 = Kf.K2.mul (Kf.K2.mul (pol x Q2) (pol x Q2)) (pol x Q2) := by rw [← q222_eq, pol_pmul, ← q22_eq, pol_pmul]
theorem pol_q111 (x : F2) : pol x q111 = Kf.K2.mul (Kf.K2.mul (pol x Q1) (pol x Q1)) (pol x Q1) := by rw [← q111_eq, pol_pmul, ← q11_eq, pol_pmul]
theorem pol_q33 (x : F2) : pol x q33 = Kf.K2.mul (pol x Q3) (pol x Q3) := by rw [← q33_eq, pol_pmul]
theorem pol_q44 (x : F2) : pol x q44 = Kf.K2.mul (pol x Q4) (pol x Q4) := by rw [← q44_eq, pol_pmul]
theorem pol_B2 (x : F2) : pol x B2 = k2 4 4 := by
 rw [show pol x B2 = Kf.K2.add (Kf.K2.mul Kf.K2.zero x) (k2 4 4) from rfl, Kf.K2.zero_mul2, Kf.K2.zero_add']
def b2c : F2 := k2 4 4
theorem iso_on {x y : F2} (hy : Kf.K2.mul y y = side x) (h2 : pol x Q2 ≠ Kf.K2.zero) (h4 : pol x Q4 ≠ Kf.K2.zero) :
  Kf.K2.mul (Kf.K2.mul y (Kf.K2.mul (pol x Q3) (Kf.K2.inv (pol x Q4)))) (Kf.K2.mul y (Kf.K2.mul (pol x Q3) (Kf.K2.inv (pol x Q4)))) = Kf.K2.add (Kf.K2.mul (Kf.K2.mul (Kf.K2.mul (pol x Q1) (Kf.K2.inv (pol x Q2))) (Kf.K2.mul (pol x Q1) (Kf.K2.inv (pol x Q2)))) (Kf.K2.mul (pol x Q1) (Kf.K2.inv (pol x Q2)))) b2c := by
 have h := iso_pol x
 rw [pol_q222, pol_q111, pol_q33, pol_q44, pol_B2] at h
 have e2 := Kf.K2.mul_inv2 p_3 h2
 have e4 := Kf.K2.mul_inv2 p_3 h4
 generalize pol x Q1 = q1 at *
 generalize pol x Q2 = q2 at *
 generalize pol x Q3 = q3 at *
 generalize pol x Q4 = q4 at *
 generalize Kf.K2.inv q2 = i2 at *
 generalize Kf.K2.inv q4 = i4 at *
 exact Kf.K2.curve_alg (e2.trans Kf.K2.ofZ_1.symm) (e4.trans Kf.K2.ofZ_1.symm) hy h
def xk0 : F2 := k2 4002409555221667393417789825735904156556882819939007885332058136124031650490837864442687629129015664037894272559781 6
def lin : List F2 := [Kf.K2.neg xk0, Kf.K2.one]
theorem Q2_lin : pmul lin lin = Q2 := by decide +kernel
theorem Q4_lin : pmul Q2 lin = Q4 := by decide +kernel
theorem pol_lin (x : F2) : pol x lin = Kf.K2.sub x xk0 := by
 rw [show pol x lin = Kf.K2.add (Kf.K2.mul (Kf.K2.add (Kf.K2.mul Kf.K2.zero x) Kf.K2.one) x) (Kf.K2.neg xk0) from rfl, Kf.K2.zero_mul2, Kf.K2.zero_add', Kf.K2.one_mul', Kf.K2.sub_eq]
theorem side_xk0 : side xk0 = k2 4 4 := by decide +kernel
theorem pol_Q2 (x : F2) : pol x Q2 = Kf.K2.mul (pol x lin) (pol x lin) := by rw [← pol_pmul, Q2_lin]
theorem pol_Q4 (x : F2) : pol x Q4 = Kf.K2.mul (pol x Q2) (pol x lin) := by rw [← pol_pmul, Q4_lin]
theorem lin_zero {x : F2} (h : pol x lin = Kf.K2.zero) : x = xk0 := Kf.K2.sub_zero_eq (by rw [← pol_lin]; exact h)
theorem lin_Q2 {x : F2} (h : pol x lin ≠ Kf.K2.zero) : pol x Q2 ≠ Kf.K2.zero := by rw [pol_Q2]; exact Kf.K2.mul_ne p_3 h h
theorem lin_Q4 {x : F2} (h : pol x lin ≠ Kf.K2.zero) : pol x Q4 ≠ Kf.K2.zero := by rw [pol_Q4]; exact Kf.K2.mul_ne p_3 (lin_Q2 h) h
theorem pm32 : Nat.beq (Pr.pm p 381 32 ((p - 1) / 3)) 1 = false := by decide +kernel
theorem pm32_lt : (p - 1) / 3 < 2 ^ 381 := by decide +kernel
theorem val_one : (1 : Fq).val = 1 := by decide +kernel
theorem pow_ne1 : (Kf.K2.norm (Kf.K2.neg b2c)) ^ ((p - 1) / 3) ≠ 1 := by
 intro h
 have e : Kf.K2.norm (Kf.K2.neg b2c) = kp 32 := by decide +kernel
 have h0 := pm32
 have h1 := Pr.pm_eq p 381 32 _ pm32_lt
 rw [e] at h
 generalize (p - 1) / 3 = k at h h0 h1
 rw [kpow_eq, h, val_one] at h1
 rw [h1] at h0
 exact absurd h0 (by decide)
theorem side_ne (x : F2) : side x ≠ Kf.K2.zero := by
 intro hs
 by_cases hl : pol x lin = Kf.K2.zero
 ·rw [lin_zero hl, side_xk0] at hs
  exact absurd hs (by decide +kernel)
 ·have e := iso_on (x := x) (y := Kf.K2.zero) (by rw [hs, Kf.K2.zero_mul2]) (lin_Q2 hl) (lin_Q4 hl)
  rw [Kf.K2.zero_mul2, Kf.K2.zero_mul2] at e
  exact Kf.K2.no_cube p_3 (by decide +kernel) (by decide +kernel) pow_ne1 (Kf.K2.add_zero_neg e.symm)
end Go.Proofs.YtbpmbdlgmmabcaaGreat.L
namespace Go.Proofs.YtbpmbdlgmmabcaaGreat.L
open Go Go.Proofs
set_option maxRecDepth 100000
attribute [local irreducible] Code.wp wpList Af bodyPost L.Go
open Num
theorem no2 : Kf.K2.No2 b2c := fun _ h => Kf.K2.no_cube p_3 (by decide +kernel) (by decide +kernel) pow_ne1 (Kf.K2.add_zero_neg h)
def rm32 : Nat := 225038059437516012967016182254553905964953855560047398581028672012823445407566078119195226162312789451238293834482
theorem isq_32 : Kf.isq (kp 32) = false := by
 have h : Kf.isq (-kp 32) = true := (Kf.isq_iff p_3).2 ⟨kp rm32, by decide +kernel⟩
 have h2 := Kf.isq_neg p_3 (a := kp 32) (by decide +kernel)
 rw [h] at h2
 cases h3 : Kf.isq (kp 32)
 ·rfl
 ·rw [h3] at h2; exact absurd h2 (by decide)
theorem b2c_no (m : F2) : Kf.K2.mul m m ≠ b2c := by
 intro h
 have h1 : Kf.K2.isq2 b2c = true := (Kf.K2.isq2_iff p_3).2 ⟨m, h⟩
 rw [Kf.K2.isq2_norm p_3, show Kf.K2.norm b2c = kp 32 by decide +kernel, isq_32] at h1
 exact absurd h1 (by decide)
theorem lin_ne {x y : F2} (h : Kf.K2.mul y y = side x) : pol x lin ≠ Kf.K2.zero := by
 intro e
 rw [lin_zero e, side_xk0] at h
 exact b2c_no y h
theorem y_ne0 {x y : F2} (h : Kf.K2.mul y y = side x) : y ≠ Kf.K2.zero := by
 rintro rfl
 rw [Kf.K2.mul_zero2] at h
 exact side_ne x h.symm
def lin3 : List F2 := pmul (pmul lin lin) lin
def phx (x : F2) : F2 := Kf.K2.mul (pol x Q1) (Kf.K2.inv (pol x Q2))
def phy (x y : F2) : F2 := Kf.K2.mul y (Kf.K2.mul (pol x Q3) (Kf.K2.inv (pol x Q4)))
theorem ph_on {x y : F2} (h : Kf.K2.mul y y = side x) : Kf.K2.mul (phy x y) (phy x y) = Kf.K2.add (Kf.K2.mul (Kf.K2.mul (phx x) (phx x)) (phx x)) b2c :=
 iso_on h (lin_Q2 (lin_ne h)) (lin_Q4 (lin_ne h))
end Go.Proofs.YtbpmbdlgmmabcaaGreat.L
namespace Go.Proofs.YtbpmbdlgmmabcaaGreat.L
open Go Go.Proofs
set_option maxRecDepth 100000
attribute [local irreducible] Code.wp wpList Af bodyPost L.Go PartAt
open Num
attribute [local simp] D_len
theorem rsqE (x : F2) : Spec Tryz.prog 44 [LV .u64 (E2 x)] NoPre [] (IsV (.tuple [LV .u64 (E2 (Kf.K2.sqrtP x).1), .bool (Kf.K2.sqrtP x).2].toArray)) := by
 have := rsqrt_spec (val_lt x.re) (val_lt x.im); rwa [k2_val, ← Kf.K2.sqrt_same p_3] at this
theorem rsideE (x : F2) : Spec Tryz.prog 45 [LV .u64 (E2 x)] NoPre [] (IsV (LV .u64 (E2 (side x)))) := by
 have := rside_spec (val_lt x.re) (val_lt x.im); rwa [k2_val] at this
theorem y_132 {a b : Prop} (k : b) (h : Rm b → a := by intro k;refine R.Zpp (by rfl) (by intro _ _ _;refine st_callV (by rfl) (by rfl) (by rfl) (rzc_spec) (fun _ _ => trivial) (by rfl) ?_;exact Zq) ?_;exact k.h) : a := h ⟨k⟩
theorem y_220 {a b : Prop} (k : b) (h : Rm b → a := by intro k;(first|refine y_96 ?_|refine y_72 ?_|refine y_73 ?_|refine Z65 ?_|refine Z77 ?_|refine Z78 ?_|refine Z79 ?_);exact k.h) : a := h ⟨k⟩
theorem y_264 {a b : Prop} (k : b) (h : Rm b → a := by intro k;refine R.Zpf (by rfl) (by intro _ _ _;(first|refine y_220 ?_);exact Zq) ?_;exact k.h) : a := h ⟨k⟩
set_option maxHeartbeats 8000000 in
theorem rfirst_spec {a e : Nat} (ha : a < W ^ 6) (he : e < W ^ 6) : Spec Tryz.prog 43 [LV .u64 (D 6 a ++ D 6 e)] NoPre [] (IsV (LV .u64 (E2 (xone (wz (k2 a e)))))) := by
 refine mk_spec Tryz.func43 rfl rfl rfl fun w _ => ?_
 have hl0 := fun x => D_len 6 x
 have hle := fun x : F2 => E2_len x
 have hm1 := tmul_spec ha he ha he
 have hm2 := tmulE zc (Kf.K2.mul (k2 a e) (k2 a e))
 obtain ⟨w1, hw⟩ : ∃ w, w = wz (k2 a e) := ⟨_, rfl⟩
 rw [← hw]
 rw [show Kf.K2.mul zc (Kf.K2.mul (k2 a e) (k2 a e)) = w1 from hw.symm] at hm2
 clear hw
 generalize Kf.K2.mul (k2 a e) (k2 a e) = q at hm1 hm2
 have hww := tmulE w1 w1
 have hwt := taddE (Kf.K2.mul w1 w1) w1
 have hX1 := xone_1 (w := w1) (t := tz w1) rfl
 have hX0 := xone_0 (w := w1) (t := tz w1) rfl
 rw [show Kf.K2.add (Kf.K2.mul w1 w1) w1 = tz w1 from rfl] at hwt
 generalize Kf.K2.mul w1 w1 = v at hww hwt
 generalize tz w1 = t at hwt hX1 hX0
 repeat (first|(refine y_62 ?_;intro _)|refine y_48 ?_|refine y_118 ?_|refine Z03 ?_|refine Z04 ?_|refine Z05 ?_|refine Z06 ?_|refine Z07 ?_|refine Z08 ?_|refine Z09 ?_|refine Z10 ?_|refine Z11 ?_|refine Z12 ?_|refine Z13 ?_|refine Z14 ?_|refine Z24 ?_|refine Z25 ?_|refine Z26 ?_|refine Z27 ?_|refine Z28 ?_|refine Z29 ?_|refine Z30 ?_|refine Z31 ?_|refine Z32 ?_|refine Z65 ?_|refine Z67 ?_|refine Z77 ?_|refine Z78 ?_|refine Z79 ?_|refine Z81 fun _ => ?_|refine Z82 fun _ => ?_)
 refine R.st_perm [0, 1, 2, 3, 4, 5, 6] (by rfl) ?_
 repeat (first|refine y_264 ?_|refine y_202 ?_|refine y_68 ?_|refine y_132 ?_|refine y_69 hm1 ?_|refine y_69 hm2 ?_|refine y_199 ?_|(refine y_102 ?_;intro _)|(refine y_60 ?_;intro _)|refine R.Zpo (by rfl) ?_)
 refine R.Zp0 ?_
 repeat (first|refine y_99 ?_|refine Z81 fun _ => ?_|refine Z82 fun _ => ?_)
 refine R.st_perm [0, 1, 2, 3, 4, 5, 6] (by rfl) ?_
 repeat (first|refine y_264 ?_|refine y_202 ?_|refine y_68 ?_|refine y_69 hww ?_|refine y_69 hwt ?_|refine y_199 ?_|(refine y_102 ?_;intro _)|(refine y_60 ?_;intro _)|refine R.Zpo (by rfl) ?_)
 refine R.Zp0 ?_
 repeat (first|(refine y_62 ?_;intro _)|refine y_94 ?_|refine y_124 (E2_iff t Kf.K2.zero) ?_|refine y_99 ?_|refine Z81 fun _ => ?_|refine Z82 fun _ => ?_)
 refine st_cond (by rfl) (fun h => ?_) (fun h => ?_)
 ·have hza := tmulE zc ac
  have hzi := tinvE (Kf.K2.mul zc ac)
  have hzb := tmulE bc (Kf.K2.inv (Kf.K2.mul zc ac))
  rw [hX1 h]
  generalize Kf.K2.mul bc (Kf.K2.inv (Kf.K2.mul zc ac)) = x1 at hzb ⊢
  generalize Kf.K2.inv (Kf.K2.mul zc ac) = d1 at hzi hzb
  generalize Kf.K2.mul zc ac = d2 at hza hzi
  repeat (first|refine st_callV (by rfl) (by rfl) (by rfl) (rbc_spec) (fun _ _ => trivial) (by rfl) ?_|refine st_callV (by rfl) (by rfl) (by rfl) (rac_spec) (fun _ _ => trivial) (by rfl) ?_|refine st_callV (by rfl) (by rfl) (by rfl) (rzc_spec) (fun _ _ => trivial) (by rfl) ?_|refine y_3 hza ?_|refine y_3 hzi ?_|refine y_3 hzb ?_|refine y_99 ?_|refine Z81 fun _ => ?_|refine Z82 fun _ => ?_)
  refine Zec fun _ hw => post_of hw SubW.nil ⟨?_, rfl⟩
  rfl
 ·have hia := tinvE ac
  have hba := tmulE bc (Kf.K2.inv ac)
  have hnb := tnegE (Kf.K2.mul bc (Kf.K2.inv ac))
  have hit := tinvE t
  have hio := taddE Kf.K2.one (Kf.K2.inv t)
  rw [hX0 h]
  generalize Kf.K2.neg (Kf.K2.mul bc (Kf.K2.inv ac)) = c0 at hnb ⊢
  generalize Kf.K2.mul bc (Kf.K2.inv ac) = c1 at hba hnb
  generalize Kf.K2.inv ac = c2 at hia hba
  generalize Kf.K2.add Kf.K2.one (Kf.K2.inv t) = d1 at hio ⊢
  generalize Kf.K2.inv t = d2 at hit hio
  have him := tmulE c0 d1
  generalize Kf.K2.mul c0 d1 = x1 at him ⊢
  clear hX1 hX0
  repeat (first|(refine y_62 ?_;intro _)|refine st_callV (by rfl) (by rfl) (by rfl) (rbc_spec) (fun _ _ => trivial) (by rfl) ?_|refine st_callV (by rfl) (by rfl) (by rfl) (rac_spec) (fun _ _ => trivial) (by rfl) ?_|refine y_3 hia ?_|refine y_3 hba ?_|refine y_3 hnb ?_|refine y_99 ?_|refine Z81 fun _ => ?_|refine Z82 fun _ => ?_)
  refine R.st_perm [0, 1, 2, 3, 4, 5, 6] (by rfl) ?_
  repeat (first|refine y_264 ?_|refine y_202 ?_|refine y_68 ?_|refine y_69 hit ?_|refine y_69 hio ?_|refine y_69 him ?_|refine y_199 ?_|(refine y_60 ?_;intro _)|refine R.Zpo (by rfl) ?_)
  refine R.Zp0 ?_
  repeat (first|refine y_99 ?_|refine Z81 fun _ => ?_|refine Z82 fun _ => ?_)
  refine Zec fun _ hw => post_of hw SubW.nil ⟨?_, rfl⟩
  rfl
theorem y_133 {a b : Prop} (k : b) (h : Rm b → a := by intro k;(first|refine Z01 ?_|refine Z02 ?_|refine Z03 ?_|refine Z04 ?_|refine Z05 ?_|refine Z06 ?_|refine Z07 ?_|refine Z08 ?_|refine Z09 ?_|refine Z10 ?_|refine Z11 ?_|refine Z12 ?_|refine Z13 ?_|refine Z14 ?_|refine Z17 ?_|refine Z18 ?_|refine Z19 ?_|refine Z24 ?_|refine Z25 ?_|refine Z26 ?_|refine Z27 ?_|refine Z28 ?_|refine Z29 ?_|refine Z30 ?_|refine Z31 ?_|refine Z32 ?_|refine Z54 ?_|refine Z67 ?_);exact k.h) : a := h ⟨k⟩
theorem y_134 {a b : Prop} (k : b) (h : Rm b → a := by intro k;(first|refine Z01 ?_|refine Z02 ?_|refine Z17 ?_|refine Z18 ?_|refine Z19 ?_|refine Z54 ?_);exact k.h) : a := h ⟨k⟩
set_option maxHeartbeats 8000000 in
theorem rmap_spec {a e : Nat} (ha : a < W ^ 6) (he : e < W ^ 6) : Spec Tryz.prog 18 [LV .u64 (D 6 a ++ D 6 e)] NoPre [] (IsV (.tuple [LV .u64 (E2 (mapP (k2 a e)).1), LV .u64 (E2 (mapP (k2 a e)).2)].toArray)) := by
 refine mk_spec Tryz.func18 rfl rfl rfl fun w _ => ?_
 have hl0 := fun x => D_len 6 x
 have hle := fun x : F2 => E2_len x
 have hf := rfirst_spec ha he
 have hsu := rsgn_spec ha he
 have hm1 := tmul_spec ha he ha he
 have hm2 := tmulE zc (Kf.K2.mul (k2 a e) (k2 a e))
 have hm3 := tmulE (wz (k2 a e)) (xone (wz (k2 a e)))
 rw [show Kf.K2.mul zc (Kf.K2.mul (k2 a e) (k2 a e)) = wz (k2 a e) from rfl] at hm2
 generalize Kf.K2.mul (k2 a e) (k2 a e) = q at hm1 hm2
 have hM1 := mapP_1 (u := k2 a e) rfl rfl rfl
 have hM0 := fun h => mapP_0 (u := k2 a e) rfl rfl rfl h rfl
 generalize k2 a e = u at *
 generalize wz u = w1 at *
 generalize xone w1 = x1 at *
 generalize Kf.K2.mul w1 x1 = x2 at *
 generalize Kf.K2.sgn u = g at *
 have hd1 := rsideE x1
 have hd2 := rsideE x2
 have hq1 := rsqE (side x1)
 have hq2 := rsqE (side x2)
 have hR1 := rootd_1 (g := g) (x := x1) rfl rfl
 have hR0 := rootd_0 (g := g) (x := x1) rfl rfl
 have hS1 := rootd_1 (g := g) (x := x2) rfl rfl
 have hS0 := rootd_0 (g := g) (x := x2) rfl rfl
 generalize side x1 = y1 at *
 generalize side x2 = y2 at *
 generalize rootd g x1 = RR at *
 generalize rootd g x2 = SS at *
 generalize Kf.K2.sqrtP y1 = r at *
 generalize Kf.K2.sqrtP y2 = s at *
 obtain ⟨r1, r2⟩ := r
 obtain ⟨s1, s2⟩ := s
 simp only at hR1 hR0 hS1 hS0 hq1 hq2
 have hRb : RR.2 = r2 := by
  by_cases hh : Kf.K2.sgn r1 = g
  ·rw [hR1 hh]
  ·rw [hR0 hh]
 rw [hRb] at hM1 hM0
 cases r2 with
 | true =>
  rw [hM1 rfl]
  have hP1 := fun h => congrArg Prod.fst (hR1 h)
  have hP0 := fun h => congrArg Prod.fst (hR0 h)
  clear hM1 hM0 hR1 hR0 hS1 hS0
  simp only at hP1 hP0
  repeat (first|(refine y_62 ?_;intro _)|refine y_3 hf ?_|refine y_3 hd1 ?_|refine y_3 hq1 ?_|refine y_133 ?_|refine Z81 fun _ => ?_|refine Z82 fun _ => ?_)
  have hs1 := rsgnE r1
  have hn := tnegE r1
  obtain ⟨s, hs⟩ : ∃ s, s = Kf.K2.sgn r1 := ⟨_, rfl⟩
  rw [← hs] at hs1
  skip
  refine st_draw1 (by rfl) ?_
  repeat (first|(refine Zqf (by intro _ _ _;(first|refine y_134 ?_);exact Zq) ?_)|refine y_66 ?_|refine y_41 hsu ?_|refine y_41 hs1 ?_|refine y_259 ?_)
  refine Zq0 ?_ (by kernel_rfl)
  repeat (first|refine y_133 ?_|refine Z81 fun _ => ?_|refine Z82 fun _ => ?_)
  refine st_cond (by rfl) (fun h => ?_) (fun h => ?_)
  ·rw [hP0 (by rw [← hs]; exact fun e => h e.symm)]
   repeat (first|refine y_3 hn ?_|refine y_133 ?_|refine Z81 fun _ => ?_|refine Z82 fun _ => ?_)
   refine R.st_perm [0, 1, 2, 3] (by rfl) ?_
   refine R.Zpp (by rfl) (by intro _ _ _;(first|refine y_47 ?_);exact Zq) ?_
   refine R.Zpls [2, 3] [1, 3] (by rfl) (by rfl) (by intro _ _ _;(first|refine y_47 ?_);exact Zq) (by intro _ _ _;(first|refine y_10 ?_);exact Zqq) ?_ ?_
   case' refine_1 => refine R.Zps (by rfl) (by intro _ _ _;(first|refine y_10 ?_);exact Zqq) ?_
   case' refine_2 => refine R.Zple (by rfl) (by intro _ _ _;(first|refine y_47 ?_);exact Zq) ?_
   all_goals refine R.Zps (by rfl) (by intro _ _ _;(first|refine y_10 ?_);exact Zqq) ?_
   all_goals refine R.Zp0 ?_
   all_goals
    repeat (first|refine y_133 ?_|refine Z81 fun _ => ?_|refine Z82 fun _ => ?_)
    refine st_endc2c_LV (by rfl) (by rfl) (by rfl) (by repeat first|apply Find.here|apply Find.there) (by repeat first|apply Find.here|apply Find.there) (by rfl) (by rfl) (by first | with_reducible assumption | (simp [*]; done)) (by rfl) (by rfl) (by first | with_reducible assumption | (simp [*]; done)) fun _ hw => post_of hw SubW.nil ⟨?_, rfl⟩
    rfl
  ·rw [hP1 (by rw [← hs]; exact (Classical.not_not.1 h).symm)]
   repeat (first|refine y_133 ?_|refine Z81 fun _ => ?_|refine Z82 fun _ => ?_)
   refine R.st_perm [0, 1, 2, 3] (by rfl) ?_
   refine R.Zpp (by rfl) (by intro _ _ _;(first|refine y_47 ?_);exact Zq) ?_
   refine R.Zpls [2, 3] [1, 3] (by rfl) (by rfl) (by intro _ _ _;(first|refine y_47 ?_);exact Zq) (by intro _ _ _;(first|refine y_10 ?_);exact Zqq) ?_ ?_
   case' refine_1 => refine R.Zps (by rfl) (by intro _ _ _;(first|refine y_10 ?_);exact Zqq) ?_
   case' refine_2 => refine R.Zple (by rfl) (by intro _ _ _;(first|refine y_47 ?_);exact Zq) ?_
   all_goals refine R.Zps (by rfl) (by intro _ _ _;(first|refine y_10 ?_);exact Zqq) ?_
   all_goals refine R.Zp0 ?_
   all_goals
    repeat (first|refine y_133 ?_|refine Z81 fun _ => ?_|refine Z82 fun _ => ?_)
    refine st_endc2c_LV (by rfl) (by rfl) (by rfl) (by repeat first|apply Find.here|apply Find.there) (by repeat first|apply Find.here|apply Find.there) (by rfl) (by rfl) (by first | with_reducible assumption | (simp [*]; done)) (by rfl) (by rfl) (by first | with_reducible assumption | (simp [*]; done)) fun _ hw => post_of hw SubW.nil ⟨?_, rfl⟩
    rfl
 | false =>
  rw [hM0 rfl]
  have hP1 := fun h => congrArg Prod.fst (hS1 h)
  have hP0 := fun h => congrArg Prod.fst (hS0 h)
  clear hM1 hM0 hR1 hR0 hS1 hS0
  simp only at hP1 hP0
  repeat (first|(refine y_62 ?_;intro _)|refine y_3 hf ?_|refine y_3 hd1 ?_|refine y_3 hq1 ?_|refine y_133 ?_|refine Z81 fun _ => ?_|refine Z82 fun _ => ?_)
  refine R.st_perm [0, 1, 2, 3, 4, 5, 6, 7] (by rfl) ?_
  repeat (first|(refine R.Zpf (by rfl) (by intro _ _ _;(first|refine y_134 ?_);exact Zq) ?_)|refine y_202 ?_|refine y_68 ?_|refine y_132 ?_|refine y_69 hm1 ?_|refine y_69 hm2 ?_|refine y_69 hm3 ?_|refine y_199 ?_|(refine y_60 ?_;intro _)|refine R.Zpo (by rfl) ?_)
  refine R.Zp0 ?_
  repeat (first|(refine y_62 ?_;intro _)|refine y_3 hd2 ?_|refine y_3 hq2 ?_|refine y_133 ?_|refine Z81 fun _ => ?_|refine Z82 fun _ => ?_)
  obtain ⟨r1, hr1⟩ : ∃ r, r = s1 := ⟨_, rfl⟩
  subst hr1
  have hs1 := rsgnE r1
  have hn := tnegE r1
  obtain ⟨s, hs⟩ : ∃ s, s = Kf.K2.sgn r1 := ⟨_, rfl⟩
  rw [← hs] at hs1
  skip
  refine st_draw1 (by rfl) ?_
  repeat (first|(refine Zqf (by intro _ _ _;(first|refine y_134 ?_);exact Zq) ?_)|refine y_66 ?_|refine y_41 hsu ?_|refine y_41 hs1 ?_|refine y_259 ?_)
  refine Zq0 ?_ (by kernel_rfl)
  repeat (first|refine y_133 ?_|refine Z81 fun _ => ?_|refine Z82 fun _ => ?_)
  refine st_cond (by rfl) (fun h => ?_) (fun h => ?_)
  ·rw [hP0 (by rw [← hs]; exact fun e => h e.symm)]
   repeat (first|refine y_3 hn ?_|refine y_133 ?_|refine Z81 fun _ => ?_|refine Z82 fun _ => ?_)
   refine R.st_perm [0, 1, 2, 3] (by rfl) ?_
   refine R.Zpp (by rfl) (by intro _ _ _;(first|refine y_47 ?_);exact Zq) ?_
   refine R.Zpls [2, 3] [1, 3] (by rfl) (by rfl) (by intro _ _ _;(first|refine y_47 ?_);exact Zq) (by intro _ _ _;(first|refine y_10 ?_);exact Zqq) ?_ ?_
   case' refine_1 => refine R.Zps (by rfl) (by intro _ _ _;(first|refine y_10 ?_);exact Zqq) ?_
   case' refine_2 => refine R.Zple (by rfl) (by intro _ _ _;(first|refine y_47 ?_);exact Zq) ?_
   all_goals refine R.Zps (by rfl) (by intro _ _ _;(first|refine y_10 ?_);exact Zqq) ?_
   all_goals refine R.Zp0 ?_
   all_goals
    repeat (first|refine y_133 ?_|refine Z81 fun _ => ?_|refine Z82 fun _ => ?_)
    refine st_endc2c_LV (by rfl) (by rfl) (by rfl) (by repeat first|apply Find.here|apply Find.there) (by repeat first|apply Find.here|apply Find.there) (by rfl) (by rfl) (by first | with_reducible assumption | (simp [*]; done)) (by rfl) (by rfl) (by first | with_reducible assumption | (simp [*]; done)) fun _ hw => post_of hw SubW.nil ⟨?_, rfl⟩
    rfl
  ·rw [hP1 (by rw [← hs]; exact (Classical.not_not.1 h).symm)]
   repeat (first|refine y_133 ?_|refine Z81 fun _ => ?_|refine Z82 fun _ => ?_)
   refine R.st_perm [0, 1, 2, 3] (by rfl) ?_
   refine R.Zpp (by rfl) (by intro _ _ _;(first|refine y_47 ?_);exact Zq) ?_
   refine R.Zpls [2, 3] [1, 3] (by rfl) (by rfl) (by intro _ _ _;(first|refine y_47 ?_);exact Zq) (by intro _ _ _;(first|refine y_10 ?_);exact Zqq) ?_ ?_
   case' refine_1 => refine R.Zps (by rfl) (by intro _ _ _;(first|refine y_10 ?_);exact Zqq) ?_
   case' refine_2 => refine R.Zple (by rfl) (by intro _ _ _;(first|refine y_47 ?_);exact Zq) ?_
   all_goals refine R.Zps (by rfl) (by intro _ _ _;(first|refine y_10 ?_);exact Zqq) ?_
   all_goals refine R.Zp0 ?_
   all_goals
    repeat (first|refine y_133 ?_|refine Z81 fun _ => ?_|refine Z82 fun _ => ?_)
    refine st_endc2c_LV (by rfl) (by rfl) (by rfl) (by repeat first|apply Find.here|apply Find.there) (by repeat first|apply Find.here|apply Find.there) (by rfl) (by rfl) (by first | with_reducible assumption | (simp [*]; done)) (by rfl) (by rfl) (by first | with_reducible assumption | (simp [*]; done)) fun _ hw => post_of hw SubW.nil ⟨?_, rfl⟩
    rfl
end Go.Proofs.YtbpmbdlgmmabcaaGreat.L
namespace Go.Proofs.YtbpmbdlgmmabcaaGreat.L
open Go Go.Proofs
set_option maxRecDepth 100000
attribute [local irreducible] Code.wp wpList Af bodyPost L.Go PartAt
open Num
attribute [local simp] D_len
def Q2z : List F2 := [c20, c21, c22, Kf.K2.zero]
theorem zz12E : ([0, 0, 0, 0, 0, 0] ++ List.replicate (6 - [0, 0, 0, 0, 0, 0].length) 0) ++ ([0, 0, 0, 0, 0, 0] ++ List.replicate (6 - [0, 0, 0, 0, 0, 0].length) 0) = E2 (Kf.K2.zero : F2) := by decide +kernel
theorem pol_Q2z (x : F2) : pol x Q2z = pol x Q2 := by
 rw [show pol x Q2z = Kf.K2.add (Kf.K2.mul (Kf.K2.add (Kf.K2.mul (Kf.K2.add (Kf.K2.mul (Kf.K2.add (Kf.K2.mul Kf.K2.zero x) Kf.K2.zero) x) c22) x) c21) x) c20 from rfl, show pol x Q2 = Kf.K2.add (Kf.K2.mul (Kf.K2.add (Kf.K2.mul (Kf.K2.add (Kf.K2.mul Kf.K2.zero x) c22) x) c21) x) c20 from rfl, Kf.K2.zero_mul2, Kf.K2.zero_add', Kf.K2.zero_mul2]
theorem flatM12 {l : List (List Nat)} (h : ∀ v ∈ l, v.length = 12) : l.flatten.length = l.length * 12 := by
 induction l with
 | nil => rfl
 | cons a r ih =>
  rw [List.flatten_cons, List.length_append, ih fun v hv => h v (List.mem_cons_of_mem _ hv), h a (List.mem_cons_self ..), List.length_cons]
  omega
def numL (w : Nat) : List F2 := if w = 1 then Q1 else Q3
def undL (w : Nat) : List F2 := if w = 2 then Q2z else Q4
theorem y_135 {a b : Prop} (k : b) (h : Rm b → a := by intro k;(first|refine Z01 ?_|refine Z03 ?_|refine Z04 ?_|refine Z05 ?_|refine Z06 ?_|refine Z07 ?_|refine Z08 ?_|refine Z09 ?_|refine Z10 ?_|refine Z11 ?_|refine Z12 ?_|refine Z13 ?_|refine Z14 ?_|refine Z17 ?_|refine Z18 ?_|refine Z22 ?_|refine Z23 ?_|refine Z24 ?_|refine Z25 ?_|refine Z26 ?_|refine Z27 ?_|refine Z28 ?_|refine Z29 ?_|refine Z30 ?_|refine Z31 ?_|refine Z32 ?_|refine Z65 ?_|refine Z67 ?_);exact k.h) : a := h ⟨k⟩
set_option maxHeartbeats 8000000 in
theorem rnum_spec (wh k : Nat) (hk : k < 4) (c : F2) (hc : (numL wh)[k]? = some c) : Spec Tryz.prog 91 [N .i64 wh, N .i64 k] NoPre [] (IsV (LV .u64 (E2 c))) := by
 refine mk_spec Tryz.func91 rfl rfl rfl fun w _ => ?_
 have hle := fun x : F2 => E2_len x
 have hE1 : ∀ v ∈ Q1.map E2, v.length = 12 := poly_len
 have hE2 : ∀ v ∈ Q3.map E2, v.length = 12 := poly_len
 have hL1 : (Q1.map E2).flatten.length = 48 := flatM12 hE1
 have hL2 : (Q3.map E2).flatten.length = 48 := flatM12 hE2
 repeat (first|(refine y_62 ?_;intro _)|refine st_store_LV (m := 48) (by rfl) (by rfl) (by repeat first|apply Find.here|apply Find.there) (by rfl) (by simp) hL1 ?_|refine st_store_LV (m := 48) (by rfl) (by rfl) (by repeat first|apply Find.here|apply Find.there) (by rfl) (by simp) hL2 ?_|refine st_alloc (v := LV .u64 (List.replicate 48 0)) (by kernel_rfl) (by rfl) fun _ => ?_|refine y_126 ?_|(refine st_build2 (by rfl) (by rfl) (by rfl) (by rfl) (by simp; done) (by simp; done) (by rfl) ?_; first | rw [c10E] | rw [c11E] | rw [c12E] | rw [c13E] | rw [c20E] | rw [c21E] | rw [c22E] | rw [c30E] | rw [c31E] | rw [c32E] | rw [c33E] | rw [c40E] | rw [c41E] | rw [c42E] | rw [zz12E])|refine st_buildM (k := 4) (m := 12) (kk := .u64) (vss := Q1.map E2) (by rfl) (by kernel_rfl) (by rfl) (by rfl) (by rfl) (by rfl) poly_len (by rfl) ?_|refine st_buildM (k := 4) (m := 12) (kk := .u64) (vss := Q3.map E2) (by rfl) (by kernel_rfl) (by rfl) (by rfl) (by rfl) (by rfl) poly_len (by rfl) ?_|refine Z01 ?_|refine Z03 ?_|refine Z04 ?_|refine Z05 ?_|refine Z06 ?_|refine Z07 ?_|refine Z08 ?_|refine Z09 ?_|refine Z10 ?_|refine Z11 ?_|refine Z12 ?_|refine Z13 ?_|refine Z14 ?_|refine Z17 ?_|refine Z18 ?_|refine Z22 ?_|refine Z23 ?_|refine Z24 ?_|refine Z25 ?_|refine Z26 ?_|refine Z27 ?_|refine Z28 ?_|refine Z29 ?_|refine Z30 ?_|refine Z31 ?_|refine Z32 ?_|refine Z65 ?_|refine Z67 ?_|refine Z82 fun _ => ?_)
 refine st_cond (by rfl) (fun h => ?_) (fun h => ?_)
 ·rw [numL, if_pos h] at hc
  have hp : PartAt (Q1.map E2).flatten (0 + k * 12) 12 (E2 c) := by
   rw [Nat.zero_add]; exact PartAt.nth hE1 (by rw [List.getElem?_map, hc]; rfl)
  repeat (first|refine st_ia_arr (by rfl) (by rfl) (by rfl) (by rfl) hk (by rfl) ?_|refine st_ldp (by rfl) (by repeat first|apply Find.here|apply Find.there) (by rfl) (by rfl) hp (by rfl) ?_|refine y_135 ?_|refine Z82 fun _ => ?_)
  refine Zec fun _ hw => post_of hw SubW.nil ⟨?_, rfl⟩
  rfl
 ·rw [numL, if_neg h] at hc
  have hp : PartAt (Q3.map E2).flatten (0 + k * 12) 12 (E2 c) := by
   rw [Nat.zero_add]; exact PartAt.nth hE2 (by rw [List.getElem?_map, hc]; rfl)
  repeat (first|refine st_ia_arr (by rfl) (by rfl) (by rfl) (by rfl) hk (by rfl) ?_|refine st_ldp (by rfl) (by repeat first|apply Find.here|apply Find.there) (by rfl) (by rfl) hp (by rfl) ?_|refine y_135 ?_|refine Z82 fun _ => ?_)
  refine Zec fun _ hw => post_of hw SubW.nil ⟨?_, rfl⟩
  rfl
set_option maxHeartbeats 8000000 in
theorem rund_spec (wh k : Nat) (hk : k < 4) (c : F2) (hc : (undL wh)[k]? = some c) : Spec Tryz.prog 92 [N .i64 wh, N .i64 k] NoPre [] (IsV (LV .u64 (E2 c))) := by
 refine mk_spec Tryz.func92 rfl rfl rfl fun w _ => ?_
 have hle := fun x : F2 => E2_len x
 have hE1 : ∀ v ∈ Q2z.map E2, v.length = 12 := poly_len
 have hE2 : ∀ v ∈ Q4.map E2, v.length = 12 := poly_len
 have hL1 : (Q2z.map E2).flatten.length = 48 := flatM12 hE1
 have hL2 : (Q4.map E2).flatten.length = 48 := flatM12 hE2
 repeat (first|(refine y_62 ?_;intro _)|refine st_store_LV (m := 48) (by rfl) (by rfl) (by repeat first|apply Find.here|apply Find.there) (by rfl) (by simp) hL1 ?_|refine st_store_LV (m := 48) (by rfl) (by rfl) (by repeat first|apply Find.here|apply Find.there) (by rfl) (by simp) hL2 ?_|refine st_alloc (v := LV .u64 (List.replicate 48 0)) (by kernel_rfl) (by rfl) fun _ => ?_|refine y_126 ?_|(refine st_build2 (by rfl) (by rfl) (by rfl) (by rfl) (by simp; done) (by simp; done) (by rfl) ?_; first | rw [c10E] | rw [c11E] | rw [c12E] | rw [c13E] | rw [c20E] | rw [c21E] | rw [c22E] | rw [c30E] | rw [c31E] | rw [c32E] | rw [c33E] | rw [c40E] | rw [c41E] | rw [c42E] | rw [zz12E])|refine st_buildM (k := 4) (m := 12) (kk := .u64) (vss := Q2z.map E2) (by rfl) (by kernel_rfl) (by rfl) (by rfl) (by rfl) (by rfl) poly_len (by rfl) ?_|refine st_buildM (k := 4) (m := 12) (kk := .u64) (vss := Q4.map E2) (by rfl) (by kernel_rfl) (by rfl) (by rfl) (by rfl) (by rfl) poly_len (by rfl) ?_|refine Z01 ?_|refine Z03 ?_|refine Z04 ?_|refine Z05 ?_|refine Z06 ?_|refine Z07 ?_|refine Z08 ?_|refine Z09 ?_|refine Z10 ?_|refine Z11 ?_|refine Z12 ?_|refine Z13 ?_|refine Z14 ?_|refine Z17 ?_|refine Z18 ?_|refine Z22 ?_|refine Z23 ?_|refine Z24 ?_|refine Z25 ?_|refine Z26 ?_|refine Z27 ?_|refine Z28 ?_|refine Z29 ?_|refine Z30 ?_|refine Z31 ?_|refine Z32 ?_|refine Z65 ?_|refine Z67 ?_|refine Z82 fun _ => ?_)
 refine st_cond (by rfl) (fun h => ?_) (fun h => ?_)
 ·rw [undL, if_pos h] at hc
  have hp : PartAt (Q2z.map E2).flatten (0 + k * 12) 12 (E2 c) := by
   rw [Nat.zero_add]; exact PartAt.nth hE1 (by rw [List.getElem?_map, hc]; rfl)
  repeat (first|refine st_ia_arr (by rfl) (by rfl) (by rfl) (by rfl) hk (by rfl) ?_|refine st_ldp (by rfl) (by repeat first|apply Find.here|apply Find.there) (by rfl) (by rfl) hp (by rfl) ?_|refine y_135 ?_|refine Z82 fun _ => ?_)
  refine Zec fun _ hw => post_of hw SubW.nil ⟨?_, rfl⟩
  rfl
 ·rw [undL, if_neg h] at hc
  have hp : PartAt (Q4.map E2).flatten (0 + k * 12) 12 (E2 c) := by
   rw [Nat.zero_add]; exact PartAt.nth hE2 (by rw [List.getElem?_map, hc]; rfl)
  repeat (first|refine st_ia_arr (by rfl) (by rfl) (by rfl) (by rfl) hk (by rfl) ?_|refine st_ldp (by rfl) (by repeat first|apply Find.here|apply Find.there) (by rfl) (by rfl) hp (by rfl) ?_|refine y_135 ?_|refine Z82 fun _ => ?_)
  refine Zec fun _ hw => post_of hw SubW.nil ⟨?_, rfl⟩
  rfl
def rL (w : Nat) : List F2 := if w % 2 = 0 then undL w else numL w
theorem numL_len (w : Nat) : (numL w).length = 4 := by unfold numL; split <;> rfl
theorem undL_len (w : Nat) : (undL w).length = 4 := by unfold undL; split <;> rfl
theorem y_136 {a b : Prop} (k : b) (h : Rm b → a := by intro k;(first|refine Z01 ?_|refine Z02 ?_|refine Z03 ?_|refine Z04 ?_|refine Z05 ?_|refine Z06 ?_|refine Z07 ?_|refine Z08 ?_|refine Z09 ?_|refine Z10 ?_|refine Z11 ?_|refine Z12 ?_|refine Z13 ?_|refine Z14 ?_|refine Z16 ?_|refine Z17 ?_|refine Z18 ?_|refine Z24 ?_|refine Z25 ?_|refine Z26 ?_|refine Z27 ?_|refine Z28 ?_|refine Z29 ?_|refine Z30 ?_|refine Z31 ?_|refine Z32 ?_|refine Z38 ?_|refine Z67 ?_|refine Z71 ?_);exact k.h) : a := h ⟨k⟩
theorem y_137 {a b : Prop} (k : b) (h : Rm b → a := by intro k;refine R.Zpf (by rfl) (by intro _ _ _;(first|refine Z01 ?_|refine Z02 ?_|refine Z16 ?_|refine Z17 ?_|refine Z18 ?_|refine Z38 ?_|refine Z71 ?_);exact Zq) ?_;exact k.h) : a := h ⟨k⟩
set_option maxHeartbeats 8000000 in
theorem rpoly_spec {a e : Nat} (ha : a < W ^ 6) (he : e < W ^ 6) (wh : Nat) : Spec Tryz.prog 53 [N .i64 wh, LV .u64 (D 6 a ++ D 6 e)] NoPre [] (IsV (LV .u64 (E2 (pol (k2 a e) (rL wh))))) := by
 refine mk_spec Tryz.func53 rfl rfl rfl fun w hr => ?_
 have hl0 := fun x => D_len 6 x
 have hle := fun x : F2 => E2_len x
 have hz12 := zero12
 have hm := fun x => tmulX ha he x
 generalize k2 a e = x at hm ⊢
 have hlen : (rL wh).length = 4 := by
  by_cases h : wh % 2 = 0
  ·rw [rL, if_pos h]; exact undL_len _
  ·rw [rL, if_neg h]; exact numL_len _
 repeat (first|(refine y_62 ?_;intro _)|refine y_136 ?_|refine Z81 fun _ => ?_|refine Z82 fun _ => ?_)
 rename_i b3 b4 b5
 refine st_loop (ι := Nat) (fun j => j ≤ 4) (fun j => [(0, N .i64 wh), (3, pt b3 0), (4, pt b4 0), (5, pt b5 0), (6, .int .i64 ((j : Int) - 1))])
  (fun j => [.blk b5 (LV .u64 (E2 (pol x ((rL wh).drop j)))) 29, .blk b4 (LV .u64 (List.replicate 12 0)) 29, .blk b3 (LV .u64 (D 6 a ++ D 6 e)) 29]) (fun j => j) 4 (Nat.le_refl _) (by repeat (first|apply subL.nil|refine subL.cons (by rfl) ?_)) (by rw [← hlen, List.drop_length, show pol x [] = Kf.K2.zero from rfl, ← hz12]; exact (by repeat (first|apply SubW.nil|refine y_8 ?_))) ?_
 intro j hj
 repeat (first|refine y_136 ?_|refine Z81 fun _ => ?_|refine Z82 fun _ => ?_)
 refine st_cond (by rfl) (fun h => ?_) (fun h => ?_)
 ·have h0 : (0 : Int) ≤ (j : Int) - 1 := h
  obtain ⟨i, rfl⟩ : ∃ i, j = i + 1 := ⟨j - 1, by omega⟩
  rw [show ((i + 1 : Nat) : Int) - 1 = Int.ofNat i by simp]
  have hi : i < 4 := by omega
  obtain ⟨c, hc⟩ : ∃ c, (rL wh)[i]? = some c := ⟨_, List.getElem?_eq_getElem (by omega)⟩
  obtain ⟨c', hc'⟩ : ∃ c, (numL wh)[i]? = some c := ⟨_, List.getElem?_eq_getElem (by rw [numL_len]; omega)⟩
  have hn := rnum_spec wh i hi c' hc'
  have had := taddE (Kf.K2.mul (pol x ((rL wh).drop (i + 1))) x) c
  rw [← pol_drop x hc] at had
  repeat (first|(refine y_62 ?_;intro _)|refine y_3 hn ?_|refine y_136 ?_|refine Z81 fun _ => ?_|refine Z82 fun _ => ?_)
  refine st_cond (by rfl) (fun hev => ?_) (fun hev => ?_)
  ·rw [rL, if_pos hev] at hc
   have hu := rund_spec wh i hi c hc
   repeat (first|refine y_3 hu ?_|refine y_136 ?_|refine Z81 fun _ => ?_|refine Z82 fun _ => ?_)
   refine R.st_perm [0, 1, 2, 3, 4, 5] (by rfl) ?_
   repeat (first|refine y_137 ?_|refine y_202 ?_|refine y_68 ?_|refine y_69 (hm _) ?_|refine y_69 had ?_|refine y_199 ?_|(refine y_60 ?_;intro _)|refine R.Zpo (by rfl) ?_)
   refine R.Zp0 ?_
   repeat (first|refine y_136 ?_|refine Z81 fun _ => ?_|refine Z82 fun _ => ?_)
   refine st_round i (by omega) (by omega) ?_ (by repeat (first|apply SubW.nil|refine y_8 ?_))
   rw [show ((i : Int) - 1) = Int.ofNat i - Int.ofNat 1 from rfl]
   exact (by repeat (first|apply subL.nil|refine subL.cons (by rfl) ?_))
  ·rw [rL, if_neg hev, hc'] at hc
   cases hc
   repeat (first|refine y_136 ?_|refine Z81 fun _ => ?_|refine Z82 fun _ => ?_)
   refine R.st_perm [0, 1, 2, 3, 4, 5] (by rfl) ?_
   repeat (first|refine y_137 ?_|refine y_202 ?_|refine y_68 ?_|refine y_69 (hm _) ?_|refine y_69 had ?_|refine y_199 ?_|(refine y_60 ?_;intro _)|refine R.Zpo (by rfl) ?_)
   refine R.Zp0 ?_
   repeat (first|refine y_136 ?_|refine Z81 fun _ => ?_|refine Z82 fun _ => ?_)
   refine st_round i (by omega) (by omega) ?_ (by repeat (first|apply SubW.nil|refine y_8 ?_))
   rw [show ((i : Int) - 1) = Int.ofNat i - Int.ofNat 1 from rfl]
   exact (by repeat (first|apply subL.nil|refine subL.cons (by rfl) ?_))
 ·have hp0 : ¬ (0 : Int) ≤ (j : Int) - 1 := h
  have hj0 : j = 0 := by omega
  subst hj0
  rw [List.drop_zero]
  repeat (first|refine y_136 ?_|refine Z81 fun _ => ?_|refine Z82 fun _ => ?_)
  refine Zec fun _ hw => post_of hw SubW.nil ⟨?_, rfl⟩
  rfl
set_option maxHeartbeats 8000000 in
theorem riso_spec {a e f g : Nat} (ha : a < W ^ 6) (he : e < W ^ 6) (hf : f < W ^ 6) (hg : g < W ^ 6) : Spec Tryz.prog 20 [LV .u64 (D 6 a ++ D 6 e), LV .u64 (D 6 f ++ D 6 g)] NoPre [] (IsV (GE (isoP (k2 a e) (k2 f g)).1 (isoP (k2 a e) (k2 f g)).2.1 (isoP (k2 a e) (k2 f g)).2.2)) := by
 refine mk_spec Tryz.func20 rfl rfl rfl fun w _ => ?_
 have hl0 := fun x => D_len 6 x
 have hle := fun x : F2 => E2_len x
 have hp1 : Spec Tryz.prog 53 [N .i64 1, LV .u64 (D 6 a ++ D 6 e)] NoPre [] (IsV (LV .u64 (E2 (pol (k2 a e) Q1)))) := rpoly_spec ha he 1
 have hp2 : Spec Tryz.prog 53 [N .i64 2, LV .u64 (D 6 a ++ D 6 e)] NoPre [] (IsV (LV .u64 (E2 (pol (k2 a e) Q2z)))) := rpoly_spec ha he 2
 have hp3 : Spec Tryz.prog 53 [N .i64 3, LV .u64 (D 6 a ++ D 6 e)] NoPre [] (IsV (LV .u64 (E2 (pol (k2 a e) Q3)))) := rpoly_spec ha he 3
 have hp4 : Spec Tryz.prog 53 [N .i64 4, LV .u64 (D 6 a ++ D 6 e)] NoPre [] (IsV (LV .u64 (E2 (pol (k2 a e) Q4)))) := rpoly_spec ha he 4
 rw [pol_Q2z] at hp2
 have hmy := fun x => tmulY hf hg x
 generalize k2 a e = x at hp1 hp2 hp3 hp4 ⊢
 generalize k2 f g = y at hmy ⊢
 have hI1 := isoP_1 (x := x) (y := y) rfl rfl
 have hI0 := isoP_0 (x := x) (y := y) rfl rfl rfl rfl
 generalize pol x Q1 = q1 at *
 generalize pol x Q2 = q2 at *
 generalize pol x Q3 = q3 at *
 generalize pol x Q4 = q4 at *
 repeat (first|(refine y_62 ?_;intro _)|(refine y_125 ?_;intro _)|refine y_3 hp2 ?_|refine y_3 hp4 ?_|refine y_127 ?_|refine Z81 fun _ => ?_|refine Z82 fun _ => ?_)
 by_cases z2 : q2 = Kf.K2.zero
 ·have hz2 : (decide (D 6 q2.re.val = D 6 (Kf.K2.zero : F2).re.val) && decide (D 6 q2.im.val = D 6 (Kf.K2.zero : F2).im.val)) = true := by rw [z2]; exact E2_same _
  rw [hI1 (.inl z2)]
  repeat (first|refine y_94 ?_|refine y_124 hz2 ?_|refine y_219 ?_|refine Z81 fun _ => ?_|refine Z82 fun _ => ?_)
  refine st_endc_GL (m := 24) (by rfl) (by rfl) (by repeat first|apply Find.here|apply Find.there) (by rfl) (by rfl) (by first|with_reducible assumption|simp) fun _ hw => post_of hw SubW.nil ⟨?_, rfl⟩
  rfl
 ·by_cases z4 : q4 = Kf.K2.zero
  ·have hz4 : (decide (D 6 q4.re.val = D 6 (Kf.K2.zero : F2).re.val) && decide (D 6 q4.im.val = D 6 (Kf.K2.zero : F2).im.val)) = true := by rw [z4]; exact E2_same _
   rw [hI1 (.inr z4)]
   repeat (first|refine y_94 ?_|refine y_124 (E2_diff z2) ?_|refine y_124 hz4 ?_|refine y_219 ?_|refine Z81 fun _ => ?_|refine Z82 fun _ => ?_)
   refine st_endc_GL (m := 24) (by rfl) (by rfl) (by repeat first|apply Find.here|apply Find.there) (by rfl) (by rfl) (by first|with_reducible assumption|simp) fun _ hw => post_of hw SubW.nil ⟨?_, rfl⟩
   rfl
  ·rw [hI0 z2 z4]
   have hi2 := tinvE q2
   have hm2 := tmulE q1 (Kf.K2.inv q2)
   have hi4 := tinvE q4
   have hm4 := tmulE q3 (Kf.K2.inv q4)
   have hmm := hmy (Kf.K2.mul q3 (Kf.K2.inv q4))
   generalize Kf.K2.mul y (Kf.K2.mul q3 (Kf.K2.inv q4)) = s1 at hmm ⊢
   generalize Kf.K2.mul q3 (Kf.K2.inv q4) = s2 at hm4 hmm
   generalize Kf.K2.inv q4 = s3 at hi4 hm4
   generalize Kf.K2.mul q1 (Kf.K2.inv q2) = s4 at hm2 ⊢
   generalize Kf.K2.inv q2 = s5 at hi2 hm2
   clear hI0 hI1
   repeat (first|refine y_94 ?_|refine y_124 (E2_diff z2) ?_|refine y_124 (E2_diff z4) ?_|refine y_127 ?_|refine Z81 fun _ => ?_|refine Z82 fun _ => ?_)
   refine R.st_perm [0, 1, 2, 3, 4, 5, 6, 7, 8, 9, 10, 11, 12, 13] (by rfl) ?_
   repeat (first|(refine R.Zpf (by rfl) (by intro _ _ _;(first|refine y_65 ?_|refine y_72 ?_|refine y_73 ?_|refine y_130 ?_|refine Z01 ?_|refine Z49 ?_|refine Z50 ?_|refine Z65 ?_|refine Z77 ?_|refine Z78 ?_|refine Z79 ?_);exact Zq) ?_)|refine y_202 ?_|refine y_68 ?_|refine y_69 hp1 ?_|refine y_69 hi2 ?_|refine y_69 hm2 ?_|refine y_69 hp3 ?_|refine y_69 hi4 ?_|refine y_69 hm4 ?_|refine y_69 hmm ?_|refine y_263 ?_|(refine y_60 ?_;intro _)|refine R.Zpo (by rfl) ?_)
   refine R.Zp0 ?_
   repeat (first|refine y_127 ?_|refine Z81 fun _ => ?_|refine Z82 fun _ => ?_)
   refine st_endc_GL (m := 24) (by rfl) (by rfl) (by repeat first|apply Find.here|apply Find.there) (by rfl) (by rfl) (by first|with_reducible assumption|simp) fun _ hw => post_of hw SubW.nil ⟨?_, rfl⟩
   rfl
end Go.Proofs.YtbpmbdlgmmabcaaGreat.L
namespace Go.Proofs.YtbpmbdlgmmabcaaGreat.L
open Go Go.Proofs
set_option maxRecDepth 100000
attribute [local irreducible] Code.wp wpList Af bodyPost L.Go PartAt
open Num
attribute [local simp] D_len
abbrev G4 (a b e f : Nat) (i : Bool) : Value := GL ((D 6 a ++ D 6 b) ++ (D 6 e ++ D 6 f)) i
theorem b4E : (D 6 4 ++ D 6 4 : List Nat) = E2 b2c := by decide +kernel
theorem four6 : [4] ++ List.replicate (6 - [4].length) 0 = D 6 4 := by decide +kernel
theorem y_138 {a b : Prop} (k : b) (h : Rm b → a := by intro k;refine st_buildP (kk := .u64) (vs := [4]) (by rfl) (by rfl) (by rfl) (by rfl) (by rfl) (by rfl) (by rfl) (by rfl) ?_; rw [four6];exact k.h) : a := h ⟨k⟩
theorem y_221 {a b : Prop} (k : b) (h : Rm b → a := by intro k;(first|refine y_138 ?_|refine y_65 ?_|refine y_96 ?_|refine Z03 ?_|refine Z04 ?_|refine Z05 ?_|refine Z06 ?_|refine Z07 ?_|refine Z08 ?_|refine Z09 ?_|refine Z10 ?_|refine Z11 ?_|refine Z12 ?_|refine Z13 ?_|refine Z14 ?_|refine Z29 ?_|refine Z30 ?_|refine Z31 ?_|refine Z32 ?_|refine Z65 ?_);exact k.h) : a := h ⟨k⟩
theorem gb_spec : Spec Tryz.prog 119 [] NoPre [] (IsV (LV .u64 (E2 b2c))) := by
 refine mk_spec Tryz.func119 rfl rfl rfl fun w _ => ?_
 repeat (first|(refine y_62 ?_;intro _)|refine y_221 ?_|refine Z82 fun _ => ?_)
 refine Zec fun _ hw => post_of hw SubW.nil ⟨?_, rfl⟩
 rw [← b4E]
theorem y_139 {a b : Prop} (k : b) (h : Rm b → a := by intro k;(first|refine Z01 ?_|refine Z02 ?_|refine Z03 ?_|refine Z04 ?_|refine Z05 ?_|refine Z06 ?_|refine Z07 ?_|refine Z08 ?_|refine Z09 ?_|refine Z10 ?_|refine Z11 ?_|refine Z12 ?_|refine Z13 ?_|refine Z14 ?_|refine Z24 ?_|refine Z25 ?_|refine Z26 ?_|refine Z27 ?_|refine Z28 ?_|refine Z49 ?_|refine Z50 ?_|refine Z51 ?_|refine Z52 ?_|refine Z53 ?_|refine Z67 ?_|refine Z77 ?_|refine Z78 ?_|refine Z79 ?_);exact k.h) : a := h ⟨k⟩
theorem y_140 {a b : Prop} (k : b) (h : Rm b → a := by intro k;refine Zqp (by intro _ _ _;refine st_ldbG (by rfl) (by repeat first|apply Find.here|apply Find.there) (by rfl) (by first|with_reducible assumption|simp) (by rfl) ?_;exact Zq) ?_;exact k.h) : a := h ⟨k⟩
theorem y_141 {a b : Prop} (k : b) (h : Rm b → a := by intro k;refine Zqp (by intro _ _ _;(refine st_ldpG (by rfl) (by repeat first|apply Find.here|apply Find.there) (by rfl) (by rfl) (by first | (refine PartAt.l ?_; (simp; done)) | (refine PartAt.r ?_ ?_ <;> (simp; done)) | (refine PartAt.all ?_; (simp; done))) (by rfl) ?_);exact Zq) ?_;exact k.h) : a := h ⟨k⟩
theorem y_222 {a b : Prop} (k : b) (h : Rm b → a := by intro k;(first|refine y_64 ?_|refine y_73 ?_|refine Z01 ?_|refine Z02 ?_|refine Z49 ?_|refine Z50 ?_|refine Z77 ?_|refine Z78 ?_|refine Z79 ?_);exact k.h) : a := h ⟨k⟩
theorem gon_spec {a b e f : Nat} (ha : a < W ^ 6) (hb : b < W ^ 6) (he : e < W ^ 6) (hf : f < W ^ 6) (i : Bool) : Spec Tryz.prog 75 [G4 a b e f i] NoPre [] (IsV (.bool (i || decide (Kf.K2.mul (k2 e f) (k2 e f) = Kf.K2.add (Kf.K2.mul (Kf.K2.mul (k2 a b) (k2 a b)) (k2 a b)) b2c)))) := by
 refine mk_spec Tryz.func75 rfl rfl rfl fun w _ => ?_
 have hl0 := fun x => D_len 6 x
 have hle := fun x : F2 => E2_len x
 cases i with
 | true =>
  repeat (first|refine y_139 ?_|refine Z81 fun _ => ?_)
  refine st_draw1 (by rfl) ?_
  repeat (first|(refine Zqf (by intro _ _ _;(first|refine y_222 ?_);exact Zq) ?_)|refine y_140 ?_|refine y_66 ?_|refine y_196 ?_|refine Zqn ?_)
  refine Zq0 ?_ (by kernel_rfl)
  repeat (first|refine y_139 ?_|refine Z81 fun _ => ?_)
  refine Ze1 fun _ hw => post_of hw SubW.nil ⟨?_, rfl⟩
  rfl
 | false =>
  rw [Bool.false_or]
  have hm1 := smul_spec he hf he hf
  have hm2 := smul_spec ha hb ha hb
  have hm3 := smulX ha hb (Kf.K2.mul (k2 a b) (k2 a b))
  generalize k2 a b = x at hm2 hm3 ⊢
  generalize k2 e f = y at hm1 ⊢
  have had := saddE (Kf.K2.mul (Kf.K2.mul x x) x) b2c
  generalize Kf.K2.add (Kf.K2.mul (Kf.K2.mul x x) x) b2c = r at had ⊢
  generalize Kf.K2.mul (Kf.K2.mul x x) x = r1 at hm3 had
  generalize Kf.K2.mul x x = r2 at hm2 hm3
  generalize Kf.K2.mul y y = q at hm1 ⊢
  repeat (first|refine y_139 ?_|refine Z81 fun _ => ?_)
  refine st_draw1 (by rfl) ?_
  repeat (first|(refine Zqf (by intro _ _ _;(first|refine y_124 (E2_iff q r) ?_|refine y_222 ?_);exact Zq) ?_)|refine y_140 ?_|refine y_141 ?_|refine y_66 ?_|(refine Zqp (by intro _ _ _;refine st_callV (by rfl) (by rfl) (by rfl) (gb_spec) (fun _ _ => trivial) (by rfl) ?_;exact Zq) ?_)|refine y_41 hm1 ?_|refine y_41 hm2 ?_|refine y_41 hm3 ?_|refine y_41 had ?_|refine y_196 ?_|refine Zqn ?_)
  refine Zq0 ?_ (by kernel_rfl)
  repeat (first|refine y_139 ?_|refine Z81 fun _ => ?_)
  refine Ze1 fun _ hw => post_of hw SubW.nil ⟨?_, rfl⟩
  rfl
def gx (P : Kf.K2.Pt p) : F2 := match P with
 | none => Kf.K2.zero
 | some q => q.1
def gy (P : Kf.K2.Pt p) : F2 := match P with
 | none => Kf.K2.zero
 | some q => q.2
def gi (P : Kf.K2.Pt p) : Bool := P.isNone
abbrev GV (P : Kf.K2.Pt p) : Value := GE (gx P) (gy P) (gi P)
def ptv (x y : F2) (i : Bool) : Kf.K2.Pt p := if i = true then none else some (x, y)
theorem ptv_t (x y : F2) : ptv x y true = none := rfl
theorem ptv_f (x y : F2) : ptv x y false = some (x, y) := rfl
theorem GV_none : GV none = GE Kf.K2.zero Kf.K2.zero true := rfl
theorem GV_some (x y : F2) : GV (some (x, y)) = GE x y false := rfl
theorem ptv_gv (P : Kf.K2.Pt p) : ptv (gx P) (gy P) (gi P) = P := by
 cases P with
 | none => rfl
 | some q => rfl
theorem y_142 {a b : Prop} (k : b) (h : Rm b → a := by intro k;refine st_ldbG (by rfl) (by repeat first|apply Find.here|apply Find.there) (by rfl) (by first|with_reducible assumption|simp) (by rfl) ?_;exact k.h) : a := h ⟨k⟩
theorem y_143 {a b : Prop} (k : b) (h : Rm b → a := by intro k;refine R.Zpp (by rfl) (by intro _ _ _;(refine st_ldpG (by rfl) (by repeat first|apply Find.here|apply Find.there) (by rfl) (by rfl) (by first | (refine PartAt.l ?_; (simp; done)) | (refine PartAt.r ?_ ?_ <;> (simp; done)) | (refine PartAt.all ?_; (simp; done))) (by rfl) ?_);exact Zq) ?_;exact k.h) : a := h ⟨k⟩
theorem y_223 {a b : Prop} (k : b) (h : Rm b → a := by intro k;(first|refine y_64 ?_|refine y_71 ?_|refine y_65 ?_|refine y_128 ?_|refine Z03 ?_|refine Z04 ?_|refine Z05 ?_|refine Z06 ?_|refine Z07 ?_|refine Z08 ?_|refine Z09 ?_|refine Z10 ?_|refine Z11 ?_|refine Z12 ?_|refine Z13 ?_|refine Z14 ?_|refine Z24 ?_|refine Z25 ?_|refine Z26 ?_|refine Z27 ?_|refine Z28 ?_|refine Z29 ?_|refine Z30 ?_|refine Z31 ?_|refine Z32 ?_|refine Z65 ?_|refine Z67 ?_);exact k.h) : a := h ⟨k⟩
theorem y_224 {a b : Prop} (k : b) (h : Rm b → a := by intro k;refine R.Zpf (by rfl) (by intro _ _ _;(first|refine y_64 ?_|refine y_65 ?_|refine y_130 ?_|refine Z65 ?_);exact Zq) ?_;exact k.h) : a := h ⟨k⟩
theorem gred_spec {a b e f : Nat} (ha : a < W ^ 6) (hb : b < W ^ 6) (he : e < W ^ 6) (hf : f < W ^ 6) (i : Bool) : Spec Tryz.prog 41 [G4 a b e f i] NoPre [] (IsV (GV (ptv (k2 a b) (k2 e f) i))) := by
 refine mk_spec Tryz.func41 rfl rfl rfl fun w _ => ?_
 have hl0 := fun x => D_len 6 x
 have hle := fun x : F2 => E2_len x
 cases i with
 | true =>
  rw [ptv_t, GV_none]
  repeat (first|refine y_142 ?_|refine y_129 ?_|(refine y_125 ?_;intro _)|refine y_223 ?_|refine Z81 fun _ => ?_|refine Z82 fun _ => ?_)
  refine st_endc_GL (m := 24) (by rfl) (by rfl) (by repeat first|apply Find.here|apply Find.there) (by rfl) (by rfl) (by first|with_reducible assumption|simp) fun _ hw => post_of hw SubW.nil ⟨?_, rfl⟩
  rfl
 | false =>
  rw [ptv_f, GV_some]
  have h1 := sred_spec ha hb
  have h2 := sred_spec he hf
  repeat (first|refine y_142 ?_|(refine y_125 ?_;intro _)|refine y_207 ?_|refine Z81 fun _ => ?_|refine Z82 fun _ => ?_)
  refine R.st_perm [0, 1, 2, 3, 4, 5, 6, 7] (by rfl) ?_
  repeat (first|refine y_224 ?_|refine y_202 ?_|refine y_143 ?_|refine y_68 ?_|refine y_69 h1 ?_|refine y_69 h2 ?_|refine y_263 ?_|(refine y_60 ?_;intro _)|refine R.Zpo (by rfl) ?_)
  refine R.Zp0 ?_
  repeat (first|refine y_63 ?_|refine Z81 fun _ => ?_|refine Z82 fun _ => ?_)
  refine st_endc_GL (m := 24) (by rfl) (by rfl) (by repeat first|apply Find.here|apply Find.there) (by rfl) (by rfl) (by first|with_reducible assumption|simp) fun _ hw => post_of hw SubW.nil ⟨?_, rfl⟩
  rfl
end Go.Proofs.YtbpmbdlgmmabcaaGreat.L
namespace Go.Proofs.YtbpmbdlgmmabcaaGreat.L
open Go Go.Proofs
set_option maxRecDepth 100000
attribute [local irreducible] Code.wp wpList Af bodyPost L.Go PartAt
open Num
attribute [local simp] D_len
theorem y_144 {a b : Prop} (k : b) (h : Rm b → a := by intro k;(first|refine Z01 ?_|refine Z02 ?_|refine Z03 ?_|refine Z04 ?_|refine Z05 ?_|refine Z06 ?_|refine Z07 ?_|refine Z08 ?_|refine Z09 ?_|refine Z10 ?_|refine Z11 ?_|refine Z12 ?_|refine Z13 ?_|refine Z14 ?_|refine Z24 ?_|refine Z25 ?_|refine Z26 ?_|refine Z27 ?_|refine Z28 ?_|refine Z29 ?_|refine Z30 ?_|refine Z31 ?_|refine Z32 ?_|refine Z49 ?_|refine Z50 ?_|refine Z51 ?_|refine Z52 ?_|refine Z53 ?_|refine Z65 ?_|refine Z67 ?_|refine Z77 ?_|refine Z78 ?_|refine Z79 ?_);exact k.h) : a := h ⟨k⟩
theorem y_145 {a b : Prop} (k : b) (h : Rm b → a := by intro k;refine R.Zpp (by rfl) (by intro _ _ _;refine st_load_GL (m := 24) (by rfl) (by repeat first|apply Find.here|apply Find.there) (by rfl) (by rfl) (by first|with_reducible assumption|simp) (by rfl) ?_;exact Zq) ?_;exact k.h) : a := h ⟨k⟩
theorem y_146 {a b : Prop} (k : b) (h : Rm b → a := by intro k;refine st_load_GL (m := 24) (by rfl) (by repeat first|apply Find.here|apply Find.there) (by rfl) (by rfl) (by first|with_reducible assumption|simp) (by rfl) ?_;exact k.h) : a := h ⟨k⟩
theorem y_147 {a b : Prop} (k : b) (h : Rm b → a := by intro k;refine st_ldpG (by rfl) (by repeat first|apply Find.here|apply Find.there) (by rfl) (by rfl) (by first | (refine PartAt.l ?_; (simp; done)) | (refine PartAt.r ?_ ?_ <;> (simp; done)) | (refine PartAt.all ?_; (simp; done))) (by rfl) ?_;exact k.h) : a := h ⟨k⟩
theorem y_148 {a b : Prop} (k : b) (h : Rm b → a := by intro k;refine st_ne2v (hr := E2_same _) (by rfl) (by rfl) (by rfl) (by kernel_rfl) (by rfl) (by rfl) (by rfl) (by rfl) (by rfl) (by rfl) (by rfl) (by rfl) (by rfl) (by rfl) (by kernel_rfl) (by simp; done) (by simp; done) (by simp; done) (by simp; done) (by rfl) ?_;exact k.h) : a := h ⟨k⟩
theorem y_149 {S1 a b : Prop} (s1 : S1) (k : b) (h : S1 → Rm b → a := by intro s1 k;refine st_ne2v (hr := s1) (by rfl) (by rfl) (by rfl) (by kernel_rfl) (by rfl) (by rfl) (by rfl) (by rfl) (by rfl) (by rfl) (by rfl) (by rfl) (by rfl) (by rfl) (by kernel_rfl) (by simp; done) (by simp; done) (by simp; done) (by simp; done) (by rfl) ?_;exact k.h) : a := h s1 ⟨k⟩
theorem y_225 {a b : Prop} (k : b) (h : Rm b → a := by intro k;(first|refine y_142 ?_|refine y_146 ?_|refine y_129 ?_);exact k.h) : a := h ⟨k⟩
theorem y_226 {a b : Prop} (k : b) (h : Rm b → a := by intro k;(first|refine y_64 ?_|refine y_71 ?_|refine y_65 ?_|refine y_73 ?_|refine y_104 ?_|refine Z01 ?_|refine Z02 ?_|refine Z03 ?_|refine Z04 ?_|refine Z05 ?_|refine Z06 ?_|refine Z07 ?_|refine Z08 ?_|refine Z09 ?_|refine Z10 ?_|refine Z11 ?_|refine Z12 ?_|refine Z13 ?_|refine Z14 ?_|refine Z24 ?_|refine Z25 ?_|refine Z26 ?_|refine Z27 ?_|refine Z28 ?_|refine Z29 ?_|refine Z30 ?_|refine Z31 ?_|refine Z32 ?_|refine Z49 ?_|refine Z50 ?_|refine Z51 ?_|refine Z52 ?_|refine Z53 ?_|refine Z65 ?_|refine Z67 ?_|refine Z77 ?_|refine Z78 ?_|refine Z79 ?_);exact k.h) : a := h ⟨k⟩
theorem y_227 {a b : Prop} (k : b) (h : Rm b → a := by intro k;(first|refine y_142 ?_|refine y_146 ?_|refine y_147 ?_|refine y_129 ?_|refine y_148 ?_);exact k.h) : a := h ⟨k⟩
theorem y_228 {a b : Prop} (k : b) (h : Rm b → a := by intro k;(first|refine y_64 ?_|refine y_65 ?_|refine y_73 ?_|refine y_104 ?_|refine Z01 ?_|refine Z02 ?_|refine Z49 ?_|refine Z50 ?_|refine Z65 ?_|refine Z77 ?_|refine Z78 ?_|refine Z79 ?_);exact k.h) : a := h ⟨k⟩
theorem y_229 {a b : Prop} (k : b) (h : Rm b → a := by intro k;(first|refine y_64 ?_|refine y_65 ?_|refine y_73 ?_|refine y_104 ?_|refine y_130 ?_|refine Z01 ?_|refine Z02 ?_|refine Z49 ?_|refine Z50 ?_|refine Z65 ?_|refine Z77 ?_|refine Z78 ?_|refine Z79 ?_);exact k.h) : a := h ⟨k⟩
theorem y_230 {a b : Prop} (k : b) (h : Rm b → a := by intro k;(first|refine y_64 ?_|refine y_71 ?_|refine y_65 ?_|refine y_73 ?_|refine y_104 ?_|refine y_128 ?_|refine Z01 ?_|refine Z02 ?_|refine Z03 ?_|refine Z04 ?_|refine Z05 ?_|refine Z06 ?_|refine Z07 ?_|refine Z08 ?_|refine Z09 ?_|refine Z10 ?_|refine Z11 ?_|refine Z12 ?_|refine Z13 ?_|refine Z14 ?_|refine Z24 ?_|refine Z25 ?_|refine Z26 ?_|refine Z27 ?_|refine Z28 ?_|refine Z29 ?_|refine Z30 ?_|refine Z31 ?_|refine Z32 ?_|refine Z49 ?_|refine Z50 ?_|refine Z51 ?_|refine Z52 ?_|refine Z53 ?_|refine Z65 ?_|refine Z67 ?_|refine Z77 ?_|refine Z78 ?_|refine Z79 ?_);exact k.h) : a := h ⟨k⟩
theorem y_265 {a b : Prop} (k : b) (h : Rm b → a := by intro k;refine R.Zpf (by rfl) (by intro _ _ _;(first|refine y_228 ?_);exact Zq) ?_;exact k.h) : a := h ⟨k⟩
theorem y_266 {a b : Prop} (k : b) (h : Rm b → a := by intro k;(first|(refine R.Zpf (by rfl) (by intro _ _ _;(first|refine y_229 ?_);exact Zq) ?_)|refine y_202 ?_|refine y_143 ?_|refine y_68 ?_);exact k.h) : a := h ⟨k⟩
theorem y_281 {a b : Prop} (k : b) (h : Rm b → a := by intro k;(first|refine y_265 ?_|refine y_202 ?_|refine y_143 ?_|refine y_68 ?_);exact k.h) : a := h ⟨k⟩
set_option maxHeartbeats 8000000 in
theorem gadd_spec {a b e f a' b' e' f' : Nat} (ha : a < W ^ 6) (hb : b < W ^ 6) (he : e < W ^ 6) (hf : f < W ^ 6) (i : Bool) (ha' : a' < W ^ 6) (hb' : b' < W ^ 6) (he' : e' < W ^ 6) (hf' : f' < W ^ 6) (j : Bool) :
  Spec Tryz.prog 17 [G4 a b e f i, G4 a' b' e' f' j] NoPre [] (IsV (GV (Kf.K2.pa (ptv (k2 a b) (k2 e f) i) (ptv (k2 a' b') (k2 e' f') j)))) := by
 refine mk_spec Tryz.func17 rfl rfl rfl fun w _ => ?_
 have hl0 := fun x => D_len 6 x
 have hle := fun x : F2 => E2_len x
 have h1 := gred_spec ha hb he hf i
 have h2 := gred_spec ha' hb' he' hf' j
 generalize ptv (k2 a b) (k2 e f) i = P at h1 ⊢
 generalize ptv (k2 a' b') (k2 e' f') j = Q at h2 ⊢
 obtain ⟨x1, y1, i1, ex1, ey1, ei1⟩ : ∃ x y i, x = gx P ∧ y = gy P ∧ i = gi P := ⟨_, _, _, rfl, rfl, rfl⟩
 obtain ⟨x2, y2, i2, ex2, ey2, ei2⟩ : ∃ x y i, x = gx Q ∧ y = gy Q ∧ i = gi Q := ⟨_, _, _, rfl, rfl, rfl⟩
 have g1 : GV P = GE x1 y1 i1 := by rw [ex1, ey1, ei1]
 have g2 : GV Q = GE x2 y2 i2 := by rw [ex2, ey2, ei2]
 rw [g1] at h1
 rw [g2] at h2
 repeat (first|(refine y_125 ?_;intro _)|refine y_144 ?_|refine Z81 fun _ => ?_|refine Z82 fun _ => ?_)
 refine R.st_perm [0, 1, 2, 3, 4, 5] (by rfl) ?_
 repeat (first|(refine R.Zpf (by rfl) (by intro _ _ _;(first|refine Z01 ?_|refine Z02 ?_|refine Z49 ?_|refine Z50 ?_|refine Z65 ?_|refine Z77 ?_|refine Z78 ?_|refine Z79 ?_);exact Zq) ?_)|refine y_202 ?_|refine y_145 ?_|refine y_69 h1 ?_|refine y_69 h2 ?_|refine y_263 ?_|(refine y_60 ?_;intro _)|refine R.Zpo (by rfl) ?_)
 refine R.Zp0 ?_
 clear h1 h2 g1
 cases P with
 | none =>
  cases (show i1 = true from ei1)
  rw [show Kf.K2.pa none Q = Q from rfl, g2]
  repeat (first|refine y_225 ?_|(refine y_62 ?_;intro _)|refine y_226 ?_|refine Z81 fun _ => ?_|refine Z82 fun _ => ?_)
  refine st_endc_GL (m := 24) (by rfl) (by rfl) (by repeat first|apply Find.here|apply Find.there) (by rfl) (by rfl) (by first|with_reducible assumption|simp) fun _ hw => post_of hw SubW.nil ⟨?_, rfl⟩
  rfl
 | some q1 =>
  obtain ⟨a1, b1⟩ := q1
  cases (show x1 = a1 from ex1)
  cases (show y1 = b1 from ey1)
  cases (show i1 = false from ei1)
  clear ex1 ey1 ei1 g2
  cases Q with
  | none =>
   cases (show i2 = true from ei2)
   rw [Kf.K2.pa_none_right, GV_some]
   repeat (first|refine y_225 ?_|(refine y_62 ?_;intro _)|refine y_226 ?_|refine Z81 fun _ => ?_|refine Z82 fun _ => ?_)
   refine st_endc_GL (m := 24) (by rfl) (by rfl) (by repeat first|apply Find.here|apply Find.there) (by rfl) (by rfl) (by first|with_reducible assumption|simp) fun _ hw => post_of hw SubW.nil ⟨?_, rfl⟩
   rfl
  | some q2 =>
   obtain ⟨a2, b2⟩ := q2
   cases (show x2 = a2 from ex2)
   cases (show y2 = b2 from ey2)
   cases (show i2 = false from ei2)
   clear ex2 ey2 ei2
   by_cases hx : x1 = x2
   ·by_cases hy : y1 = y2 ∧ y1 ≠ Kf.K2.zero
    ·have hpa : Kf.K2.pa (some (x1, y1)) (some (x2, y2)) = some (Kf.K2.cx (Kf.K2.tang x1 y1) x1 x2, Kf.K2.cy (Kf.K2.tang x1 y1) x1 y1 x2) := by
      show (if x1 = x2 then if y1 = y2 ∧ y1 ≠ Kf.K2.zero then _ else _ else _) = _
      rw [if_pos hx, if_pos hy]
     rw [hpa, GV_some]
     obtain ⟨hy1, hy2⟩ := hy
     subst hx
     subst hy1
     have m1 := smulE x1 x1
     have m2 := saddE (Kf.K2.mul x1 x1) (Kf.K2.mul x1 x1)
     have m3 := saddE (Kf.K2.add (Kf.K2.mul x1 x1) (Kf.K2.mul x1 x1)) (Kf.K2.mul x1 x1)
     have m4 := saddE y1 y1
     rw [Kf.K2.tang, Kf.K2.q3]
     clear hpa
     generalize Kf.K2.add (Kf.K2.add (Kf.K2.mul x1 x1) (Kf.K2.mul x1 x1)) (Kf.K2.mul x1 x1) = u at m3 ⊢
     generalize Kf.K2.add (Kf.K2.mul x1 x1) (Kf.K2.mul x1 x1) = u1 at m2 m3
     generalize Kf.K2.mul x1 x1 = u2 at m1 m2 m3
     generalize Kf.K2.add y1 y1 = v at m4 ⊢
     repeat (first|refine y_227 ?_|refine y_124 (E2_diff hy2) ?_|refine y_94 ?_|(refine y_62 ?_;intro _)|refine y_64 ?_|refine y_71 ?_|refine y_65 ?_|refine y_73 ?_|refine y_104 ?_|refine y_3 m1 ?_|refine y_144 ?_|refine Z81 fun _ => ?_|refine Z82 fun _ => ?_)
     refine R.st_perm [0, 1, 2, 3, 4, 5, 6, 7, 8, 9, 10, 11] (by rfl) ?_
     repeat (first|refine y_281 ?_|refine y_69 m2 ?_|refine y_69 m3 ?_|refine y_69 m4 ?_|refine y_199 ?_|(refine y_60 ?_;intro _)|refine R.Zpo (by rfl) ?_)
     refine R.Zp0 ?_
     repeat (first|refine y_144 ?_|refine Z81 fun _ => ?_|refine Z82 fun _ => ?_)
     obtain ⟨l, hl⟩ : ∃ l : F2, l = Kf.K2.mul u (Kf.K2.inv v) := ⟨_, rfl⟩
     have k1 := sinvE v
     have k2 := smulE u (Kf.K2.inv v)
     rw [← hl] at k2 ⊢
     generalize Kf.K2.inv v = vi at k1 k2
     clear hl
     have k3 := smulE l l
     have k4 := ssubE (Kf.K2.mul l l) x1
     have k5 := ssubE (Kf.K2.sub (Kf.K2.mul l l) x1) x1
     have k6 := ssubE x1 (Kf.K2.cx l x1 x1)
     have k7 := smulE l (Kf.K2.sub x1 (Kf.K2.cx l x1 x1))
     have k8 := ssubE (Kf.K2.mul l (Kf.K2.sub x1 (Kf.K2.cx l x1 x1))) y1
     rw [show Kf.K2.sub (Kf.K2.sub (Kf.K2.mul l l) x1) x1 = Kf.K2.cx l x1 x1 from rfl] at k5
     rw [show Kf.K2.sub (Kf.K2.mul l (Kf.K2.sub x1 (Kf.K2.cx l x1 x1))) y1 = Kf.K2.cy l x1 y1 x1 from rfl] at k8
     generalize Kf.K2.cy l x1 y1 x1 = yy at k8 ⊢
     generalize Kf.K2.mul l (Kf.K2.sub x1 (Kf.K2.cx l x1 x1)) = g1 at k7 k8
     generalize Kf.K2.sub x1 (Kf.K2.cx l x1 x1) = g2 at k6 k7
     generalize Kf.K2.cx l x1 x1 = xx at k5 k6 ⊢
     generalize Kf.K2.sub (Kf.K2.mul l l) x1 = g3 at k4 k5
     generalize Kf.K2.mul l l = g4 at k3 k4
     refine R.st_perm [0, 1, 2, 3, 4, 5] (by rfl) ?_
     repeat (first|refine y_265 ?_|refine y_202 ?_|refine y_68 ?_|refine y_69 k1 ?_|refine y_69 k2 ?_|refine y_199 ?_|(refine y_102 ?_;intro _)|(refine y_60 ?_;intro _)|refine R.Zpo (by rfl) ?_)
     refine R.Zp0 ?_
     repeat (first|refine y_144 ?_|refine Z81 fun _ => ?_|refine Z82 fun _ => ?_)
     refine R.st_perm [0, 1, 2, 3, 4, 5, 6, 7, 8, 9, 10] (by rfl) ?_
     repeat (first|refine y_281 ?_|refine y_69 k3 ?_|refine y_69 k4 ?_|refine y_69 k5 ?_|refine y_199 ?_|(refine y_102 ?_;intro _)|(refine y_60 ?_;intro _)|refine R.Zpo (by rfl) ?_)
     refine R.Zp0 ?_
     repeat (first|refine y_144 ?_|refine Z81 fun _ => ?_|refine Z82 fun _ => ?_)
     refine R.st_perm [0, 1, 2, 3, 4, 5, 6, 7, 8, 9, 10, 11] (by rfl) ?_
     repeat (first|refine y_266 ?_|refine y_69 k6 ?_|refine y_69 k7 ?_|refine y_69 k8 ?_|refine y_263 ?_|(refine y_60 ?_;intro _)|refine R.Zpo (by rfl) ?_)
     refine R.Zp0 ?_
     repeat (first|refine y_144 ?_|refine Z81 fun _ => ?_|refine Z82 fun _ => ?_)
     refine st_endc_GL (m := 24) (by rfl) (by rfl) (by repeat first|apply Find.here|apply Find.there) (by rfl) (by rfl) (by first|with_reducible assumption|simp) fun _ hw => post_of hw SubW.nil ⟨?_, rfl⟩
     rfl
    ·have hpa : Kf.K2.pa (some (x1, y1)) (some (x2, y2)) = none := by
      show (if x1 = x2 then if y1 = y2 ∧ y1 ≠ Kf.K2.zero then _ else _ else _) = _
      rw [if_pos hx, if_neg hy]
     rw [hpa, GV_none]
     subst hx
     by_cases hy1 : y1 = y2
     ·subst hy1
      have hy2 : y1 = Kf.K2.zero := Classical.not_not.1 fun h => hy ⟨rfl, h⟩
      have hz2 : (decide (D 6 y1.re.val = D 6 (Kf.K2.zero : F2).re.val) && decide (D 6 y1.im.val = D 6 (Kf.K2.zero : F2).im.val)) = true := by rw [hy2]; exact E2_same _
      repeat (first|refine y_227 ?_|refine y_124 hz2 ?_|refine y_94 ?_|(refine y_62 ?_;intro _)|refine y_230 ?_|refine Z81 fun _ => ?_|refine Z82 fun _ => ?_)
      refine st_endc_GL (m := 24) (by rfl) (by rfl) (by repeat first|apply Find.here|apply Find.there) (by rfl) (by rfl) (by first|with_reducible assumption|simp) fun _ hw => post_of hw SubW.nil ⟨?_, rfl⟩
      rfl
     ·repeat (first|refine y_227 ?_|refine y_149 (E2_diff hy1) ?_|(refine y_62 ?_;intro _)|refine y_230 ?_|refine Z81 fun _ => ?_|refine Z82 fun _ => ?_)
      refine st_endc_GL (m := 24) (by rfl) (by rfl) (by repeat first|apply Find.here|apply Find.there) (by rfl) (by rfl) (by first|with_reducible assumption|simp) fun _ hw => post_of hw SubW.nil ⟨?_, rfl⟩
      rfl
   ·have hpa : Kf.K2.pa (some (x1, y1)) (some (x2, y2)) = some (Kf.K2.cx (Kf.K2.chor x1 y1 x2 y2) x1 x2, Kf.K2.cy (Kf.K2.chor x1 y1 x2 y2) x1 y1 x2) := by
     show (if x1 = x2 then _ else _) = _
     rw [if_neg hx]
    rw [hpa, GV_some]
    have m1 := ssubE y2 y1
    have m2 := ssubE x2 x1
    rw [Kf.K2.chor]
    generalize Kf.K2.sub y2 y1 = u at m1 ⊢
    generalize Kf.K2.sub x2 x1 = v at m2 ⊢
    repeat (first|refine y_142 ?_|refine y_146 ?_|refine y_147 ?_|refine y_129 ?_|refine y_149 (E2_diff hx) ?_|(refine y_62 ?_;intro _)|refine y_226 ?_|refine Z81 fun _ => ?_|refine Z82 fun _ => ?_)
    refine R.st_perm [0, 1, 2, 3, 4, 5, 6, 7, 8, 9, 10, 11] (by rfl) ?_
    repeat (first|refine y_281 ?_|refine y_69 m1 ?_|refine y_69 m2 ?_|refine y_199 ?_|(refine y_60 ?_;intro _)|refine R.Zpo (by rfl) ?_)
    refine R.Zp0 ?_
    repeat (first|refine y_144 ?_|refine Z81 fun _ => ?_|refine Z82 fun _ => ?_)
    obtain ⟨l, hl⟩ : ∃ l : F2, l = Kf.K2.mul u (Kf.K2.inv v) := ⟨_, rfl⟩
    have k1 := sinvE v
    have k2 := smulE u (Kf.K2.inv v)
    rw [← hl] at k2 ⊢
    generalize Kf.K2.inv v = vi at k1 k2
    clear hl
    have k3 := smulE l l
    have k4 := ssubE (Kf.K2.mul l l) x1
    have k5 := ssubE (Kf.K2.sub (Kf.K2.mul l l) x1) x2
    have k6 := ssubE x1 (Kf.K2.cx l x1 x2)
    have k7 := smulE l (Kf.K2.sub x1 (Kf.K2.cx l x1 x2))
    have k8 := ssubE (Kf.K2.mul l (Kf.K2.sub x1 (Kf.K2.cx l x1 x2))) y1
    rw [show Kf.K2.sub (Kf.K2.sub (Kf.K2.mul l l) x1) x2 = Kf.K2.cx l x1 x2 from rfl] at k5
    rw [show Kf.K2.sub (Kf.K2.mul l (Kf.K2.sub x1 (Kf.K2.cx l x1 x2))) y1 = Kf.K2.cy l x1 y1 x2 from rfl] at k8
    generalize Kf.K2.cy l x1 y1 x2 = yy at k8 ⊢
    generalize Kf.K2.mul l (Kf.K2.sub x1 (Kf.K2.cx l x1 x2)) = g1 at k7 k8
    generalize Kf.K2.sub x1 (Kf.K2.cx l x1 x2) = g2 at k6 k7
    generalize Kf.K2.cx l x1 x2 = xx at k5 k6 ⊢
    generalize Kf.K2.sub (Kf.K2.mul l l) x1 = g3 at k4 k5
    generalize Kf.K2.mul l l = g4 at k3 k4
    refine R.st_perm [0, 1, 2, 3, 4, 5] (by rfl) ?_
    repeat (first|refine y_265 ?_|refine y_202 ?_|refine y_68 ?_|refine y_69 k1 ?_|refine y_69 k2 ?_|refine y_199 ?_|(refine y_102 ?_;intro _)|(refine y_60 ?_;intro _)|refine R.Zpo (by rfl) ?_)
    refine R.Zp0 ?_
    repeat (first|refine y_144 ?_|refine Z81 fun _ => ?_|refine Z82 fun _ => ?_)
    refine R.st_perm [0, 1, 2, 3, 4, 5, 6, 7, 8, 9, 10] (by rfl) ?_
    repeat (first|refine y_281 ?_|refine y_69 k3 ?_|refine y_69 k4 ?_|refine y_69 k5 ?_|refine y_199 ?_|(refine y_102 ?_;intro _)|(refine y_60 ?_;intro _)|refine R.Zpo (by rfl) ?_)
    refine R.Zp0 ?_
    repeat (first|refine y_144 ?_|refine Z81 fun _ => ?_|refine Z82 fun _ => ?_)
    refine R.st_perm [0, 1, 2, 3, 4, 5, 6, 7, 8, 9, 10, 11] (by rfl) ?_
    repeat (first|refine y_266 ?_|refine y_69 k6 ?_|refine y_69 k7 ?_|refine y_69 k8 ?_|refine y_263 ?_|(refine y_60 ?_;intro _)|refine R.Zpo (by rfl) ?_)
    refine R.Zp0 ?_
    repeat (first|refine y_144 ?_|refine Z81 fun _ => ?_|refine Z82 fun _ => ?_)
    refine st_endc_GL (m := 24) (by rfl) (by rfl) (by repeat first|apply Find.here|apply Find.there) (by rfl) (by rfl) (by first|with_reducible assumption|simp) fun _ hw => post_of hw SubW.nil ⟨?_, rfl⟩
    rfl
end Go.Proofs.YtbpmbdlgmmabcaaGreat.L
namespace Go.Proofs.YtbpmbdlgmmabcaaGreat.L
open Go Go.Proofs
set_option maxRecDepth 100000
attribute [local irreducible] Code.wp wpList Af bodyPost L.Go PartAt
open Num
attribute [local simp] D_len
abbrev J36 (x y z : F2) : Value := LV .u64 (E2 x ++ (E2 y ++ E2 z))
theorem zero36 : (List.replicate 36 0 : List Nat) = E2 (Kf.K2.zero : F2) ++ (E2 (Kf.K2.zero : F2) ++ E2 (Kf.K2.zero : F2)) := by decide +kernel
theorem J36_len (x y z : F2) : (E2 x ++ (E2 y ++ E2 z)).length = 36 := by simp
theorem y_150 {a b : Prop} (k : b) (h : Rm b → a := by intro k;refine st_alloc (E := 80) (v := LV .u64 (List.replicate 36 0)) (by kernel_rfl) (by rfl) ?_;exact k.h) : a := h ⟨k⟩
theorem y_151 {a b : Prop} (k : b) (h : Rm b → a := by intro k;(first|refine Z01 ?_|refine Z03 ?_|refine Z04 ?_|refine Z05 ?_|refine Z06 ?_|refine Z07 ?_|refine Z08 ?_|refine Z09 ?_|refine Z10 ?_|refine Z11 ?_|refine Z12 ?_|refine Z13 ?_|refine Z14 ?_|refine Z15 ?_|refine Z17 ?_|refine Z18 ?_|refine Z24 ?_|refine Z25 ?_|refine Z26 ?_|refine Z27 ?_|refine Z28 ?_|refine Z29 ?_|refine Z30 ?_|refine Z31 ?_|refine Z32 ?_|refine Z65 ?_|refine Z67 ?_|refine Z70 ?_);exact k.h) : a := h ⟨k⟩
theorem y_152 {a b : Prop} (k : b) (h : Rm b → a := by intro k;refine st_fld (by rfl) (show _ = some (24, 12) from rfl) (by rfl) (by rfl) ?_;exact k.h) : a := h ⟨k⟩
theorem y_153 {a b : Prop} (k : b) (h : Rm b → a := by intro k;refine R.Zpp (by rfl) (by intro _ _ _;(refine st_ldp (by rfl) (by repeat first|apply Find.here|apply Find.there) (by rfl) (by rfl) (PartAt.t0 (E2_len _)) (by rfl) ?_);exact Zq) ?_;exact k.h) : a := h ⟨k⟩
theorem y_154 {a b : Prop} (k : b) (h : Rm b → a := by intro k;refine R.Zpp (by rfl) (by intro _ _ _;(refine st_ldp (by rfl) (by repeat first|apply Find.here|apply Find.there) (by rfl) (by rfl) (PartAt.t1 (E2_len _) (E2_len _)) (by rfl) ?_);exact Zq) ?_;exact k.h) : a := h ⟨k⟩
theorem y_155 {a b : Prop} (k : b) (h : Rm b → a := by intro k;refine R.Zpp (by rfl) (by intro _ _ _;(refine st_ldp (by rfl) (by repeat first|apply Find.here|apply Find.there) (by rfl) (by rfl) (PartAt.t2 (E2_len _) (E2_len _) (E2_len _)) (by rfl) ?_);exact Zq) ?_;exact k.h) : a := h ⟨k⟩
theorem y_156 {a b : Prop} (k : b) (h : Rm b → a := by intro k;refine st_ldp (by rfl) (by repeat first|apply Find.here|apply Find.there) (by rfl) (by rfl) (PartAt.t0 (E2_len _)) (by rfl) ?_;exact k.h) : a := h ⟨k⟩
theorem y_157 {a b : Prop} (k : b) (h : Rm b → a := by intro k;refine st_ldp (by rfl) (by repeat first|apply Find.here|apply Find.there) (by rfl) (by rfl) (PartAt.t1 (E2_len _) (E2_len _)) (by rfl) ?_;exact k.h) : a := h ⟨k⟩
theorem y_158 {a b : Prop} (k : b) (h : Rm b → a := by intro k;refine st_ldp (by rfl) (by repeat first|apply Find.here|apply Find.there) (by rfl) (by rfl) (PartAt.t2 (E2_len _) (E2_len _) (E2_len _)) (by rfl) ?_;exact k.h) : a := h ⟨k⟩
theorem y_159 {a b : Prop} (k : b) (h : Rm b → a := by intro k;refine st_build3 (m := 12) (by rfl) (by rfl) (by kernel_rfl) (by rfl) (E2_len _) (E2_len _) (E2_len _) (by rfl) ?_;exact k.h) : a := h ⟨k⟩
theorem y_160 {a b : Prop} (k : b) (h : Rm b → a := by intro k;refine R.Zps (by rfl) (by intro _ _ _;(refine st_store_LV (m := 36) (by rfl) (by rfl) (by repeat first|apply Find.here|apply Find.there) (by rfl) (by simp) (J36_len _ _ _) ?_);exact Zqq) ?_;exact k.h) : a := h ⟨k⟩
theorem y_231 {a b : Prop} (k : b) (h : Rm b → a := by intro k;(first|refine y_64 ?_|refine y_152 ?_|refine Z01 ?_|refine Z15 ?_|refine Z17 ?_|refine Z18 ?_|refine Z65 ?_|refine Z70 ?_);exact k.h) : a := h ⟨k⟩
theorem y_232 {a b : Prop} (k : b) (h : Rm b → a := by intro k;(first|refine y_156 ?_|refine y_157 ?_|refine y_158 ?_);exact k.h) : a := h ⟨k⟩
theorem y_233 {a b : Prop} (k : b) (h : Rm b → a := by intro k;(first|refine y_64 ?_|refine y_71 ?_|refine y_152 ?_);exact k.h) : a := h ⟨k⟩
theorem y_234 {a b : Prop} (k : b) (h : Rm b → a := by intro k;(first|refine y_64 ?_|refine Z01 ?_|refine Z15 ?_|refine Z17 ?_|refine Z18 ?_|refine Z65 ?_|refine Z70 ?_);exact k.h) : a := h ⟨k⟩
theorem y_235 {a b : Prop} (k : b) (h : Rm b → a := by intro k;(first|refine y_64 ?_|refine y_159 ?_|refine Z01 ?_|refine Z15 ?_|refine Z17 ?_|refine Z18 ?_|refine Z65 ?_|refine Z70 ?_);exact k.h) : a := h ⟨k⟩
theorem y_267 {a b : Prop} (k : b) (h : Rm b → a := by intro k;(first|(refine R.Zpf (by rfl) (by intro _ _ _;(first|refine y_231 ?_);exact Zq) ?_)|refine y_202 ?_|refine y_153 ?_|refine y_154 ?_|refine y_155 ?_|refine y_68 ?_);exact k.h) : a := h ⟨k⟩
theorem y_268 {a b : Prop} (k : b) (h : Rm b → a := by intro k;refine R.Zpf (by rfl) (by intro _ _ _;(first|refine y_234 ?_);exact Zq) ?_;exact k.h) : a := h ⟨k⟩
theorem y_282 {a b : Prop} (k : b) (h : Rm b → a := by intro k;(first|refine y_268 ?_|refine y_202 ?_|refine y_68 ?_);exact k.h) : a := h ⟨k⟩
set_option maxHeartbeats 8000000 in
theorem twice_spec (x y z : F2) : Spec Tryz.prog 76 [J36 x y z] NoPre [] (IsV (J36 (Kf.K2.tX x y) (Kf.K2.tY x y) (Kf.K2.tZ y z))) := by
 refine mk_spec Tryz.func76 rfl rfl rfl fun w _ => ?_
 have hl0 := fun x => D_len 6 x
 have hle := fun x : F2 => E2_len x
 have a1 := smulE x x
 have a2 := smulE y y
 have a3 := smulE x (Kf.K2.mul y y)
 have a4 := saddE (Kf.K2.td0 x y) (Kf.K2.td0 x y)
 have a5 := saddE (Kf.K2.td1 x y) (Kf.K2.td1 x y)
 have a6 := saddE (Kf.K2.mul x x) (Kf.K2.mul x x)
 have a7 := saddE (Kf.K2.add (Kf.K2.mul x x) (Kf.K2.mul x x)) (Kf.K2.mul x x)
 have a8 := smulE (Kf.K2.te x) (Kf.K2.te x)
 have a9 := saddE (Kf.K2.td x y) (Kf.K2.td x y)
 have b1 := ssubE (Kf.K2.mul (Kf.K2.te x) (Kf.K2.te x)) (Kf.K2.add (Kf.K2.td x y) (Kf.K2.td x y))
 have b2 := smulE (Kf.K2.mul y y) (Kf.K2.mul y y)
 have b3 := fun k => saddE (Kf.K2.tc y k) (Kf.K2.tc y k)
 have b4 := smulE y z
 have b5 := saddE (Kf.K2.mul y z) (Kf.K2.mul y z)
 have b6 := ssubE (Kf.K2.td x y) (Kf.K2.tX x y)
 have b7 := smulE (Kf.K2.te x) (Kf.K2.sub (Kf.K2.td x y) (Kf.K2.tX x y))
 have b8 := ssubE (Kf.K2.mul (Kf.K2.te x) (Kf.K2.sub (Kf.K2.td x y) (Kf.K2.tX x y))) (Kf.K2.tc y 3)
 rw [show Kf.K2.mul x (Kf.K2.mul y y) = Kf.K2.td0 x y from rfl] at a3
 rw [show Kf.K2.add (Kf.K2.td0 x y) (Kf.K2.td0 x y) = Kf.K2.td1 x y from rfl] at a4
 rw [show Kf.K2.add (Kf.K2.td1 x y) (Kf.K2.td1 x y) = Kf.K2.td x y from rfl] at a5
 rw [show Kf.K2.add (Kf.K2.add (Kf.K2.mul x x) (Kf.K2.mul x x)) (Kf.K2.mul x x) = Kf.K2.te x from rfl] at a7
 rw [show Kf.K2.sub (Kf.K2.mul (Kf.K2.te x) (Kf.K2.te x)) (Kf.K2.add (Kf.K2.td x y) (Kf.K2.td x y)) = Kf.K2.tX x y from rfl] at b1
 rw [show Kf.K2.mul (Kf.K2.mul y y) (Kf.K2.mul y y) = Kf.K2.tc y 0 from rfl] at b2
 have b3 : ∀ k, Spec Tryz.prog 32 [LV .u64 (E2 (Kf.K2.tc y k)), LV .u64 (E2 (Kf.K2.tc y k))] NoPre [] (IsV (LV .u64 (E2 (Kf.K2.tc y (k + 1))))) := b3
 rw [show Kf.K2.add (Kf.K2.mul y z) (Kf.K2.mul y z) = Kf.K2.tZ y z from rfl] at b5
 rw [show Kf.K2.sub (Kf.K2.mul (Kf.K2.te x) (Kf.K2.sub (Kf.K2.td x y) (Kf.K2.tX x y))) (Kf.K2.tc y 3) = Kf.K2.tY x y from rfl] at b8
 generalize Kf.K2.mul (Kf.K2.te x) (Kf.K2.sub (Kf.K2.td x y) (Kf.K2.tX x y)) = c1 at *
 generalize Kf.K2.sub (Kf.K2.td x y) (Kf.K2.tX x y) = c2 at *
 generalize Kf.K2.mul y z = c3 at *
 generalize Kf.K2.mul (Kf.K2.te x) (Kf.K2.te x) = c4 at *
 generalize Kf.K2.add (Kf.K2.td x y) (Kf.K2.td x y) = c5 at *
 generalize Kf.K2.add (Kf.K2.mul x x) (Kf.K2.mul x x) = c6 at *
 generalize Kf.K2.mul x x = c7 at *
 generalize Kf.K2.mul y y = c8 at *
 generalize Kf.K2.tX x y = d1 at *
 generalize Kf.K2.tY x y = d2 at *
 generalize Kf.K2.tZ y z = d3 at *
 generalize Kf.K2.td x y = d4 at *
 generalize Kf.K2.td1 x y = d5 at *
 generalize Kf.K2.td0 x y = d6 at *
 generalize Kf.K2.te x = d7 at *
 generalize Kf.K2.tc y = tc at *
 repeat (first|(refine y_150 ?_;intro _)|refine y_151 ?_|refine Z81 fun _ => ?_|refine Z82 fun _ => ?_)
 refine R.st_perm [0, 1, 2, 3, 4, 5, 6, 7, 8, 9, 10, 11, 12, 13] (by rfl) ?_
 repeat (first|refine y_267 ?_|refine y_69 a1 ?_|refine y_69 a2 ?_|refine y_199 ?_|(refine R.Zpbb (by rfl) (by rfl) (by intro _ _ _;refine st_alloc (v := LV .u64 (List.replicate 12 0)) (by rfl) (by rfl) fun _ => ?_;exact R.Zpbx) (by intro _ _ _;refine st_alloc (v := LV .u64 (List.replicate 12 0)) (by rfl) (by rfl) fun _ => ?_;exact R.Zpbx) (fun _ => ?_) (fun _ => ?_))|(refine y_102 ?_;intro _)|(refine y_60 ?_;intro _)|refine R.Zpo (by rfl) ?_)
 all_goals
  repeat (first|refine y_267 ?_|refine y_69 a1 ?_|refine y_69 a2 ?_|refine y_199 ?_|(refine R.Zpbb (by rfl) (by rfl) (by intro _ _ _;refine st_alloc (v := LV .u64 (List.replicate 12 0)) (by rfl) (by rfl) fun _ => ?_;exact R.Zpbx) (by intro _ _ _;refine st_alloc (v := LV .u64 (List.replicate 12 0)) (by rfl) (by rfl) fun _ => ?_;exact R.Zpbx) (fun _ => ?_) (fun _ => ?_))|(refine y_102 ?_;intro _)|(refine y_60 ?_;intro _)|refine R.Zpo (by rfl) ?_)
 all_goals refine R.Zp0 ?_
 ·repeat (first|refine y_232 ?_|(refine y_62 ?_;intro _)|refine y_233 ?_|refine y_3 a3 ?_|refine y_3 a4 ?_|refine y_3 a5 ?_|refine y_151 ?_|refine Z81 fun _ => ?_|refine Z82 fun _ => ?_)
  refine R.st_perm [0, 1, 2, 3, 4, 5, 6] (by rfl) ?_
  repeat (first|refine y_282 ?_|refine y_69 a6 ?_|refine y_69 a7 ?_|refine y_199 ?_|(refine y_102 ?_;intro _)|(refine y_60 ?_;intro _)|refine R.Zpo (by rfl) ?_)
  refine R.Zp0 ?_
  repeat (first|refine y_151 ?_|refine Z81 fun _ => ?_|refine Z82 fun _ => ?_)
  refine R.st_perm [0, 1, 2, 3, 4, 5, 6, 7, 8] (by rfl) ?_
  repeat (first|refine y_282 ?_|refine y_69 a8 ?_|refine y_69 a9 ?_|refine y_69 b1 ?_|refine y_199 ?_|(refine y_102 ?_;intro _)|(refine y_60 ?_;intro _)|refine R.Zpo (by rfl) ?_)
  refine R.Zp0 ?_
  repeat (first|refine y_3 b2 ?_|refine y_151 ?_|refine Z81 fun _ => ?_|refine Z82 fun _ => ?_)
  rename_i p1 p2 p3 p4 p5 p6 p7
  refine st_loop (ι := Nat) (fun j => j ≤ 3) (fun j => [(44, N .i64 j), (1, pt p1 0), (2, pt p2 0), (4, pt p4 0), (5, pt p5 0), (6, pt p6 0), (7, pt p7 0)])
   (fun j => [.blk p4 (LV .u64 (E2 (tc j))) 29, .blk p7 (LV .u64 (E2 d1)) 29, .blk p6 (LV .u64 (E2 d7)) 29, .blk p5 (LV .u64 (E2 d4)) 29, .blk p2 (LV .u64 (List.replicate 36 0)) 80, .blk p1 (J36 x y z) 80]) (fun j => 3 - j) 0 (by omega) (by repeat (first|apply subL.nil|refine subL.cons (by rfl) ?_)) (by repeat (first|apply SubW.nil|refine y_8 ?_)) ?_
  intro j hj
  repeat (first|refine y_151 ?_|refine Z81 fun _ => ?_|refine Z82 fun _ => ?_)
  refine st_cond (by rfl) (fun h => ?_) (fun h => ?_)
  ·repeat (first|refine y_3 (b3 j) ?_|refine y_151 ?_|refine Z81 fun _ => ?_|refine Z82 fun _ => ?_)
   exact st_round (j + 1) (by omega) (by omega) (by repeat (first|apply subL.nil|refine subL.cons (by rfl) ?_)) (by repeat (first|apply SubW.nil|refine y_8 ?_))
  ·have hj3 : j = 3 := by omega
   subst hj3
   repeat (first|refine y_232 ?_|(refine y_62 ?_;intro _)|refine y_233 ?_|refine y_3 b4 ?_|refine y_151 ?_|refine Z81 fun _ => ?_|refine Z82 fun _ => ?_)
   refine R.st_perm [0, 1, 2, 3, 4, 5, 6, 7, 8, 9, 10, 11, 12] (by rfl) ?_
   repeat (first|(refine R.Zpf (by rfl) (by intro _ _ _;(first|refine y_235 ?_);exact Zq) ?_)|refine y_202 ?_|refine y_68 ?_|refine y_69 b6 ?_|refine y_69 b7 ?_|refine y_69 b8 ?_|refine y_69 b5 ?_|refine y_199 ?_|refine y_160 ?_|(refine y_60 ?_;intro _)|refine R.Zpo (by rfl) ?_)
   refine R.Zp0 ?_
   repeat (first|refine y_151 ?_|refine Z81 fun _ => ?_|refine Z82 fun _ => ?_)
   refine Zec fun _ hw => post_of hw SubW.nil ⟨?_, rfl⟩
   rfl
 ·repeat (first|refine y_232 ?_|(refine y_62 ?_;intro _)|refine y_233 ?_|refine y_3 a3 ?_|refine y_3 a4 ?_|refine y_3 a5 ?_|refine y_151 ?_|refine Z81 fun _ => ?_|refine Z82 fun _ => ?_)
  refine R.st_perm [0, 1, 2, 3, 4, 5, 6] (by rfl) ?_
  repeat (first|refine y_282 ?_|refine y_69 a6 ?_|refine y_69 a7 ?_|refine y_199 ?_|(refine y_102 ?_;intro _)|(refine y_60 ?_;intro _)|refine R.Zpo (by rfl) ?_)
  refine R.Zp0 ?_
  repeat (first|refine y_151 ?_|refine Z81 fun _ => ?_|refine Z82 fun _ => ?_)
  refine R.st_perm [0, 1, 2, 3, 4, 5, 6, 7, 8] (by rfl) ?_
  repeat (first|refine y_282 ?_|refine y_69 a8 ?_|refine y_69 a9 ?_|refine y_69 b1 ?_|refine y_199 ?_|(refine y_102 ?_;intro _)|(refine y_60 ?_;intro _)|refine R.Zpo (by rfl) ?_)
  refine R.Zp0 ?_
  repeat (first|refine y_3 b2 ?_|refine y_151 ?_|refine Z81 fun _ => ?_|refine Z82 fun _ => ?_)
  rename_i p1 p2 p4 p3 p5 p6 p7
  refine st_loop (ι := Nat) (fun j => j ≤ 3) (fun j => [(44, N .i64 j), (1, pt p1 0), (2, pt p2 0), (4, pt p4 0), (5, pt p5 0), (6, pt p6 0), (7, pt p7 0)])
   (fun j => [.blk p4 (LV .u64 (E2 (tc j))) 29, .blk p7 (LV .u64 (E2 d1)) 29, .blk p6 (LV .u64 (E2 d7)) 29, .blk p5 (LV .u64 (E2 d4)) 29, .blk p2 (LV .u64 (List.replicate 36 0)) 80, .blk p1 (J36 x y z) 80]) (fun j => 3 - j) 0 (by omega) (by repeat (first|apply subL.nil|refine subL.cons (by rfl) ?_)) (by repeat (first|apply SubW.nil|refine y_8 ?_)) ?_
  intro j hj
  repeat (first|refine y_151 ?_|refine Z81 fun _ => ?_|refine Z82 fun _ => ?_)
  refine st_cond (by rfl) (fun h => ?_) (fun h => ?_)
  ·repeat (first|refine y_3 (b3 j) ?_|refine y_151 ?_|refine Z81 fun _ => ?_|refine Z82 fun _ => ?_)
   exact st_round (j + 1) (by omega) (by omega) (by repeat (first|apply subL.nil|refine subL.cons (by rfl) ?_)) (by repeat (first|apply SubW.nil|refine y_8 ?_))
  ·have hj3 : j = 3 := by omega
   subst hj3
   repeat (first|refine y_232 ?_|(refine y_62 ?_;intro _)|refine y_233 ?_|refine y_3 b4 ?_|refine y_151 ?_|refine Z81 fun _ => ?_|refine Z82 fun _ => ?_)
   refine R.st_perm [0, 1, 2, 3, 4, 5, 6, 7, 8, 9, 10, 11, 12] (by rfl) ?_
   repeat (first|(refine R.Zpf (by rfl) (by intro _ _ _;(first|refine y_235 ?_);exact Zq) ?_)|refine y_202 ?_|refine y_68 ?_|refine y_69 b6 ?_|refine y_69 b7 ?_|refine y_69 b8 ?_|refine y_69 b5 ?_|refine y_199 ?_|refine y_160 ?_|(refine y_60 ?_;intro _)|refine R.Zpo (by rfl) ?_)
   refine R.Zp0 ?_
   repeat (first|refine y_151 ?_|refine Z81 fun _ => ?_|refine Z82 fun _ => ?_)
   refine Zec fun _ hw => post_of hw SubW.nil ⟨?_, rfl⟩
   rfl
end Go.Proofs.YtbpmbdlgmmabcaaGreat.L
namespace Go.Proofs.YtbpmbdlgmmabcaaGreat.L
open Go Go.Proofs
set_option maxRecDepth 100000
attribute [local irreducible] Code.wp wpList Af bodyPost L.Go PartAt
open Num
attribute [local simp] D_len
theorem y_161 {a b : Prop} (k : b) (h : Rm b → a := by intro k;refine st_store_LV (m := 36) (by rfl) (by rfl) (by repeat first|apply Find.here|apply Find.there) (by rfl) (by simp) (J36_len _ _ _) ?_;exact k.h) : a := h ⟨k⟩
theorem y_162 {a b : Prop} (k : b) (h : Rm b → a := by intro k;refine st_build20 (t := 80) (k := .u64) (z := List.replicate 36 0) (by rfl) (by rfl) (by kernel_rfl) (by rfl) ?_; rw [zero36];exact k.h) : a := h ⟨k⟩
theorem y_236 {a b : Prop} (k : b) (h : Rm b → a := by intro k;(first|refine y_147 ?_|refine y_156 ?_|refine y_157 ?_|refine y_158 ?_);exact k.h) : a := h ⟨k⟩
theorem y_237 {a b : Prop} (k : b) (h : Rm b → a := by intro k;(first|refine y_94 ?_|refine y_64 ?_|refine y_71 ?_|refine y_96 ?_|refine y_72 ?_|refine y_73 ?_|refine y_152 ?_);exact k.h) : a := h ⟨k⟩
theorem y_238 {a b : Prop} (k : b) (h : Rm b → a := by intro k;(first|refine y_64 ?_|refine y_96 ?_|refine y_72 ?_|refine y_73 ?_|refine Z01 ?_|refine Z02 ?_|refine Z49 ?_|refine Z50 ?_|refine Z65 ?_|refine Z77 ?_|refine Z78 ?_|refine Z79 ?_);exact k.h) : a := h ⟨k⟩
theorem y_239 {a b : Prop} (k : b) (h : Rm b → a := by intro k;(first|refine y_64 ?_|refine y_96 ?_|refine y_72 ?_|refine y_73 ?_|refine y_152 ?_|refine Z01 ?_|refine Z02 ?_|refine Z49 ?_|refine Z50 ?_|refine Z65 ?_|refine Z77 ?_|refine Z78 ?_|refine Z79 ?_);exact k.h) : a := h ⟨k⟩
theorem y_269 {a b : Prop} (k : b) (h : Rm b → a := by intro k;refine R.Zpf (by rfl) (by intro _ _ _;(first|refine y_238 ?_);exact Zq) ?_;exact k.h) : a := h ⟨k⟩
theorem y_270 {a b : Prop} (k : b) (h : Rm b → a := by intro k;refine R.Zpf (by rfl) (by intro _ _ _;(first|refine y_239 ?_);exact Zq) ?_;exact k.h) : a := h ⟨k⟩
theorem y_283 {a b : Prop} (k : b) (h : Rm b → a := by intro k;(first|refine y_269 ?_|refine y_202 ?_|refine y_143 ?_|refine y_153 ?_|refine y_154 ?_|refine y_155 ?_|refine y_68 ?_);exact k.h) : a := h ⟨k⟩
theorem y_284 {a b : Prop} (k : b) (h : Rm b → a := by intro k;(first|refine y_270 ?_|refine y_202 ?_|refine y_143 ?_|refine y_153 ?_|refine y_154 ?_|refine y_155 ?_|refine y_68 ?_);exact k.h) : a := h ⟨k⟩
set_option maxHeartbeats 8000000 in
theorem plus_ex (x y z qx qy : F2) (ho : Kf.K2.Onc b2c (Kf.K2.jp x y z)) :
  ∃ X Y Z, Kf.K2.jp X Y Z = Kf.K2.pa (Kf.K2.jp x y z) (some (qx, qy)) ∧ Spec Tryz.prog 77 [J36 x y z, GE qx qy false] NoPre [] (IsV (J36 X Y Z)) := by
 by_cases hz : z = Kf.K2.zero
 ·refine ⟨qx, qy, Kf.K2.one, ?_, ?_⟩
  ·rw [Kf.K2.one_sq p_3, Kf.K2.jp_z hz]; rfl
  ·have hz2 : (decide (D 6 z.re.val = D 6 (Kf.K2.zero : F2).re.val) && decide (D 6 z.im.val = D 6 (Kf.K2.zero : F2).im.val)) = true := by rw [hz]; exact E2_same _
   refine mk_spec Tryz.func77 rfl rfl rfl fun w _ => ?_
   have hl0 := fun x => D_len 6 x
   have hle := fun x : F2 => E2_len x
   repeat (first|refine y_236 ?_|refine y_124 hz2 ?_|(refine y_62 ?_;intro _)|(refine y_150 ?_;intro _)|refine y_94 ?_|refine y_48 ?_|refine y_118 ?_|refine y_64 ?_|refine y_71 ?_|refine y_96 ?_|refine y_72 ?_|refine y_73 ?_|refine y_152 ?_|refine y_159 ?_|refine y_161 ?_|refine Z01 ?_|refine Z02 ?_|refine Z03 ?_|refine Z04 ?_|refine Z05 ?_|refine Z06 ?_|refine Z07 ?_|refine Z08 ?_|refine Z09 ?_|refine Z10 ?_|refine Z11 ?_|refine Z12 ?_|refine Z13 ?_|refine Z14 ?_|refine Z24 ?_|refine Z25 ?_|refine Z26 ?_|refine Z27 ?_|refine Z28 ?_|refine Z29 ?_|refine Z30 ?_|refine Z31 ?_|refine Z32 ?_|refine Z49 ?_|refine Z50 ?_|refine Z51 ?_|refine Z52 ?_|refine Z53 ?_|refine Z65 ?_|refine Z67 ?_|refine Z77 ?_|refine Z78 ?_|refine Z79 ?_|refine Z81 fun _ => ?_|refine Z82 fun _ => ?_)
   refine Zec fun _ hw => post_of hw SubW.nil ⟨?_, rfl⟩
   rfl
 ·by_cases hh : Kf.K2.pH x z qx = Kf.K2.zero
  ·by_cases hr : Kf.K2.pR y z qy = Kf.K2.zero
   ·refine ⟨Kf.K2.tX x y, Kf.K2.tY x y, Kf.K2.tZ y z, ?_, ?_⟩
    ·rw [Kf.K2.jp_plus_2 p_3 hz hh hr]
     exact Kf.K2.jp_twice p_3 no2 ho
    ·have ht := twice_spec x y z
     generalize Kf.K2.tX x y = X at ht ⊢
     generalize Kf.K2.tY x y = Y at ht ⊢
     generalize Kf.K2.tZ y z = Z at ht ⊢
     have a1 := smulE z z
     have a2 := smulE qx (Kf.K2.mul z z)
     have a3 := ssubE (Kf.K2.mul qx (Kf.K2.mul z z)) x
     have a4 := smulE (Kf.K2.mul z z) z
     have a5 := smulE qy (Kf.K2.mul (Kf.K2.mul z z) z)
     have a6 := ssubE (Kf.K2.mul qy (Kf.K2.mul (Kf.K2.mul z z) z)) y
     rw [show Kf.K2.sub (Kf.K2.mul qx (Kf.K2.mul z z)) x = Kf.K2.pH x z qx from rfl] at a3
     rw [show Kf.K2.sub (Kf.K2.mul qy (Kf.K2.mul (Kf.K2.mul z z) z)) y = Kf.K2.pR y z qy from rfl] at a6
     generalize Kf.K2.mul qx (Kf.K2.mul z z) = c1 at a2 a3
     generalize Kf.K2.mul qy (Kf.K2.mul (Kf.K2.mul z z) z) = c2 at a5 a6
     generalize Kf.K2.mul (Kf.K2.mul z z) z = c3 at a4 a5
     generalize Kf.K2.mul z z = c4 at a1 a2 a4
     generalize Kf.K2.pH x z qx = h at *
     generalize Kf.K2.pR y z qy = r at *
     refine mk_spec Tryz.func77 rfl rfl rfl fun w _ => ?_
     have hl0 := fun x => D_len 6 x
     have hle := fun x : F2 => E2_len x
     repeat (first|refine y_236 ?_|refine y_124 (E2_diff hz) ?_|(refine y_62 ?_;intro _)|(refine y_150 ?_;intro _)|refine y_237 ?_|refine y_3 a1 ?_|refine y_144 ?_|refine Z81 fun _ => ?_|refine Z82 fun _ => ?_)
     refine R.st_perm [0, 1, 2, 3, 4, 5, 6, 7, 8] (by rfl) ?_
     repeat (first|refine y_283 ?_|refine y_69 a2 ?_|refine y_69 a3 ?_|refine y_199 ?_|(refine y_102 ?_;intro _)|(refine y_60 ?_;intro _)|refine R.Zpo (by rfl) ?_)
     refine R.Zp0 ?_
     repeat (first|refine y_144 ?_|refine Z81 fun _ => ?_|refine Z82 fun _ => ?_)
     refine R.st_perm [0, 1, 2, 3, 4, 5, 6, 7, 8, 9, 10, 11] (by rfl) ?_
     repeat (first|refine y_284 ?_|refine y_69 a4 ?_|refine y_69 a5 ?_|refine y_69 a6 ?_|refine y_199 ?_|(refine y_102 ?_;intro _)|(refine y_60 ?_;intro _)|refine R.Zpo (by rfl) ?_)
     refine R.Zp0 ?_
     have hh2 : (decide (D 6 h.re.val = D 6 (Kf.K2.zero : F2).re.val) && decide (D 6 h.im.val = D 6 (Kf.K2.zero : F2).im.val)) = true := by rw [hh]; exact E2_same _
     have hr2 : (decide (D 6 r.re.val = D 6 (Kf.K2.zero : F2).re.val) && decide (D 6 r.im.val = D 6 (Kf.K2.zero : F2).im.val)) = true := by rw [hr]; exact E2_same _
     repeat (first|refine y_124 hh2 ?_|refine y_124 hr2 ?_|(refine y_62 ?_;intro _)|refine y_3 ht ?_|refine y_161 ?_|refine Z01 ?_|refine Z02 ?_|refine Z03 ?_|refine Z04 ?_|refine Z05 ?_|refine Z06 ?_|refine Z07 ?_|refine Z08 ?_|refine Z09 ?_|refine Z10 ?_|refine Z11 ?_|refine Z12 ?_|refine Z13 ?_|refine Z14 ?_|refine Z24 ?_|refine Z25 ?_|refine Z26 ?_|refine Z27 ?_|refine Z28 ?_|refine Z29 ?_|refine Z30 ?_|refine Z31 ?_|refine Z32 ?_|refine Z49 ?_|refine Z50 ?_|refine Z51 ?_|refine Z52 ?_|refine Z53 ?_|refine Z65 ?_|refine Z67 ?_|refine Z77 ?_|refine Z78 ?_|refine Z79 ?_|refine Z81 fun _ => ?_|refine Z82 fun _ => ?_)
     refine Zec fun _ hw => post_of hw SubW.nil ⟨?_, rfl⟩
     rfl
   ·refine ⟨Kf.K2.zero, Kf.K2.zero, Kf.K2.zero, ?_, ?_⟩
    ·rw [Kf.K2.jp_0, Kf.K2.jp_plus_0 p_3 hz hh hr]
    ·have a1 := smulE z z
     have a2 := smulE qx (Kf.K2.mul z z)
     have a3 := ssubE (Kf.K2.mul qx (Kf.K2.mul z z)) x
     have a4 := smulE (Kf.K2.mul z z) z
     have a5 := smulE qy (Kf.K2.mul (Kf.K2.mul z z) z)
     have a6 := ssubE (Kf.K2.mul qy (Kf.K2.mul (Kf.K2.mul z z) z)) y
     rw [show Kf.K2.sub (Kf.K2.mul qx (Kf.K2.mul z z)) x = Kf.K2.pH x z qx from rfl] at a3
     rw [show Kf.K2.sub (Kf.K2.mul qy (Kf.K2.mul (Kf.K2.mul z z) z)) y = Kf.K2.pR y z qy from rfl] at a6
     generalize Kf.K2.mul qx (Kf.K2.mul z z) = c1 at a2 a3
     generalize Kf.K2.mul qy (Kf.K2.mul (Kf.K2.mul z z) z) = c2 at a5 a6
     generalize Kf.K2.mul (Kf.K2.mul z z) z = c3 at a4 a5
     generalize Kf.K2.mul z z = c4 at a1 a2 a4
     generalize Kf.K2.pH x z qx = h at *
     generalize Kf.K2.pR y z qy = r at *
     refine mk_spec Tryz.func77 rfl rfl rfl fun w _ => ?_
     have hl0 := fun x => D_len 6 x
     have hle := fun x : F2 => E2_len x
     repeat (first|refine y_236 ?_|refine y_124 (E2_diff hz) ?_|(refine y_62 ?_;intro _)|(refine y_150 ?_;intro _)|refine y_237 ?_|refine y_3 a1 ?_|refine y_144 ?_|refine Z81 fun _ => ?_|refine Z82 fun _ => ?_)
     refine R.st_perm [0, 1, 2, 3, 4, 5, 6, 7, 8] (by rfl) ?_
     repeat (first|refine y_283 ?_|refine y_69 a2 ?_|refine y_69 a3 ?_|refine y_199 ?_|(refine y_102 ?_;intro _)|(refine y_60 ?_;intro _)|refine R.Zpo (by rfl) ?_)
     refine R.Zp0 ?_
     repeat (first|refine y_144 ?_|refine Z81 fun _ => ?_|refine Z82 fun _ => ?_)
     refine R.st_perm [0, 1, 2, 3, 4, 5, 6, 7, 8, 9, 10, 11] (by rfl) ?_
     repeat (first|refine y_284 ?_|refine y_69 a4 ?_|refine y_69 a5 ?_|refine y_69 a6 ?_|refine y_199 ?_|(refine y_102 ?_;intro _)|(refine y_60 ?_;intro _)|refine R.Zpo (by rfl) ?_)
     refine R.Zp0 ?_
     have hh2 : (decide (D 6 h.re.val = D 6 (Kf.K2.zero : F2).re.val) && decide (D 6 h.im.val = D 6 (Kf.K2.zero : F2).im.val)) = true := by rw [hh]; exact E2_same _
     repeat (first|refine y_124 (E2_diff hr) ?_|refine y_124 hh2 ?_|(refine y_62 ?_;intro _)|refine y_162 ?_|refine y_161 ?_|refine Z01 ?_|refine Z02 ?_|refine Z03 ?_|refine Z04 ?_|refine Z05 ?_|refine Z06 ?_|refine Z07 ?_|refine Z08 ?_|refine Z09 ?_|refine Z10 ?_|refine Z11 ?_|refine Z12 ?_|refine Z13 ?_|refine Z14 ?_|refine Z24 ?_|refine Z25 ?_|refine Z26 ?_|refine Z27 ?_|refine Z28 ?_|refine Z29 ?_|refine Z30 ?_|refine Z31 ?_|refine Z32 ?_|refine Z49 ?_|refine Z50 ?_|refine Z51 ?_|refine Z52 ?_|refine Z53 ?_|refine Z65 ?_|refine Z67 ?_|refine Z77 ?_|refine Z78 ?_|refine Z79 ?_|refine Z81 fun _ => ?_|refine Z82 fun _ => ?_)
     refine Zec fun _ hw => post_of hw SubW.nil ⟨?_, rfl⟩
     rfl
  ·refine ⟨_, _, _, Kf.K2.jp_plus p_3 hz hh, ?_⟩
   have b1 := smulE (Kf.K2.pH x z qx) (Kf.K2.pH x z qx)
   have b2 := smulE (Kf.K2.mul (Kf.K2.pH x z qx) (Kf.K2.pH x z qx)) (Kf.K2.pH x z qx)
   have b3 := smulE x (Kf.K2.mul (Kf.K2.pH x z qx) (Kf.K2.pH x z qx))
   have b4 := smulE (Kf.K2.pR y z qy) (Kf.K2.pR y z qy)
   have b5 := ssubE (Kf.K2.mul (Kf.K2.pR y z qy) (Kf.K2.pR y z qy)) (Kf.K2.mul (Kf.K2.mul (Kf.K2.pH x z qx) (Kf.K2.pH x z qx)) (Kf.K2.pH x z qx))
   have b6 := saddE (Kf.K2.pV x (Kf.K2.pH x z qx)) (Kf.K2.pV x (Kf.K2.pH x z qx))
   have b7 := ssubE (Kf.K2.sub (Kf.K2.mul (Kf.K2.pR y z qy) (Kf.K2.pR y z qy)) (Kf.K2.mul (Kf.K2.mul (Kf.K2.pH x z qx) (Kf.K2.pH x z qx)) (Kf.K2.pH x z qx))) (Kf.K2.add (Kf.K2.pV x (Kf.K2.pH x z qx)) (Kf.K2.pV x (Kf.K2.pH x z qx)))
   have d1 := ssubE (Kf.K2.pV x (Kf.K2.pH x z qx)) (Kf.K2.pX x (Kf.K2.pH x z qx) (Kf.K2.pR y z qy))
   have d2 := smulE (Kf.K2.pR y z qy) (Kf.K2.sub (Kf.K2.pV x (Kf.K2.pH x z qx)) (Kf.K2.pX x (Kf.K2.pH x z qx) (Kf.K2.pR y z qy)))
   have d3 := smulE y (Kf.K2.mul (Kf.K2.mul (Kf.K2.pH x z qx) (Kf.K2.pH x z qx)) (Kf.K2.pH x z qx))
   have d4 := ssubE (Kf.K2.mul (Kf.K2.pR y z qy) (Kf.K2.sub (Kf.K2.pV x (Kf.K2.pH x z qx)) (Kf.K2.pX x (Kf.K2.pH x z qx) (Kf.K2.pR y z qy)))) (Kf.K2.mul y (Kf.K2.mul (Kf.K2.mul (Kf.K2.pH x z qx) (Kf.K2.pH x z qx)) (Kf.K2.pH x z qx)))
   have d5 := smulE z (Kf.K2.pH x z qx)
   have a1 := smulE z z
   have a2 := smulE qx (Kf.K2.mul z z)
   have a3 := ssubE (Kf.K2.mul qx (Kf.K2.mul z z)) x
   have a4 := smulE (Kf.K2.mul z z) z
   have a5 := smulE qy (Kf.K2.mul (Kf.K2.mul z z) z)
   have a6 := ssubE (Kf.K2.mul qy (Kf.K2.mul (Kf.K2.mul z z) z)) y
   rw [show Kf.K2.sub (Kf.K2.mul qx (Kf.K2.mul z z)) x = Kf.K2.pH x z qx from rfl] at a3
   rw [show Kf.K2.sub (Kf.K2.mul qy (Kf.K2.mul (Kf.K2.mul z z) z)) y = Kf.K2.pR y z qy from rfl] at a6
   generalize Kf.K2.mul qx (Kf.K2.mul z z) = c1 at a2 a3
   generalize Kf.K2.mul qy (Kf.K2.mul (Kf.K2.mul z z) z) = c2 at a5 a6
   generalize Kf.K2.mul (Kf.K2.mul z z) z = c3 at a4 a5
   generalize Kf.K2.mul z z = c4 at a1 a2 a4
   generalize Kf.K2.pH x z qx = h at *
   generalize Kf.K2.pR y z qy = r at *
   refine mk_spec Tryz.func77 rfl rfl rfl fun w _ => ?_
   have hl0 := fun x => D_len 6 x
   have hle := fun x : F2 => E2_len x
   repeat (first|refine y_236 ?_|refine y_124 (E2_diff hz) ?_|(refine y_62 ?_;intro _)|(refine y_150 ?_;intro _)|refine y_237 ?_|refine y_3 a1 ?_|refine y_144 ?_|refine Z81 fun _ => ?_|refine Z82 fun _ => ?_)
   refine R.st_perm [0, 1, 2, 3, 4, 5, 6, 7, 8] (by rfl) ?_
   repeat (first|refine y_283 ?_|refine y_69 a2 ?_|refine y_69 a3 ?_|refine y_199 ?_|(refine y_102 ?_;intro _)|(refine y_60 ?_;intro _)|refine R.Zpo (by rfl) ?_)
   refine R.Zp0 ?_
   repeat (first|refine y_144 ?_|refine Z81 fun _ => ?_|refine Z82 fun _ => ?_)
   refine R.st_perm [0, 1, 2, 3, 4, 5, 6, 7, 8, 9, 10, 11] (by rfl) ?_
   repeat (first|refine y_284 ?_|refine y_69 a4 ?_|refine y_69 a5 ?_|refine y_69 a6 ?_|refine y_199 ?_|(refine y_102 ?_;intro _)|(refine y_60 ?_;intro _)|refine R.Zpo (by rfl) ?_)
   refine R.Zp0 ?_
   rw [show Kf.K2.mul x (Kf.K2.mul h h) = Kf.K2.pV x h from rfl] at b3
   rw [show Kf.K2.sub (Kf.K2.sub (Kf.K2.mul r r) (Kf.K2.mul (Kf.K2.mul h h) h)) (Kf.K2.add (Kf.K2.pV x h) (Kf.K2.pV x h)) = Kf.K2.pX x h r from rfl] at b7
   rw [show Kf.K2.sub (Kf.K2.mul r (Kf.K2.sub (Kf.K2.pV x h) (Kf.K2.pX x h r))) (Kf.K2.mul y (Kf.K2.mul (Kf.K2.mul h h) h)) = Kf.K2.pY x y h r from rfl] at d4
   generalize Kf.K2.pY x y h r = Y at *
   generalize Kf.K2.mul y (Kf.K2.mul (Kf.K2.mul h h) h) = e1 at *
   generalize Kf.K2.mul r (Kf.K2.sub (Kf.K2.pV x h) (Kf.K2.pX x h r)) = e2 at *
   generalize Kf.K2.sub (Kf.K2.pV x h) (Kf.K2.pX x h r) = e3 at *
   generalize Kf.K2.pX x h r = X at *
   generalize Kf.K2.sub (Kf.K2.mul r r) (Kf.K2.mul (Kf.K2.mul h h) h) = e4 at *
   generalize Kf.K2.add (Kf.K2.pV x h) (Kf.K2.pV x h) = e5 at *
   generalize Kf.K2.pV x h = e6 at *
   generalize Kf.K2.mul (Kf.K2.mul h h) h = e7 at *
   generalize Kf.K2.mul h h = e8 at *
   generalize Kf.K2.mul r r = e9 at *
   generalize Kf.K2.mul z h = Z at *
   repeat (first|refine y_124 (E2_diff hh) ?_|refine y_144 ?_|refine Z81 fun _ => ?_|refine Z82 fun _ => ?_)
   repeat (first|(refine y_62 ?_;intro _)|refine y_3 b1 ?_|refine y_144 ?_|refine Z81 fun _ => ?_|refine Z82 fun _ => ?_)
   refine R.st_perm [0, 1, 2, 3, 4, 5, 6, 7, 8, 9, 10] (by rfl) ?_
   repeat (first|refine y_269 ?_|refine y_202 ?_|refine y_153 ?_|refine y_154 ?_|refine y_155 ?_|refine y_68 ?_|refine y_69 b2 ?_|refine y_69 b3 ?_|refine y_199 ?_|(refine R.Zpbb (by rfl) (by rfl) (by intro _ _ _;refine st_alloc (v := LV .u64 (List.replicate 12 0)) (by rfl) (by rfl) fun _ => ?_;exact R.Zpbx) (by intro _ _ _;refine st_alloc (v := LV .u64 (List.replicate 12 0)) (by rfl) (by rfl) fun _ => ?_;exact R.Zpbx) (fun _ => ?_) (fun _ => ?_))|(refine y_102 ?_;intro _)|(refine y_60 ?_;intro _)|refine R.Zpo (by rfl) ?_)
   all_goals
    repeat (first|refine y_269 ?_|refine y_202 ?_|refine y_153 ?_|refine y_154 ?_|refine y_155 ?_|refine y_68 ?_|refine y_69 b2 ?_|refine y_69 b3 ?_|refine y_199 ?_|(refine R.Zpbb (by rfl) (by rfl) (by intro _ _ _;refine st_alloc (v := LV .u64 (List.replicate 12 0)) (by rfl) (by rfl) fun _ => ?_;exact R.Zpbx) (by intro _ _ _;refine st_alloc (v := LV .u64 (List.replicate 12 0)) (by rfl) (by rfl) fun _ => ?_;exact R.Zpbx) (fun _ => ?_) (fun _ => ?_))|(refine y_102 ?_;intro _)|(refine y_60 ?_;intro _)|refine R.Zpo (by rfl) ?_)
   all_goals refine R.Zp0 ?_
   all_goals
    repeat (first|refine y_144 ?_|refine Z81 fun _ => ?_|refine Z82 fun _ => ?_)
    refine R.st_perm [0, 1, 2, 3, 4, 5, 6, 7, 8, 9, 10] (by rfl) ?_
    repeat (first|refine y_269 ?_|refine y_202 ?_|refine y_68 ?_|refine y_69 b4 ?_|refine y_69 b5 ?_|refine y_69 b6 ?_|refine y_69 b7 ?_|refine y_199 ?_|(refine y_102 ?_;intro _)|(refine y_60 ?_;intro _)|refine R.Zpo (by rfl) ?_)
    refine R.Zp0 ?_
    repeat (first|refine y_144 ?_|refine Z81 fun _ => ?_|refine Z82 fun _ => ?_)
    refine R.st_perm [0, 1, 2, 3, 4, 5, 6, 7, 8, 9, 10, 11, 12, 13, 14, 15, 16] (by rfl) ?_
    repeat (first|(refine R.Zpf (by rfl) (by intro _ _ _;(first|refine y_64 ?_|refine y_96 ?_|refine y_72 ?_|refine y_73 ?_|refine y_152 ?_|refine y_159 ?_|refine Z01 ?_|refine Z02 ?_|refine Z49 ?_|refine Z50 ?_|refine Z65 ?_|refine Z77 ?_|refine Z78 ?_|refine Z79 ?_);exact Zq) ?_)|refine y_202 ?_|refine y_153 ?_|refine y_154 ?_|refine y_155 ?_|refine y_68 ?_|refine y_69 d1 ?_|refine y_69 d2 ?_|refine y_69 d3 ?_|refine y_69 d4 ?_|refine y_69 d5 ?_|refine y_199 ?_|refine y_160 ?_|(refine y_60 ?_;intro _)|refine R.Zpo (by rfl) ?_)
    refine R.Zp0 ?_
    repeat (first|refine y_144 ?_|refine Z81 fun _ => ?_|refine Z82 fun _ => ?_)
    refine Zec fun _ hw => post_of hw SubW.nil ⟨?_, rfl⟩
    rfl
theorem zero_diff {x y z : F2} (h : z ≠ Kf.K2.zero) : (((decide (D 6 x.re.val = D 6 (Kf.K2.zero : F2).re.val) && decide (D 6 x.im.val = D 6 (Kf.K2.zero : F2).im.val)) && (decide (D 6 y.re.val = D 6 (Kf.K2.zero : F2).re.val) && decide (D 6 y.im.val = D 6 (Kf.K2.zero : F2).im.val))) && (decide (D 6 z.re.val = D 6 (Kf.K2.zero : F2).re.val) && decide (D 6 z.im.val = D 6 (Kf.K2.zero : F2).im.val))) = false := by
 rw [E2_diff h, Bool.and_false]
theorem y_163 {a b : Prop} (k : b) (h : Rm b → a := by intro k;refine st_eq3v (m := 6) (hr := hc.symm) (by rfl) (by rfl) (by rfl) (by kernel_rfl) (by rfl) (by rfl) (by rfl) (by rfl) (by rfl) (by rfl) (by rfl) (by rfl) (by rfl) (by rfl) (by rfl) (by kernel_rfl) (by rfl) (by rfl) (by rfl) (by rfl) (by rfl) (by rfl) (by rfl) (by rfl) (by rfl) (by rfl) (by kernel_rfl) (by simp; done) (by simp; done) (by simp; done) (by simp; done) (by simp; done) (by simp; done) (by simp; done) (by simp; done) (by simp; done) (by simp; done) (by simp; done) (by simp; done) (by rfl) ?_;exact k.h) : a := h ⟨k⟩
theorem y_164 {a b : Prop} (k : b) (h : Rm b → a := by intro k;refine st_ldp (by rfl) (by repeat first|apply Find.here|apply Find.there) (by rfl) (by rfl) (PartAt.all (J36_len _ _ _)) (by rfl) ?_;exact k.h) : a := h ⟨k⟩
theorem y_240 {a b : Prop} (k : b) (h : Rm b → a := by intro k;(first|refine y_94 ?_|refine y_162 ?_|refine y_164 ?_|refine y_152 ?_|refine y_156 ?_|refine y_157 ?_|refine y_158 ?_|refine y_128 ?_|refine y_129 ?_|refine Z01 ?_|refine Z03 ?_|refine Z04 ?_|refine Z05 ?_|refine Z06 ?_|refine Z07 ?_|refine Z08 ?_|refine Z09 ?_|refine Z10 ?_|refine Z11 ?_|refine Z12 ?_|refine Z13 ?_|refine Z14 ?_|refine Z24 ?_|refine Z25 ?_|refine Z26 ?_|refine Z27 ?_|refine Z28 ?_|refine Z29 ?_|refine Z30 ?_|refine Z31 ?_|refine Z32 ?_|refine Z49 ?_|refine Z50 ?_|refine Z51 ?_|refine Z52 ?_|refine Z53 ?_|refine Z65 ?_|refine Z67 ?_|refine Z77 ?_|refine Z78 ?_|refine Z79 ?_);exact k.h) : a := h ⟨k⟩
set_option maxHeartbeats 8000000 in
theorem point_spec (x y z : F2) : Spec Tryz.prog 78 [J36 x y z] NoPre [] (IsV (GV (Kf.K2.jp x y z))) := by
 refine mk_spec Tryz.func78 rfl rfl rfl fun w _ => ?_
 have hl0 := fun x => D_len 6 x
 have hle := fun x : F2 => E2_len x
 by_cases hz : z = Kf.K2.zero
 ·rw [Kf.K2.jp_z hz, GV_none]
  have hz2 : (decide (D 6 z.re.val = D 6 (Kf.K2.zero : F2).re.val) && decide (D 6 z.im.val = D 6 (Kf.K2.zero : F2).im.val)) = true := by rw [hz]; exact E2_same _
  obtain ⟨c, hc⟩ : ∃ c, c = (((decide (D 6 x.re.val = D 6 (Kf.K2.zero : F2).re.val) && decide (D 6 x.im.val = D 6 (Kf.K2.zero : F2).im.val)) && (decide (D 6 y.re.val = D 6 (Kf.K2.zero : F2).re.val) && decide (D 6 y.im.val = D 6 (Kf.K2.zero : F2).im.val))) && (decide (D 6 z.re.val = D 6 (Kf.K2.zero : F2).re.val) && decide (D 6 z.im.val = D 6 (Kf.K2.zero : F2).im.val))) := ⟨_, rfl⟩
  cases c with
  | true =>
   repeat (first|refine y_163 ?_|refine y_124 hz2 ?_|(refine y_125 ?_;intro _)|refine y_240 ?_|refine Z81 fun _ => ?_|refine Z82 fun _ => ?_)
   refine st_endc_GL (m := 24) (by rfl) (by rfl) (by repeat first|apply Find.here|apply Find.there) (by rfl) (by rfl) (by first|with_reducible assumption|simp) fun _ hw => post_of hw SubW.nil ⟨?_, rfl⟩
   rfl
  | false =>
   repeat (first|refine y_163 ?_|refine y_124 hz2 ?_|(refine y_125 ?_;intro _)|refine y_240 ?_|refine Z81 fun _ => ?_|refine Z82 fun _ => ?_)
   refine st_endc_GL (m := 24) (by rfl) (by rfl) (by repeat first|apply Find.here|apply Find.there) (by rfl) (by rfl) (by first|with_reducible assumption|simp) fun _ hw => post_of hw SubW.nil ⟨?_, rfl⟩
   rfl
 ·rw [Kf.K2.jp_n hz, GV_some, Kf.K2.jx, Kf.K2.jy]
  have a1 := sinvE z
  have a2 := smulE (Kf.K2.inv z) (Kf.K2.inv z)
  have a3 := smulE x (Kf.K2.mul (Kf.K2.inv z) (Kf.K2.inv z))
  have a4 := smulE (Kf.K2.mul (Kf.K2.inv z) (Kf.K2.inv z)) (Kf.K2.inv z)
  have a5 := smulE y (Kf.K2.mul (Kf.K2.mul (Kf.K2.inv z) (Kf.K2.inv z)) (Kf.K2.inv z))
  generalize Kf.K2.mul y (Kf.K2.mul (Kf.K2.mul (Kf.K2.inv z) (Kf.K2.inv z)) (Kf.K2.inv z)) = c1 at *
  generalize Kf.K2.mul (Kf.K2.mul (Kf.K2.inv z) (Kf.K2.inv z)) (Kf.K2.inv z) = c2 at *
  generalize Kf.K2.mul x (Kf.K2.mul (Kf.K2.inv z) (Kf.K2.inv z)) = c3 at *
  generalize Kf.K2.mul (Kf.K2.inv z) (Kf.K2.inv z) = c4 at *
  generalize Kf.K2.inv z = c5 at *
  repeat (first|(refine st_eq3v (m := 6) (hr := zero_diff hz) (by rfl) (by rfl) (by rfl) (by kernel_rfl) (by rfl) (by rfl) (by rfl) (by rfl) (by rfl) (by rfl) (by rfl) (by rfl) (by rfl) (by rfl) (by rfl) (by kernel_rfl) (by rfl) (by rfl) (by rfl) (by rfl) (by rfl) (by rfl) (by rfl) (by rfl) (by rfl) (by rfl) (by kernel_rfl) (by simp; done) (by simp; done) (by simp; done) (by simp; done) (by simp; done) (by simp; done) (by simp; done) (by simp; done) (by simp; done) (by simp; done) (by simp; done) (by simp; done) (by rfl) ?_)|refine y_124 (E2_diff hz) ?_|(refine y_62 ?_;intro _)|(refine y_125 ?_;intro _)|refine y_94 ?_|refine y_162 ?_|refine y_164 ?_|refine y_152 ?_|refine y_156 ?_|refine y_157 ?_|refine y_158 ?_|refine y_3 a1 ?_|refine y_3 a2 ?_|refine y_127 ?_|refine Z81 fun _ => ?_|refine Z82 fun _ => ?_)
  refine R.st_perm [0, 1, 2, 3, 4, 5, 6, 7, 8, 9, 10, 11] (by rfl) ?_
  repeat (first|(refine R.Zpf (by rfl) (by intro _ _ _;(first|refine y_64 ?_|refine y_65 ?_|refine y_72 ?_|refine y_73 ?_|refine y_130 ?_|refine Z01 ?_|refine Z49 ?_|refine Z50 ?_|refine Z65 ?_|refine Z77 ?_|refine Z78 ?_|refine Z79 ?_);exact Zq) ?_)|refine y_202 ?_|refine y_153 ?_|refine y_154 ?_|refine y_155 ?_|refine y_68 ?_|refine y_69 a3 ?_|refine y_69 a4 ?_|refine y_69 a5 ?_|refine y_263 ?_|(refine y_60 ?_;intro _)|refine R.Zpo (by rfl) ?_)
  refine R.Zp0 ?_
  repeat (first|refine y_127 ?_|refine Z81 fun _ => ?_|refine Z82 fun _ => ?_)
  refine st_endc_GL (m := 24) (by rfl) (by rfl) (by repeat first|apply Find.here|apply Find.there) (by rfl) (by rfl) (by first|with_reducible assumption|simp) fun _ hw => post_of hw SubW.nil ⟨?_, rfl⟩
  rfl
end Go.Proofs.YtbpmbdlgmmabcaaGreat.L
namespace Go.Proofs.YtbpmbdlgmmabcaaGreat.L
open Go Go.Proofs
set_option maxRecDepth 100000
attribute [local irreducible] Code.wp wpList Af bodyPost L.Go PartAt
open Num
attribute [local simp] D_len
theorem gonP {P : Kf.K2.Pt p} (h : Kf.K2.Onc b2c P) : Spec Tryz.prog 75 [GV P] NoPre [] (IsV (.bool true)) := by
 cases P with
 | none =>
  have := gon_spec (val_lt (Kf.K2.zero : F2).re) (val_lt (Kf.K2.zero : F2).im) (val_lt (Kf.K2.zero : F2).re) (val_lt (Kf.K2.zero : F2).im) true
  rwa [Bool.true_or] at this
 | some q =>
  have := gon_spec (val_lt q.1.re) (val_lt q.1.im) (val_lt q.2.re) (val_lt q.2.im) false
  rwa [k2_val, k2_val, Bool.false_or, decide_eq_true (show Kf.K2.mul q.2 q.2 = Kf.K2.add (Kf.K2.mul (Kf.K2.mul q.1 q.1) q.1) b2c from h)] at this
theorem y_165 {a b : Prop} (k : b) (h : Rm b → a := by intro k;(first|refine st_scope0 ?_|refine st_label ?_|refine Z01 ?_|refine Z02 ?_|refine Z03 ?_|refine Z04 ?_|refine Z05 ?_|refine Z06 ?_|refine Z07 ?_|refine Z08 ?_|refine Z09 ?_|refine Z10 ?_|refine Z11 ?_|refine Z12 ?_|refine Z13 ?_|refine Z14 ?_|refine Z16 ?_|refine Z17 ?_|refine Z18 ?_|refine Z20 ?_|refine Z21 ?_|refine Z22 ?_|refine Z23 ?_|refine Z24 ?_|refine Z25 ?_|refine Z26 ?_|refine Z27 ?_|refine Z28 ?_|refine Z29 ?_|refine Z30 ?_|refine Z31 ?_|refine Z32 ?_|refine Z36 ?_|refine Z37 ?_|refine Z38 ?_|refine Z40 ?_|refine Z42 ?_|refine Z54 ?_|refine Z58 ?_|refine Z59 ?_|refine Z65 ?_|refine Z67 ?_|refine Z71 ?_);exact k.h) : a := h ⟨k⟩
theorem y_166 {a b : Prop} (k : b) (h : Rm b → a := by intro k;(first|refine Z01 ?_|refine Z02 ?_|refine Z03 ?_|refine Z04 ?_|refine Z05 ?_|refine Z06 ?_|refine Z07 ?_|refine Z08 ?_|refine Z09 ?_|refine Z10 ?_|refine Z11 ?_|refine Z12 ?_|refine Z13 ?_|refine Z14 ?_|refine Z16 ?_|refine Z17 ?_|refine Z18 ?_|refine Z20 ?_|refine Z21 ?_|refine Z22 ?_|refine Z23 ?_|refine Z24 ?_|refine Z25 ?_|refine Z26 ?_|refine Z27 ?_|refine Z28 ?_|refine Z29 ?_|refine Z30 ?_|refine Z31 ?_|refine Z32 ?_|refine Z36 ?_|refine Z37 ?_|refine Z38 ?_|refine Z40 ?_|refine Z42 ?_|refine Z54 ?_|refine Z58 ?_|refine Z59 ?_|refine Z65 ?_|refine Z67 ?_|refine Z71 ?_);exact k.h) : a := h ⟨k⟩
theorem y_167 {a b : Prop} (k : b) (h : Rm b → a := by intro k;refine st_store_LV (m := 36) (by rfl) (by rfl) (by repeat first|apply Find.here|apply Find.there) (by rfl) (J36_len _ _ _) (J36_len _ _ _) ?_;exact k.h) : a := h ⟨k⟩
theorem y_241 {a b : Prop} (k : b) (h : Rm b → a := by intro k;(first|refine y_146 ?_|refine y_142 ?_|refine y_129 ?_);exact k.h) : a := h ⟨k⟩
set_option maxHeartbeats 8000000 in
theorem gmul_on {P : Kf.K2.Pt p} (h : Kf.K2.Onc b2c P) {a b e f : Nat} (ha : a < W ^ 6) (hb : b < W ^ 6) (he : e < W ^ 6) (hf : f < W ^ 6) (i : Bool) (hP : P = ptv (k2 a b) (k2 e f) i) (s : Value) (xs : List Nat) (hx : Lt 18446744073709551616 xs) (hl : xs.length < 65536) :
  Spec Tryz.prog 40 [s, G4 a b e f i] (fun w => Rd w s (xs.map (N .u64))) [] (IsV (.tuple [GV (Kf.K2.tim P (V xs)), N .i64 0].toArray)) := by
 refine mk_spec Tryz.func40 rfl rfl rfl fun w hr => ?_
 have hr := RdC.mk0 hr
 have hl0 := fun x => D_len 6 x
 have hle := fun x : F2 => E2_len x
 have h1 := gred_spec ha hb he hf i
 rw [← hP] at h1
 have h2 := gonP h
 cases P with
 | none =>
  rw [Kf.K2.tim_none]
  rw [GV_none] at h1 h2 ⊢
  repeat (first|refine y_241 ?_|(refine y_125 ?_;intro _)|refine y_64 ?_|refine y_71 ?_|refine y_72 ?_|refine y_3 h1 ?_|refine y_3 h2 ?_|refine y_165 ?_|refine Z81 fun _ => ?_|refine Z82 fun _ => ?_)
  repeat (first|with_reducible refine st_ng_ret ?_|refine y_166 ?_|refine Z81 fun _ => ?_|refine Z82 fun _ => ?_)
  refine st_endc2_GL (m := 24) (by rfl) (by rfl) (by rfl) (by repeat first|apply Find.here|apply Find.there) (by rfl) (by rfl) (by first|with_reducible assumption|simp) fun _ hw => post_of hw SubW.nil ⟨?_, rfl⟩
  rfl
 | some q =>
  obtain ⟨qx, qy⟩ := q
  rw [GV_some] at h1 h2
  have hz : V xs / 2 ^ (64 * xs.length) = 0 := Nat.div_eq_of_lt (by rw [Nat.pow_mul, ← W_2]; exact V_lt hx)
  repeat (first|refine y_241 ?_|(refine y_125 ?_;intro _)|refine y_64 ?_|refine y_71 ?_|refine y_72 ?_|refine y_3 h1 ?_|refine y_3 h2 ?_|(refine y_150 ?_;intro _)|refine y_165 ?_|refine Z81 fun _ => ?_|refine Z82 fun _ => ?_)
  rename_i p3 p4 p6
  refine st_loop (ι := Nat × F2 × F2 × F2) (fun q => q.1 ≤ 64 * xs.length ∧ Kf.K2.jp q.2.1 q.2.2.1 q.2.2.2 = Kf.K2.tim (some (qx, qy)) (V xs / 2 ^ q.1)) (fun q => [(0, s), (3, pt p3 0), (4, pt p4 0), (6, pt p6 0), (7, .int .i64 ((q.1 : Int) - 1))])
   (fun q => [.blk p6 (J36 q.2.1 q.2.2.1 q.2.2.2) 80, .blk p3 (GE qx qy false) 31, .blk p4 (GL (List.replicate 24 0) false) 31]) (fun q => q.1) (64 * xs.length, Kf.K2.zero, Kf.K2.zero, Kf.K2.zero) ⟨Nat.le_refl _, by simp only; rw [hz, Kf.K2.jp_0]; rfl⟩ (by repeat (first|apply subL.nil|refine subL.cons (by rfl) ?_)) (by simp only [J36]; rw [← zero36]; exact (by repeat (first|apply SubW.nil|refine y_8 ?_))) ?_
  rintro ⟨j, X, Y, Z⟩ ⟨hj, hjp⟩
  simp only at hj hjp ⊢
  repeat (first|refine y_166 ?_|refine Z81 fun _ => ?_|refine Z82 fun _ => ?_)
  refine st_cond (by rfl) (fun hc => ?_) (fun hc => ?_)
  ·have h0 : (0 : Int) ≤ (j : Int) - 1 := hc
   obtain ⟨i, rfl⟩ : ∃ i, j = i + 1 := ⟨j - 1, by omega⟩
   rw [show ((i + 1 : Nat) : Int) - 1 = Int.ofNat i by simp]
   have hst := bit_step (V xs) i
   have hbt := bit_and6 hx i
   generalize V xs / 2 ^ (i + 1) = m at hst hjp
   have ht := twice_spec X Y Z
   have hoj : Kf.K2.Onc b2c (Kf.K2.jp X Y Z) := by rw [hjp]; exact Kf.K2.Onc_tim p_3 h m
   have hjt := Kf.K2.jp_twice p_3 no2 hoj
   rw [hjp, ← Kf.K2.tim_add p_3 no2 h] at hjt
   generalize Kf.K2.tX X Y = X2 at ht hjt
   generalize Kf.K2.tY X Y = Y2 at ht hjt
   generalize Kf.K2.tZ Y Z = Z2 at ht hjt
   repeat (first|refine y_164 ?_|refine y_3 ht ?_|refine y_167 ?_|refine st_shr (by rfl) (by rfl) (show i % 64 ≤ 64 by omega) (by rfl) ?_|rw [hbt]|refine y_166 ?_|refine Z81 fun _ => ?_|refine Z82 fun _ => ?_)
   refine st_cond (by rfl) (fun hb => ?_) (fun hb => ?_)
   ·have hx1 : V xs / 2 ^ i = m + m := by omega
    repeat (first|refine y_166 ?_|refine Z81 fun _ => ?_|refine Z82 fun _ => ?_)
    refine st_round (i, X2, Y2, Z2) ⟨by simp only; omega, by simp only; rw [hjt, hx1]⟩ (by simp only; omega) ?_ (by repeat (first|apply SubW.nil|refine y_8 ?_))
    rw [show ((i : Int) - 1) = Int.ofNat i - Int.ofNat 1 from rfl]
    exact (by repeat (first|apply subL.nil|refine subL.cons (by rfl) ?_))
   ·have hx1 : V xs / 2 ^ i = m + m + 1 := by omega
    have ho2 : Kf.K2.Onc b2c (Kf.K2.jp X2 Y2 Z2) := by rw [hjt]; exact Kf.K2.Onc_tim p_3 h _
    obtain ⟨X3, Y3, Z3, hj3, hs3⟩ := plus_ex X2 Y2 Z2 qx qy ho2
    rw [hjt, show Kf.K2.pa (Kf.K2.tim (some (qx, qy)) (m + m)) (some (qx, qy)) = Kf.K2.tim (some (qx, qy)) (m + m + 1) from rfl] at hj3
    repeat (first|refine y_164 ?_|refine y_146 ?_|refine y_3 hs3 ?_|refine y_167 ?_|refine Z01 ?_|refine Z02 ?_|refine Z03 ?_|refine Z04 ?_|refine Z05 ?_|refine Z06 ?_|refine Z07 ?_|refine Z08 ?_|refine Z09 ?_|refine Z10 ?_|refine Z11 ?_|refine Z12 ?_|refine Z13 ?_|refine Z14 ?_|refine Z16 ?_|refine Z17 ?_|refine Z18 ?_|refine Z20 ?_|refine Z21 ?_|refine Z22 ?_|refine Z23 ?_|refine Z24 ?_|refine Z25 ?_|refine Z26 ?_|refine Z27 ?_|refine Z28 ?_|refine Z29 ?_|refine Z30 ?_|refine Z31 ?_|refine Z32 ?_|refine Z36 ?_|refine Z37 ?_|refine Z38 ?_|refine Z40 ?_|refine Z42 ?_|refine Z54 ?_|refine Z58 ?_|refine Z59 ?_|refine Z65 ?_|refine Z67 ?_|refine Z71 ?_|refine Z81 fun _ => ?_|refine Z82 fun _ => ?_)
    refine st_round (i, X3, Y3, Z3) ⟨by simp only; omega, by simp only; rw [hj3, hx1]⟩ (by simp only; omega) ?_ (by repeat (first|apply SubW.nil|refine y_8 ?_))
    rw [show ((i : Int) - 1) = Int.ofNat i - Int.ofNat 1 from rfl]
    exact (by repeat (first|apply subL.nil|refine subL.cons (by rfl) ?_))
  ·have hp0 : ¬ (0 : Int) ≤ (j : Int) - 1 := hc
   have hj0 : j = 0 := by omega
   subst hj0
   rw [Nat.pow_zero, Nat.div_one] at hjp
   have hpt := point_spec X Y Z
   rw [hjp] at hpt
   obtain ⟨x1, y1, i1, hq⟩ : ∃ x1 y1 i1, GV (Kf.K2.tim (some (qx, qy)) (V xs)) = GE x1 y1 i1 := ⟨_, _, _, rfl⟩
   rw [hq] at hpt ⊢
   repeat (first|refine y_164 ?_|refine y_3 hpt ?_|refine y_129 ?_|refine Z01 ?_|refine Z02 ?_|refine Z03 ?_|refine Z04 ?_|refine Z05 ?_|refine Z06 ?_|refine Z07 ?_|refine Z08 ?_|refine Z09 ?_|refine Z10 ?_|refine Z11 ?_|refine Z12 ?_|refine Z13 ?_|refine Z14 ?_|refine Z16 ?_|refine Z17 ?_|refine Z18 ?_|refine Z20 ?_|refine Z21 ?_|refine Z22 ?_|refine Z23 ?_|refine Z24 ?_|refine Z25 ?_|refine Z26 ?_|refine Z27 ?_|refine Z28 ?_|refine Z29 ?_|refine Z30 ?_|refine Z31 ?_|refine Z32 ?_|refine Z36 ?_|refine Z37 ?_|refine Z38 ?_|refine Z40 ?_|refine Z42 ?_|refine Z54 ?_|refine Z58 ?_|refine Z59 ?_|refine Z65 ?_|refine Z67 ?_|refine Z71 ?_|refine Z81 fun _ => ?_|refine Z82 fun _ => ?_)
   repeat (first|with_reducible refine st_ng_ret ?_|refine y_166 ?_|refine Z81 fun _ => ?_|refine Z82 fun _ => ?_)
   refine st_endc2_GL (m := 24) (by rfl) (by rfl) (by rfl) (by repeat first|apply Find.here|apply Find.there) (by rfl) (by rfl) (by first|with_reducible assumption|simp) fun _ hw => post_of hw SubW.nil ⟨?_, rfl⟩
   rfl
end Go.Proofs.YtbpmbdlgmmabcaaGreat.L
namespace Go.Proofs.YtbpmbdlgmmabcaaGreat.L
open Go Go.Proofs
set_option maxRecDepth 100000
attribute [local irreducible] Code.wp wpList Af bodyPost L.Go PartAt
open Num
attribute [local simp] D_len
theorem isoP_on {x y : F2} (h : Kf.K2.mul y y = side x) : isoP x y = (phx x, phy x y, false) :=
 isoP_0 rfl rfl rfl rfl (lin_Q2 (lin_ne h)) (lin_Q4 (lin_ne h))
theorem isoE (x y : F2) : Spec Tryz.prog 14 [LV .u64 (E2 x), LV .u64 (E2 y)] NoPre [] (IsV (GE (isoP x y).1 (isoP x y).2.1 (isoP x y).2.2)) := by
 have := iso_spec (val_lt x.re) (val_lt x.im) (val_lt y.re) (val_lt y.im); rwa [k2_val, k2_val] at this
theorem isoT {x y : F2} (h : Kf.K2.mul y y = side x) : Spec Tryz.prog 14 [LV .u64 (E2 x), LV .u64 (E2 y)] NoPre [] (IsV (GE (phx x) (phy x y) false)) := by
 have := isoE x y; rwa [isoP_on h] at this
theorem gaddE (P Q : Kf.K2.Pt p) : Spec Tryz.prog 17 [GV P, GV Q] NoPre [] (IsV (GV (Kf.K2.pa P Q))) := by
 have := gadd_spec (val_lt (gx P).re) (val_lt (gx P).im) (val_lt (gy P).re) (val_lt (gy P).im) (gi P) (val_lt (gx Q).re) (val_lt (gx Q).im) (val_lt (gy Q).re) (val_lt (gy Q).im) (gi Q)
 rwa [k2_val, k2_val, k2_val, k2_val, ptv_gv, ptv_gv] at this
end Go.Proofs.YtbpmbdlgmmabcaaGreat.L
namespace Go.Proofs.YtbpmbdlgmmabcaaGreat.L
open Go Go.Proofs
set_option maxRecDepth 100000
attribute [local irreducible] Code.wp wpList Af bodyPost L.Go PartAt
open Num
attribute [local simp] D_len
theorem geq_same (x y : F2) (i : Bool) : (((decide (D 6 x.re.val = D 6 x.re.val) && decide (D 6 x.im.val = D 6 x.im.val)) && (decide (D 6 y.re.val = D 6 y.re.val) && decide (D 6 y.im.val = D 6 y.im.val))) && decide (i = i)) = true := by
 rw [E2_same, E2_same, decide_eq_true rfl]; rfl
end Go.Proofs.YtbpmbdlgmmabcaaGreat.L
namespace Go.Proofs.YtbpmbdlgmmabcaaGreat.L
open Go Go.Proofs
set_option maxRecDepth 100000
attribute [local irreducible] Code.wp wpList Af bodyPost L.Go PartAt
open Num
attribute [local simp] D_len
def hC : List Nat := [16717924791090763089, 6451771550755190452, 16813287336095381155, 3368952460600638490, 7891079509683868336, 3646841576362204053, 11062809923385098209, 9863631852917151592, 6362576984766887208, 848540440590185907]
theorem hC_lt : Lt 18446744073709551616 hC := by unfold Lt hC; decide
theorem hC_len : hC.length = 10 := rfl
theorem y_168 {a b : Prop} (k : b) (h : Rm b → a := by intro k;(first|refine Z02 ?_|refine Z03 ?_|refine Z04 ?_|refine Z05 ?_|refine Z06 ?_|refine Z07 ?_|refine Z08 ?_|refine Z09 ?_|refine Z10 ?_|refine Z11 ?_|refine Z12 ?_|refine Z13 ?_|refine Z14 ?_|refine Z19 ?_|refine Z24 ?_|refine Z25 ?_|refine Z26 ?_|refine Z27 ?_|refine Z28 ?_|refine Z29 ?_|refine Z30 ?_|refine Z31 ?_|refine Z32 ?_|refine Z62 ?_|refine Z63 ?_|refine Z64 ?_|refine Z65 ?_|refine Z67 ?_);exact k.h) : a := h ⟨k⟩
set_option maxHeartbeats 8000000 in
theorem clear_on {P : Kf.K2.Pt p} (h : Kf.K2.Onc b2c P) {a b e f : Nat} (ha : a < W ^ 6) (hb : b < W ^ 6) (he : e < W ^ 6) (hf : f < W ^ 6) (i : Bool) (hP : P = ptv (k2 a b) (k2 e f) i) :
  Spec Tryz.prog 16 [G4 a b e f i] NoPre [] (IsV (.tuple [GV (Kf.K2.tim P (V hC)), N .i64 0].toArray)) := by
 refine mk_spec Tryz.func16 rfl rfl rfl fun w hr => ?_
 have hl0 := fun x => D_len 6 x
 have hle := fun x : F2 => E2_len x
 have hm := fun s => gmul_on h ha hb he hf i hP s hC hC_lt (by decide)
 obtain ⟨x1, y1, i1, hq⟩ : ∃ x1 y1 i1, GV (Kf.K2.tim P (V hC)) = GE x1 y1 i1 := ⟨_, _, _, rfl⟩
 rw [hq] at hm ⊢
 repeat (first|(refine y_125 ?_;intro _)|refine st_alloc (v := LV .u64 (List.replicate 10 0)) (by rfl) (by rfl) fun _ => ?_|(refine st_buildC (m := 10) (kk := .u64) (by rfl) (by rfl) (by rfl) (by rfl) (by rfl) (by rfl) (by rfl) (by rfl) ?_; rw [show [16717924791090763089, 6451771550755190452, 16813287336095381155, 3368952460600638490, 7891079509683868336, 3646841576362204053, 11062809923385098209, 9863631852917151592, 6362576984766887208, 848540440590185907] ++ List.replicate (10 - [16717924791090763089, 6451771550755190452, 16813287336095381155, 3368952460600638490, 7891079509683868336, 3646841576362204053, 11062809923385098209, 9863631852917151592, 6362576984766887208, 848540440590185907].length) 0 = hC from rfl])|refine y_168 ?_|refine Z81 fun _ => ?_|refine Z82 fun _ => ?_)
 refine R.st_perm [0, 1, 2, 3, 4, 5, 6] (by rfl) ?_
 repeat (first|(refine R.Zpf (by rfl) (by intro _ _ _;(first|refine Z02 ?_|refine Z19 ?_|refine Z62 ?_|refine Z63 ?_|refine Z64 ?_|refine Z65 ?_);exact Zq) ?_)|(refine R.Zpp (by rfl) (by intro _ _ _;(first|refine y_56 ?_);exact Zq) ?_)|refine y_145 ?_|(refine R.Zpp (by rfl) (by intro _ _ _;refine st_callV (by rfl) (by rfl) (by rfl) (hm _) (RdW.arrAll (m := 10) (by repeat first|apply Find.here|apply Find.there) hC_len) (by rfl) ?_;exact Zq) ?_)|refine y_263 ?_|(refine y_60 ?_;intro _)|refine R.Zpo (by rfl) ?_)
 refine R.Zp0 ?_
 repeat (first|refine y_168 ?_|refine Z81 fun _ => ?_|refine Z82 fun _ => ?_)
 refine st_endc2_GL (m := 24) (by rfl) (by rfl) (by rfl) (by repeat first|apply Find.here|apply Find.there) (by rfl) (by rfl) (by first|with_reducible assumption|simp) fun _ hw => post_of hw SubW.nil ⟨?_, rfl⟩
 rfl
theorem clearE {P : Kf.K2.Pt p} (h : Kf.K2.Onc b2c P) : Spec Tryz.prog 16 [GV P] NoPre [] (IsV (.tuple [GV (Kf.K2.tim P (V hC)), N .i64 0].toArray)) :=
 clear_on h (val_lt (gx P).re) (val_lt (gx P).im) (val_lt (gy P).re) (val_lt (gy P).im) (gi P) (by rw [k2_val, k2_val, ptv_gv])
def sent (u : F2) : Kf.K2.Pt p := some (phx (mapP u).1, phy (mapP u).1 (mapP u).2)
theorem sent_on (u : F2) : Kf.K2.Onc b2c (sent u) := ph_on (mapP_on u)
theorem sent_spec {a b : Nat} (ha : a < W ^ 6) (hb : b < W ^ 6) : Spec Tryz.prog 13 [LV .u64 (D 6 a ++ D 6 b)] NoPre [] (IsV (GV (sent (k2 a b)))) := by
 refine mk_spec Tryz.func13 rfl rfl rfl fun w hr => ?_
 have hl0 := fun x => D_len 6 x
 have hle := fun x : F2 => E2_len x
 have hm := map_spec ha hb
 have hi := isoT (mapP_on (k2 a b))
 rw [sent, GV_some]
 generalize mapP (k2 a b) = r at hm hi ⊢
 obtain ⟨x, y⟩ := r
 simp only at hm hi ⊢
 generalize phx x = c at hi ⊢
 generalize phy x y = d at hi ⊢
 repeat (first|(refine y_125 ?_;intro _)|refine y_3 hm ?_|refine y_3 hi ?_|refine y_129 ?_|refine Z03 ?_|refine Z04 ?_|refine Z05 ?_|refine Z06 ?_|refine Z07 ?_|refine Z08 ?_|refine Z09 ?_|refine Z10 ?_|refine Z11 ?_|refine Z12 ?_|refine Z13 ?_|refine Z14 ?_|refine Z19 ?_|refine Z24 ?_|refine Z25 ?_|refine Z26 ?_|refine Z27 ?_|refine Z28 ?_|refine Z29 ?_|refine Z30 ?_|refine Z31 ?_|refine Z32 ?_|refine Z67 ?_|refine Z81 fun _ => ?_|refine Z82 fun _ => ?_)
 refine st_endc_GL (m := 24) (by rfl) (by rfl) (by repeat first|apply Find.here|apply Find.there) (by rfl) (by rfl) (by first|with_reducible assumption|simp) fun _ hw => post_of hw SubW.nil ⟨?_, rfl⟩
 rfl
def send (u v : F2) : Kf.K2.Pt p := Kf.K2.tim (Kf.K2.pa (sent u) (sent v)) (V hC)
theorem y_169 {a b : Prop} (k : b) (h : Rm b → a := by intro k;(first|refine Z01 ?_|refine Z02 ?_|refine Z03 ?_|refine Z04 ?_|refine Z05 ?_|refine Z06 ?_|refine Z07 ?_|refine Z08 ?_|refine Z09 ?_|refine Z10 ?_|refine Z11 ?_|refine Z12 ?_|refine Z13 ?_|refine Z14 ?_|refine Z19 ?_|refine Z24 ?_|refine Z25 ?_|refine Z26 ?_|refine Z27 ?_|refine Z28 ?_|refine Z29 ?_|refine Z30 ?_|refine Z31 ?_|refine Z32 ?_|refine Z67 ?_);exact k.h) : a := h ⟨k⟩
theorem y_170 {a b : Prop} (k : b) (h : Rm b → a := by intro k;refine R.Zpf (by rfl) (by intro _ _ _;(first|refine Z01 ?_|refine Z02 ?_|refine Z19 ?_);exact Zq) ?_;exact k.h) : a := h ⟨k⟩
theorem y_171 {a b : Prop} (k : b) (h : Rm b → a := by intro k;refine R.Zpb (by rfl) (by intro _ _ _;refine st_alloc (E := 31) (v := GL (List.replicate 24 0) false) (by kernel_rfl) (by rfl) fun _ => ?_;exact R.Zpbx) ?_;exact k.h) : a := h ⟨k⟩
set_option maxHeartbeats 8000000 in
theorem send_spec {a b e f : Nat} (ha : a < W ^ 6) (hb : b < W ^ 6) (he : e < W ^ 6) (hf : f < W ^ 6) : Spec Tryz.prog 9 [LV .u64 (D 6 a ++ D 6 b), LV .u64 (D 6 e ++ D 6 f)] NoPre [] (IsV (GV (send (k2 a b) (k2 e f)))) := by
 refine mk_spec Tryz.func9 rfl rfl rfl fun w hr => ?_
 have hl0 := fun x => D_len 6 x
 have hle := fun x : F2 => E2_len x
 have h1 := sent_spec ha hb
 have h2 := sent_spec he hf
 have h3 := gaddE (sent (k2 a b)) (sent (k2 e f))
 have h4 := clearE (Kf.K2.Onc_pa p_3 (sent_on (k2 a b)) (sent_on (k2 e f)))
 rw [send]
 obtain ⟨x1, y1, i1, hq1⟩ : ∃ x1 y1 i1, GV (sent (k2 a b)) = GE x1 y1 i1 := ⟨_, _, _, rfl⟩
 obtain ⟨x2, y2, i2, hq2⟩ : ∃ x1 y1 i1, GV (sent (k2 e f)) = GE x1 y1 i1 := ⟨_, _, _, rfl⟩
 obtain ⟨x3, y3, i3, hq3⟩ : ∃ x1 y1 i1, GV (Kf.K2.pa (sent (k2 a b)) (sent (k2 e f))) = GE x1 y1 i1 := ⟨_, _, _, rfl⟩
 obtain ⟨x4, y4, i4, hq4⟩ : ∃ x1 y1 i1, GV (Kf.K2.tim (Kf.K2.pa (sent (k2 a b)) (sent (k2 e f))) (V hC)) = GE x1 y1 i1 := ⟨_, _, _, rfl⟩
 rw [hq1] at h1 h3
 rw [hq2] at h2 h3
 rw [hq3] at h3 h4
 rw [hq4] at h4 ⊢
 repeat (first|(refine y_125 ?_;intro _)|refine y_169 ?_|refine Z81 fun _ => ?_|refine Z82 fun _ => ?_)
 refine R.st_perm [0, 1, 2, 3, 4, 5, 6, 7, 8, 9, 10, 11, 12, 13] (by rfl) ?_
 repeat (first|refine y_170 ?_|refine y_202 ?_|refine y_68 ?_|refine y_69 h1 ?_|refine y_69 h2 ?_|refine y_69 h3 ?_|refine y_69 h4 ?_|refine y_263 ?_|(refine y_171 ?_;intro _)|(refine y_60 ?_;intro _)|refine R.Zpo (by rfl) ?_)
 refine R.Zp0 ?_
 repeat (first|refine y_146 ?_|refine y_129 ?_|refine Z01 ?_|refine Z02 ?_|refine Z03 ?_|refine Z04 ?_|refine Z05 ?_|refine Z06 ?_|refine Z07 ?_|refine Z08 ?_|refine Z09 ?_|refine Z10 ?_|refine Z11 ?_|refine Z12 ?_|refine Z13 ?_|refine Z14 ?_|refine Z19 ?_|refine Z24 ?_|refine Z25 ?_|refine Z26 ?_|refine Z27 ?_|refine Z28 ?_|refine Z29 ?_|refine Z30 ?_|refine Z31 ?_|refine Z32 ?_|refine Z67 ?_|refine Z81 fun _ => ?_|refine Z82 fun _ => ?_)
 refine st_endc_GL (m := 24) (by rfl) (by rfl) (by repeat first|apply Find.here|apply Find.there) (by rfl) (by rfl) (by first|with_reducible assumption|simp) fun _ hw => post_of hw SubW.nil ⟨?_, rfl⟩
 rfl
end Go.Proofs.YtbpmbdlgmmabcaaGreat.L
