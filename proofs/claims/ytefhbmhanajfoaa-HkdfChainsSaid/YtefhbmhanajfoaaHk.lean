/- Lists put together, and keyed sums: what they are, and the walks. Conditions: as each statement says. -/
import Derived.Test.YtefhbmhanajfoaaAuto
import Derived.Test.YtefhbmhanajfoaaPerm
import Derived.Test.YtefhbmhanajfoaaMore
import Derived.Test.YtefhbmhanajfoaaProg
import Derived.Test.YtefhbmhanajfoaaShaW
import Derived.Test.YtefhbmhanajfoaaShaX
import Derived.Test.YtefhbmhanajfoaaShaY
import Derived.Test.YtefhbmhanajfoaaShaZ
import Derived.Test.YtefhbmhanajfoaaShaP
import Derived.Test.YtefhbmhanajfoaaShaS
import Derived.Test.YtefhbmhanajfoaaShaT
import Derived.Test.YtefhbmhanajfoaaShaU
namespace Go.Proofs.Ytefhbmhanajfoaa.L
open Go Go.Proofs
attribute [local irreducible] Code.wp wpList Af bodyPost L.Go
open Sha
attribute [local simp] sum_len

/-! ## What is computed -/
def flat (ps : List (Value × List Nat)) : List Nat := ps.flatMap (·.2)
theorem flat_0 (ps : List (Value × List Nat)) : flat (ps.take 0) = [] := rfl
theorem flat_succ {ps : List (Value × List Nat)} {i : Nat} {p : Value} {ys : List Nat} (h : ps[i]? = some (p, ys)) : flat (ps.take (i + 1)) = flat (ps.take i) ++ ys := by
  have hi := (List.getElem?_eq_some_iff.1 h).1
  have he := (List.getElem?_eq_some_iff.1 h).2
  rw [List.take_succ_eq_append_getElem hi, he]
  simp [flat]
theorem flat_le (ps : List (Value × List Nat)) (i : Nat) : (flat (ps.take i)).length ≤ (flat ps).length := by
  have h : (flat ps).length = (flat (ps.take i)).length + (flat (ps.drop i)).length := by
    have := congrArg (fun q => (flat q).length) (List.take_append_drop i ps).symm
    simp only [flat, List.flatMap_append, List.length_append] at this ⊢; exact this
  omega
def xorb (x : Nat) (l : List Nat) : List Nat := l.map (· ^^^ x)
theorem xorb_len (x : Nat) (l : List Nat) : (xorb x l).length = l.length := by simp [xorb]
theorem xorb_getD (x : Nat) (l : List Nat) {i : Nat} (h : i < l.length) : (xorb x l).getD i 0 = l.getD i 0 ^^^ x := by
  simp [xorb, List.getD_eq_getElem?_getD, h]
theorem xorb_lt {x : Nat} {l : List Nat} (hx : x < 256) (h : Lt 256 l) : Lt 256 (xorb x l) := by
  intro y hy
  simp only [xorb, List.mem_map] at hy
  obtain ⟨z, hz, rfl⟩ := hy
  exact Nat.xor_lt_two_pow (n := 8) (h z hz) hx
def bkey (key : List Nat) : List Nat := if 64 < key.length then Sha.sum key else key
def hblk (key : List Nat) : List Nat := bkey key ++ List.replicate (64 - (bkey key).length) 0
theorem bkey_len (key : List Nat) : (bkey key).length ≤ 64 := by
  unfold bkey; split
  · rw [sum_len]; decide
  · omega
theorem bkey_lt {key : List Nat} (h : Lt 256 key) : Lt 256 (bkey key) := by
  unfold bkey; split
  · exact sum_lt _
  · exact h
theorem hblk_len (key : List Nat) : (hblk key).length = 64 := by
  have := bkey_len key
  simp [hblk]; omega
theorem hblk_lt {key : List Nat} (h : Lt 256 key) : Lt 256 (hblk key) := by
  intro x hx
  rcases List.mem_append.1 hx with hx | hx
  · exact bkey_lt h x hx
  · rw [List.eq_of_mem_replicate hx]; decide
theorem hblk_copy {key : List Nat} (k : List Nat) (h : bkey key = k) : List.take 0 (List.replicate 64 0) ++ List.take (64 - 0) k ++ List.drop (0 + min k.length (64 - 0)) (List.replicate 64 0) = hblk key := by
  have := bkey_len key
  unfold hblk
  rw [h] at this ⊢
  simp only [Nat.sub_zero, Nat.zero_add, List.take_zero, List.nil_append]
  rw [List.take_of_length_le (by omega), Nat.min_eq_left (by omega), List.drop_replicate]
def mac (key b : List Nat) : List Nat := Sha.sum (xorb 92 (hblk key) ++ Sha.sum (xorb 54 (hblk key) ++ b))
theorem mac_len (key b : List Nat) : (mac key b).length = 32 := sum_len _
theorem mac_lt (key b : List Nat) : Lt 256 (mac key b) := sum_lt _
/-- The pieces of what is made of a key. -/
def Tk (key info : List Nat) : Nat → List Nat
  | 0 => []
  | i + 1 => mac key (Tk key info i ++ info ++ [(i + 1) % 256])
def ok (key info : List Nat) : Nat → List Nat
  | 0 => []
  | i + 1 => ok key info i ++ Tk key info (i + 1)
theorem Tk_len (key info : List Nat) (i : Nat) (h : 0 < i) : (Tk key info i).length = 32 := by
  cases i with
  | zero => omega
  | succ i => exact mac_len _ _
theorem Tk_len_le (key info : List Nat) (i : Nat) : (Tk key info i).length ≤ 32 := by
  cases i with
  | zero => simp [Tk]
  | succ i => exact Nat.le_of_eq (mac_len _ _)
theorem Tk_lt (key info : List Nat) (i : Nat) : Lt 256 (Tk key info i) := by
  cases i with
  | zero => intro x hx; simp [Tk] at hx
  | succ i => exact mac_lt _ _
theorem ok_len (key info : List Nat) (i : Nat) : (ok key info i).length = 32 * i := by
  induction i with
  | zero => rfl
  | succ i ih => simp only [ok, List.length_append, ih, Tk_len key info (i + 1) (by omega)]; omega
theorem ok_lt (key info : List Nat) (i : Nat) : Lt 256 (ok key info i) := by
  induction i with
  | zero => intro x hx; simp [ok] at hx
  | succ i ih =>
    intro x hx
    rcases List.mem_append.1 hx with hx | hx
    · exact ih x hx
    · exact Tk_lt _ _ _ x hx
theorem Tk_0 (key info : List Nat) : Tk key info 0 = [] := rfl
theorem ok_0 (key info : List Nat) : ok key info 0 = [] := rfl
theorem Tk_succ (key info : List Nat) (i : Nat) : Tk key info (i + 1) = mac key (Tk key info i ++ info ++ [(i + 1) % 256]) := rfl
theorem ok_succ (key info : List Nat) (i : Nat) : ok key info (i + 1) = ok key info i ++ Tk key info (i + 1) := rfl
def expand (key info : List Nat) (n : Nat) : List Nat := (ok key info ((n + 31) / 32)).take n
theorem expand_len (key info : List Nat) (n : Nat) : (expand key info n).length = n := by simp [expand, ok_len]; omega
theorem expand_lt (key info : List Nat) (n : Nat) : Lt 256 (expand key info n) := fun x hx => ok_lt _ _ _ x (List.mem_of_mem_take hx)
theorem hblk_def {key : List Nat} : hblk key = bkey key ++ List.replicate (64 - (bkey key).length) 0 := rfl
theorem mac_def (key b : List Nat) : mac key b = Sha.sum (xorb 92 (hblk key) ++ Sha.sum (xorb 54 (hblk key) ++ b)) := rfl
theorem expand_def (key info : List Nat) (n : Nat) : expand key info n = (ok key info ((n + 31) / 32)).take n := rfl
theorem bkey_big {key : List Nat} (h : 64 < key.length) : bkey key = Sha.sum key := if_pos h
theorem bkey_small {key : List Nat} (h : ¬ 64 < key.length) : bkey key = key := if_neg h
attribute [irreducible] flat xorb bkey hblk mac Tk ok expand

/-! ## Lists put together -/
set_option maxHeartbeats 1000000 in
theorem grow_spec (k : Nat) (hk : k < 4294967296) : Spec Try.prog 77 [.slice none 0 0, N .i64 k] NoPre [] (fun v W => W = [.sl v (([] : List Nat).map (N .u8)) 5]) := by
  refine mk_spec Try.func77 rfl rfl rfl fun w _ => ?_
  repeat (first
    |(refine st_cmp (r := false) (by rfl) (by rfl) (cmpN_f (by first | (simp only [cmpQ]; done) | (simp only [cmpQ]; omega))) (by rfl) ?_)|(rw [List.length_nil])
    |(refine st_capnil (by rfl) (by rfl) (by rfl) ?_)|(refine st_lenN (ys := []) (kk := .u8) (by rfl) (by rfl) RdW.nil (by rfl) ?_)|refine Z01 ?_|refine Z02 ?_
    |refine Z03 ?_|refine Z04 ?_|refine Z05 ?_|refine Z06 ?_|refine Z07 ?_|refine Z08 ?_|refine Z09 ?_|refine Z10 ?_|refine Z11 ?_|refine Z12 ?_|refine Z13 ?_
    |refine Z14 ?_|refine Z16 ?_|refine Z17 ?_|refine Z18 ?_|refine Z20 ?_|refine Z21 ?_|refine Z58 ?_|refine Z59 ?_|refine Z62 ?_|refine Z63 ?_|refine Z64 ?_
    |refine Z71 ?_|refine Z84 fun _ => ?_)
  refine st_cond (by rfl) (fun h => ?_) (fun h => ?_)
  · repeat (first
      |(rw [List.length_nil])|(refine st_capnil (by rfl) (by rfl) (by rfl) ?_)|(refine st_lenN (ys := []) (kk := .u8) (by rfl) (by rfl) RdW.nil (by rfl) ?_)
      |(refine st_slice (xs := []) (lo := 0) (hi := 0) (by rfl) (by rfl) (by rfl) RdW.nil (by rfl) (by rfl) (by decide) (by decide) (by rfl) ?_)
      |(refine st_append_mk (k := k) (z := N .u8 0) (by rfl) (by rfl) (by rfl) (by rfl) (by rfl) (by rfl) (by rfl) (by rfl) (by omega) (by omega) (by omega) (by rfl) fun _ => ?_)
      |refine Z01 ?_|refine Z02 ?_|refine Z03 ?_|refine Z04 ?_|refine Z05 ?_|refine Z06 ?_|refine Z07 ?_|refine Z08 ?_|refine Z09 ?_|refine Z10 ?_|refine Z11 ?_
      |refine Z12 ?_|refine Z13 ?_|refine Z14 ?_|refine Z16 ?_|refine Z17 ?_|refine Z18 ?_|refine Z20 ?_|refine Z21 ?_|refine Z58 ?_|refine Z59 ?_|refine Z62 ?_
      |refine Z63 ?_|refine Z64 ?_|refine Z71 ?_|refine Z84 fun _ => ?_)
    rename_i s
    refine st_resl 0 0 (by repeat (first | apply Find.here | apply Find.there)) (by decide) (Nat.zero_le _) ?_
    exact Ze1 fun _ hw => post_of hw (Wout := [.sl (sub s 0 0) (([] : List Nat).map (N .u8)) 5]) (by exact (by repeat (first | apply SubW.nil | refine SubW.cons (by repeat (first | apply Find.here | apply Find.there)) ?_))) rfl
  · refine st_own_nil 5 ?_
    repeat (first
      |refine Z01 ?_|refine Z02 ?_|refine Z03 ?_|refine Z04 ?_|refine Z05 ?_|refine Z06 ?_|refine Z07 ?_|refine Z08 ?_|refine Z09 ?_|refine Z10 ?_|refine Z11 ?_
      |refine Z12 ?_|refine Z13 ?_|refine Z14 ?_|refine Z16 ?_|refine Z17 ?_|refine Z18 ?_|refine Z20 ?_|refine Z21 ?_|refine Z58 ?_|refine Z59 ?_|refine Z62 ?_
      |refine Z63 ?_|refine Z64 ?_|refine Z71 ?_|refine Z84 fun _ => ?_)
    exact Ze1 fun _ hw => post_of hw (Wout := [.sl (.slice none 0 0) (([] : List Nat).map (N .u8)) 5]) (by exact (by repeat (first | apply SubW.nil | refine SubW.cons (by repeat (first | apply Find.here | apply Find.there)) ?_))) rfl

set_option maxHeartbeats 1000000 in
theorem concat_spec (s : Value) (ps : List (Value × List Nat)) (hl : (flat ps).length < 4294967296) (hpl : ps.length < 4294967296) :
    Spec Try.prog 62 [s] (fun w => Rd w s (ps.map (·.1)) ∧ ∀ p ∈ ps, Rd w p.1 (p.2.map (N .u8))) [] (fun v W => W = [.sl v ((flat ps).map (N .u8)) 5]) := by
  refine mk_spec Try.func62 rfl rfl rfl fun w hr0 => ?_
  have hr := RdC.mk0 hr0.1
  have hrp : ∀ p ∈ ps, RdC ⟨w, fps []⟩ p.1 (p.2.map (N .u8)) := fun p hp => RdC.mk0 (hr0.2 p hp)
  repeat (first
    |refine Z01 ?_|refine Z02 ?_|refine Z03 ?_|refine Z04 ?_|refine Z05 ?_|refine Z06 ?_|refine Z07 ?_|refine Z08 ?_|refine Z09 ?_|refine Z10 ?_|refine Z11 ?_
    |refine Z12 ?_|refine Z13 ?_|refine Z14 ?_|refine Z15 ?_|refine Z17 ?_|refine Z18 ?_|refine Z20 ?_|refine Z21 ?_|refine Z22 ?_|refine Z23 ?_|refine Z24 ?_
    |refine Z25 ?_|refine Z26 ?_|refine Z27 ?_|refine Z28 ?_|refine Z58 ?_|refine Z59 ?_|refine Z67 ?_|refine Z70 ?_|refine Z84 fun _ => ?_)
  refine st_loop (ι := Nat) (fun i => i ≤ ps.length) (fun i => [(0, s), (2, .slice none 0 0), (3, N .i64 (flat (ps.take i)).length), (9, s), (10, N .i64 (ps.map (·.1)).length), (11, N .i64 i)]) (fun i => []) (fun i => ps.length - i) 0 (by omega) (by rw [flat_0]; exact (by repeat (first | apply subL.nil | refine subL.cons (by rfl) ?_))) (by repeat (first | apply SubW.nil | refine SubW.cons (by repeat (first | apply Find.here | apply Find.there)) ?_)) ?_
  intro i hi
  have hfl := flat_le ps i
  repeat (first
    |refine Z01 ?_|refine Z02 ?_|refine Z03 ?_|refine Z04 ?_|refine Z05 ?_|refine Z06 ?_|refine Z07 ?_|refine Z08 ?_|refine Z09 ?_|refine Z10 ?_|refine Z11 ?_
    |refine Z12 ?_|refine Z13 ?_|refine Z14 ?_|refine Z15 ?_|refine Z17 ?_|refine Z18 ?_|refine Z20 ?_|refine Z21 ?_|refine Z22 ?_|refine Z23 ?_|refine Z24 ?_
    |refine Z25 ?_|refine Z26 ?_|refine Z27 ?_|refine Z28 ?_|refine Z58 ?_|refine Z59 ?_|refine Z67 ?_|refine Z70 ?_|refine Z84 fun _ => ?_)
  refine st_cond (by rfl) (fun h => ?_) (fun h => ?_)
  · rw [List.length_map] at h
    obtain ⟨⟨p, ys⟩, hp⟩ : ∃ q, ps[i]? = some q := ⟨ps[i], by simp [h]⟩
    have hpr := hrp (p, ys) (List.mem_of_getElem? hp)
    simp only at hpr
    have hfs := flat_succ hp
    have hfl' := flat_le ps (i + 1)
    have e : (flat (ps.take i)).length + ys.length = (flat (ps.take (i + 1))).length := by rw [hfs, List.length_append]
    repeat (first
      |(refine st_cmp (r := false) (by rfl) (by rfl) (cmpN_f (by first | (simp only [cmpQ]; done) | (simp only [cmpQ]; omega))) (by rfl) ?_)|(rw [e])
      |(refine st_load_rd (v := p) (by rfl) (RdW.old hr) (by simp [hp]) (by rfl) (by rfl) ?_)|refine Z01 ?_|refine Z02 ?_|refine Z03 ?_|refine Z04 ?_|refine Z05 ?_
      |refine Z06 ?_|refine Z07 ?_|refine Z08 ?_|refine Z09 ?_|refine Z10 ?_|refine Z11 ?_|refine Z12 ?_|refine Z13 ?_|refine Z14 ?_|refine Z15 ?_|refine Z17 ?_
      |refine Z18 ?_|refine Z20 ?_|refine Z21 ?_|refine Z22 ?_|refine Z23 ?_|refine Z24 ?_|refine Z25 ?_|refine Z26 ?_|refine Z27 ?_|refine Z28 ?_|refine Z58 ?_
      |refine Z59 ?_|refine Z67 ?_|refine Z70 ?_|refine Z84 fun _ => ?_)
    exact st_round (i + 1) (by omega) (by omega) (by repeat (first | apply subL.nil | refine subL.cons (by rfl) ?_)) (by repeat (first | apply SubW.nil | refine SubW.cons (by repeat (first | apply Find.here | apply Find.there)) ?_))
  · rw [List.length_map] at h
    have hil : i = ps.length := by omega
    subst hil
    rw [List.take_length]
    repeat (first
      |((refine st_call (by rfl) (by rfl) (by rfl) (grow_spec (flat ps).length hl) .nil (fun _ _ => trivial) (by rfl) ?_; rintro v _ rfl))|refine Z01 ?_|refine Z02 ?_
      |refine Z03 ?_|refine Z04 ?_|refine Z05 ?_|refine Z06 ?_|refine Z07 ?_|refine Z08 ?_|refine Z09 ?_|refine Z10 ?_|refine Z11 ?_|refine Z12 ?_|refine Z13 ?_
      |refine Z14 ?_|refine Z15 ?_|refine Z17 ?_|refine Z18 ?_|refine Z20 ?_|refine Z21 ?_|refine Z22 ?_|refine Z23 ?_|refine Z24 ?_|refine Z25 ?_|refine Z26 ?_
      |refine Z27 ?_|refine Z28 ?_|refine Z58 ?_|refine Z59 ?_|refine Z67 ?_|refine Z70 ?_|refine Z84 fun _ => ?_)
    refine st_loop (ι := Nat × Value) (fun q => q.1 ≤ ps.length) (fun q => [(6, q.2), (25, s), (26, N .i64 (ps.map (·.1)).length), (27, N .i64 q.1)]) (fun q => [.sl q.2 ((flat (ps.take q.1)).map (N .u8)) 5]) (fun q => ps.length - q.1) (0, v) (by simp) (by repeat (first | apply subL.nil | refine subL.cons (by rfl) ?_)) (by simp only [flat_0]; exact (by repeat (first | apply SubW.nil | refine SubW.cons (by repeat (first | apply Find.here | apply Find.there)) ?_))) ?_
    rintro ⟨i, u⟩ hi
    simp only at hi ⊢
    have hfl := flat_le ps i
    repeat (first
      |refine Z01 ?_|refine Z02 ?_|refine Z03 ?_|refine Z04 ?_|refine Z05 ?_|refine Z06 ?_|refine Z07 ?_|refine Z08 ?_|refine Z09 ?_|refine Z10 ?_|refine Z11 ?_
      |refine Z12 ?_|refine Z13 ?_|refine Z14 ?_|refine Z15 ?_|refine Z17 ?_|refine Z18 ?_|refine Z20 ?_|refine Z21 ?_|refine Z22 ?_|refine Z23 ?_|refine Z24 ?_
      |refine Z25 ?_|refine Z26 ?_|refine Z27 ?_|refine Z28 ?_|refine Z58 ?_|refine Z59 ?_|refine Z67 ?_|refine Z70 ?_|refine Z84 fun _ => ?_)
    refine st_cond (by rfl) (fun h => ?_) (fun h => ?_)
    · rw [List.length_map] at h
      obtain ⟨⟨p, ys⟩, hp⟩ : ∃ q, ps[i]? = some q := ⟨ps[i], by simp [h]⟩
      have hpr := hrp (p, ys) (List.mem_of_getElem? hp)
      simp only at hpr
      have hfs := flat_succ hp
      have hfl' := flat_le ps (i + 1)
      have e : (flat (ps.take i)).length + ys.length = (flat (ps.take (i + 1))).length := by rw [hfs, List.length_append]
      repeat (first
        |(rw [← hfs])|(refine st_load_rd (v := p) (by rfl) (RdW.old hr) (by simp [hp]) (by rfl) (by rfl) ?_)|refine Z01 ?_|refine Z02 ?_|refine Z03 ?_|refine Z04 ?_
        |refine Z05 ?_|refine Z06 ?_|refine Z07 ?_|refine Z08 ?_|refine Z09 ?_|refine Z10 ?_|refine Z11 ?_|refine Z12 ?_|refine Z13 ?_|refine Z14 ?_|refine Z15 ?_
        |refine Z17 ?_|refine Z18 ?_|refine Z20 ?_|refine Z21 ?_|refine Z22 ?_|refine Z23 ?_|refine Z24 ?_|refine Z25 ?_|refine Z26 ?_|refine Z27 ?_|refine Z28 ?_
        |refine Z58 ?_|refine Z59 ?_|refine Z67 ?_|refine Z70 ?_|refine Z84 fun _ => ?_)
      rename_i u'
      exact st_round (i + 1, u') (by simp only; omega) (by simp only; omega) (by repeat (first | apply subL.nil | refine subL.cons (by rfl) ?_)) (by repeat (first | apply SubW.nil | refine SubW.cons (by repeat (first | apply Find.here | apply Find.there)) ?_))
    · rw [List.length_map] at h
      have hil : i = ps.length := by omega
      subst hil
      rw [List.take_length]
      repeat (first
        |refine Z01 ?_|refine Z02 ?_|refine Z03 ?_|refine Z04 ?_|refine Z05 ?_|refine Z06 ?_|refine Z07 ?_|refine Z08 ?_|refine Z09 ?_|refine Z10 ?_|refine Z11 ?_
        |refine Z12 ?_|refine Z13 ?_|refine Z14 ?_|refine Z15 ?_|refine Z17 ?_|refine Z18 ?_|refine Z20 ?_|refine Z21 ?_|refine Z22 ?_|refine Z23 ?_|refine Z24 ?_
        |refine Z25 ?_|refine Z26 ?_|refine Z27 ?_|refine Z28 ?_|refine Z58 ?_|refine Z59 ?_|refine Z67 ?_|refine Z70 ?_|refine Z84 fun _ => ?_)
      exact Ze1 fun _ hw => post_of hw (Wout := [.sl u ((flat ps).map (N .u8)) 5]) (by exact (by repeat (first | apply SubW.nil | refine SubW.cons (by repeat (first | apply Find.here | apply Find.there)) ?_))) rfl

theorem hsum_spec (s : Value) (ps : List (Value × List Nat)) (hb : Lt 256 (flat ps)) (hl : (flat ps).length < 4294967296) (hpl : ps.length < 4294967296) :
    Spec Try.prog 61 [s] (fun w => Rd w s (ps.map (·.1)) ∧ ∀ p ∈ ps, Rd w p.1 (p.2.map (N .u8))) [] (IsV (LV .u8 (Sha.sum (flat ps)))) := by
  refine mk_spec Try.func61 rfl rfl rfl fun w hr0 => ?_
  have hr := RdC.mk0 hr0.1
  have hrp : ∀ p ∈ ps, RdC ⟨w, fps []⟩ p.1 (p.2.map (N .u8)) := fun p hp => RdC.mk0 (hr0.2 p hp)
  have hsl := sum_len (flat ps)
  repeat (first
    |(refine st_alloc (v := LV .u8 (List.replicate 32 0)) (by rfl) (by rfl) fun _ => ?_)
    |((refine st_call (by rfl) (by rfl) (by rfl) (concat_spec s ps hl hpl) .nil (fun w hw => ⟨RdW.old hr w hw, fun p hp => RdW.old (hrp p hp) w hw⟩) (by rfl) ?_; rintro v _ rfl))
    |(refine st_callV (by rfl) (by rfl) (by rfl) (sum_spec _ (flat ps) hb hl) (RdW.own (by repeat (first | apply Find.here | apply Find.there))) (by rfl) ?_)
    |refine Z01 ?_|refine Z03 ?_|refine Z04 ?_|refine Z05 ?_|refine Z06 ?_|refine Z07 ?_|refine Z08 ?_|refine Z09 ?_|refine Z10 ?_|refine Z11 ?_|refine Z12 ?_
    |refine Z13 ?_|refine Z14 ?_|refine Z29 ?_|refine Z30 ?_|refine Z31 ?_|refine Z32 ?_|refine Z82 fun _ => ?_)
  refine Zec fun _ hw => post_of hw SubW.nil ⟨?_, rfl⟩
  rfl

/-! ## Keyed sums -/
set_option maxHeartbeats 1000000 in
theorem xored_spec (x : Nat) (hx : x < 256) (bb : Nat) (U : TypeId) (bl : List Nat) (hl : bl.length = 64) (hb : Lt 256 bl) :
    Spec Try.prog 60 [N .u8 x, pt bb 0] NoPre [.blk bb (LV .u8 bl) U] (fun v W => W = [.sl v ((xorb x bl).map (N .u8)) 5, .blk bb (LV .u8 bl) U]) := by
  refine mk_spec Try.func60 rfl rfl rfl fun w _ => ?_
  have hxl := xorb_len x bl
  have hal : (xorb x bl).length = (List.replicate 64 0).length := by rw [hxl, hl]; rfl
  repeat (first
    |refine Z01 ?_|refine Z02 ?_|refine Z03 ?_|refine Z04 ?_|refine Z05 ?_|refine Z06 ?_|refine Z07 ?_|refine Z08 ?_|refine Z09 ?_|refine Z10 ?_|refine Z11 ?_
    |refine Z12 ?_|refine Z13 ?_|refine Z14 ?_|refine Z15 ?_|refine Z17 ?_|refine Z18 ?_|refine Z22 ?_|refine Z23 ?_|refine Z24 ?_|refine Z25 ?_|refine Z26 ?_
    |refine Z27 ?_|refine Z28 ?_|refine Z29 ?_|refine Z30 ?_|refine Z31 ?_|refine Z32 ?_|refine Z39 ?_|refine Z57 ?_|refine Z67 ?_|refine Z70 ?_|refine Z83 fun _ => ?_)
  rename_i v
  refine st_loop (ι := Nat) (fun i => i ≤ 64) (fun i => [(0, N .u8 x), (4, v), (8, LV .u8 bl), (9, N .i64 i)]) (fun i => [.sl v ((mixT (xorb x bl) (List.replicate 64 0) i).map (N .u8)) 5, .blk bb (LV .u8 bl) U]) (fun i => 64 - i) 0 (by omega) (by repeat (first | apply subL.nil | refine subL.cons (by rfl) ?_)) (by rw [mixT_0]; exact (by repeat (first | apply SubW.nil | refine SubW.cons (by repeat (first | apply Find.here | apply Find.there)) ?_))) ?_
  intro i hi
  have hml := mixT_len hal i
  rw [List.length_replicate] at hml
  repeat (first
    |refine Z01 ?_|refine Z02 ?_|refine Z03 ?_|refine Z04 ?_|refine Z05 ?_|refine Z06 ?_|refine Z07 ?_|refine Z08 ?_|refine Z09 ?_|refine Z10 ?_|refine Z11 ?_
    |refine Z12 ?_|refine Z13 ?_|refine Z14 ?_|refine Z15 ?_|refine Z17 ?_|refine Z18 ?_|refine Z22 ?_|refine Z23 ?_|refine Z24 ?_|refine Z25 ?_|refine Z26 ?_
    |refine Z27 ?_|refine Z28 ?_|refine Z29 ?_|refine Z30 ?_|refine Z31 ?_|refine Z32 ?_|refine Z39 ?_|refine Z57 ?_|refine Z67 ?_|refine Z70 ?_|refine Z83 fun _ => ?_)
  refine st_cond (by rfl) (fun h => ?_) (fun h => ?_)
  · repeat (first
      |refine Z01 ?_|refine Z02 ?_|refine Z03 ?_|refine Z04 ?_|refine Z05 ?_|refine Z06 ?_|refine Z07 ?_|refine Z08 ?_|refine Z09 ?_|refine Z10 ?_|refine Z11 ?_
      |refine Z12 ?_|refine Z13 ?_|refine Z14 ?_|refine Z15 ?_|refine Z17 ?_|refine Z18 ?_|refine Z22 ?_|refine Z23 ?_|refine Z24 ?_|refine Z25 ?_|refine Z26 ?_
      |refine Z27 ?_|refine Z28 ?_|refine Z29 ?_|refine Z30 ?_|refine Z31 ?_|refine Z32 ?_|refine Z39 ?_|refine Z57 ?_|refine Z67 ?_|refine Z70 ?_|refine Z83 fun _ => ?_)
    have h1 := hb.getD (by decide) i
    rw [Nat.mod_eq_of_lt h1, Nat.mod_eq_of_lt hx, ← xorb_getD x bl (by omega), mix_take hal (by simp; omega)]
    exact st_round (i + 1) (by omega) (by omega) (by repeat (first | apply subL.nil | refine subL.cons (by rfl) ?_)) (by repeat (first | apply SubW.nil | refine SubW.cons (by repeat (first | apply Find.here | apply Find.there)) ?_))
  · have h64 : i = 64 := by omega
    subst h64
    rw [show mixT (xorb x bl) (List.replicate 64 0) 64 = xorb x bl from mixT_all hal]
    repeat (first
      |refine Z01 ?_|refine Z02 ?_|refine Z03 ?_|refine Z04 ?_|refine Z05 ?_|refine Z06 ?_|refine Z07 ?_|refine Z08 ?_|refine Z09 ?_|refine Z10 ?_|refine Z11 ?_
      |refine Z12 ?_|refine Z13 ?_|refine Z14 ?_|refine Z15 ?_|refine Z17 ?_|refine Z18 ?_|refine Z22 ?_|refine Z23 ?_|refine Z24 ?_|refine Z25 ?_|refine Z26 ?_
      |refine Z27 ?_|refine Z28 ?_|refine Z29 ?_|refine Z30 ?_|refine Z31 ?_|refine Z32 ?_|refine Z39 ?_|refine Z57 ?_|refine Z67 ?_|refine Z70 ?_|refine Z83 fun _ => ?_)
    exact Ze1 fun _ hw => post_of hw (Wout := [.sl v ((xorb x bl).map (N .u8)) 5, .blk bb (LV .u8 bl) U]) (by exact (by repeat (first | apply SubW.nil | refine SubW.cons (by repeat (first | apply Find.here | apply Find.there)) ?_))) rfl

theorem subA_one (b n lo hi : Nat) : (subA b n lo hi).oneCell' = true := rfl
theorem flat2 (p q : Value) (xs ys : List Nat) : flat [(p, xs), (q, ys)] = xs ++ ys := by unfold flat; simp
theorem flat3 (p q r : Value) (xs ys zs : List Nat) : flat [(p, xs), (q, ys), (r, zs)] = xs ++ ys ++ zs := by unfold flat; simp
theorem Lt.app {m : Nat} {xs ys : List Nat} (h : Lt m xs) (k : Lt m ys) : Lt m (xs ++ ys) := fun x hx => by
  rcases List.mem_append.1 hx with hx | hx
  · exact h x hx
  · exact k x hx
theorem Lt.one {m x : Nat} (h : x < m) : Lt m [x] := fun y hy => by simp at hy; subst hy; exact h

set_option maxHeartbeats 1000000 in
theorem mac_spec (s1 s2 : Value) (key b : List Nat) (hkey : Lt 256 key) (hb : Lt 256 b) (hl1 : key.length < 1073741824) (hl2 : b.length < 1073741824) :
    Spec Try.prog 32 [s1, s2] (fun w => Rd w s1 (key.map (N .u8)) ∧ Rd w s2 (b.map (N .u8))) [] (IsV (LV .u8 (mac key b))) := by
  refine mk_spec Try.func32 rfl rfl rfl fun w hr => ?_
  have hr1 := RdC.mk0 hr.1
  have hr2 := RdC.mk0 hr.2
  have hs2o := hr.2.one
  repeat (first
    |(refine st_alloc (v := LV .u8 (List.replicate 32 0)) (by rfl) (by rfl) fun _ => ?_)
    |(refine st_alloc (v := LV .u8 (List.replicate 64 0)) (by rfl) (by rfl) fun _ => ?_)|refine Z01 ?_|refine Z02 ?_|refine Z03 ?_|refine Z04 ?_|refine Z05 ?_
    |refine Z06 ?_|refine Z07 ?_|refine Z08 ?_|refine Z09 ?_|refine Z10 ?_|refine Z11 ?_|refine Z12 ?_|refine Z13 ?_|refine Z14 ?_|refine Z17 ?_|refine Z18 ?_
    |refine Z20 ?_|refine Z21 ?_|refine Z29 ?_|refine Z30 ?_|refine Z31 ?_|refine Z32 ?_|refine Z48 ?_|refine Z58 ?_|refine Z59 ?_|refine Z62 ?_|refine Z63 ?_
    |refine Z64 ?_|refine Z75 ?_|refine Z76 ?_|refine Z82 fun _ => ?_|refine Z85 fun _ => ?_)
  refine st_cond (by rfl) (fun h => ?_) (fun h => ?_)
  · have hsl := sum_len key
    repeat (first
      |(refine st_callV (by rfl) (by rfl) (by rfl) (sum_spec s1 key hkey (by omega)) (RdW.old hr1) (by rfl) ?_)
      |(refine st_alloc (v := LV .u8 (List.replicate 32 0)) (by rfl) (by rfl) fun _ => ?_)|refine Z01 ?_|refine Z02 ?_|refine Z03 ?_|refine Z04 ?_|refine Z05 ?_
      |refine Z06 ?_|refine Z07 ?_|refine Z08 ?_|refine Z09 ?_|refine Z10 ?_|refine Z11 ?_|refine Z12 ?_|refine Z13 ?_|refine Z14 ?_|refine Z17 ?_|refine Z18 ?_
      |refine Z20 ?_|refine Z21 ?_|refine Z29 ?_|refine Z30 ?_|refine Z31 ?_|refine Z32 ?_|refine Z48 ?_|refine Z58 ?_|refine Z59 ?_|refine Z62 ?_|refine Z63 ?_
      |refine Z64 ?_|refine Z75 ?_|refine Z76 ?_|refine Z82 fun _ => ?_|refine Z85 fun _ => ?_)
    have hkl := hblk_len key
    have hkb := hblk_lt hkey
    have hx1 := xorb_len 54 (hblk key)
    have hx2 := xorb_len 92 (hblk key)
    have hs1 := sum_len (xorb 54 (hblk key) ++ b)
    have hs2 := sum_len (xorb 92 (hblk key) ++ Sha.sum (xorb 54 (hblk key) ++ b))
    have hb1 : Lt 256 (xorb 54 (hblk key) ++ b) := Lt.app (xorb_lt (by decide) hkb) hb
    have hb2 : Lt 256 (xorb 92 (hblk key) ++ Sha.sum (xorb 54 (hblk key) ++ b)) := Lt.app (xorb_lt (by decide) hkb) (sum_lt _)
    repeat (first
      |(rw [hblk_copy (List.drop 0 (List.take 32 (Sha.sum key))) (by rw [bkey_big h, List.drop_zero, List.take_of_length_le (by omega)])])
      |((refine st_call (by rfl) (by rfl) (by rfl) (xored_spec 54 (by decide) _ _ (hblk key) hkl hkb) (.cons (by repeat (first | apply Find.here | apply Find.there)) .nil) (fun _ _ => trivial) (by rfl) ?_; rintro v _ rfl; refine st_fact (fun w hw => (RdW.own (by repeat (first | apply Find.here | apply Find.there)) w hw).one) fun hv1 => ?_))
      |(refine st_buildSlice (vs := [v, s2]) (by rfl) (by rfl) (by rfl) (by rfl) (by rfl) (by rfl) (by rfl) (by simp [hv1, hs2o]) (by rfl) (by rfl) fun _ => ?_)
      |(refine st_callV (by rfl) (by rfl) (by rfl) (hsum_spec _ [(v, xorb 54 (hblk key)), (s2, b)] (by rw [flat2]; exact hb1) (by rw [flat2, List.length_append]; omega) (by simp)) (fun w hw => ⟨RdW.own (by repeat (first | apply Find.here | apply Find.there)) w hw, by intro p hp; simp only [List.mem_cons, List.not_mem_nil, or_false] at hp; rcases hp with rfl | rfl; exact RdW.own (by repeat (first | apply Find.here | apply Find.there)) w hw; exact RdW.old hr2 w hw⟩) (by rfl) ?_)
      |(rw [flat2])|(refine st_alloc (v := LV .u8 (List.replicate 32 0)) (by rfl) (by rfl) fun _ => ?_)|refine Z01 ?_|refine Z02 ?_|refine Z03 ?_|refine Z04 ?_
      |refine Z05 ?_|refine Z06 ?_|refine Z07 ?_|refine Z08 ?_|refine Z09 ?_|refine Z10 ?_|refine Z11 ?_|refine Z12 ?_|refine Z13 ?_|refine Z14 ?_|refine Z17 ?_
      |refine Z18 ?_|refine Z20 ?_|refine Z21 ?_|refine Z29 ?_|refine Z30 ?_|refine Z31 ?_|refine Z32 ?_|refine Z48 ?_|refine Z58 ?_|refine Z59 ?_|refine Z62 ?_
      |refine Z63 ?_|refine Z64 ?_|refine Z75 ?_|refine Z76 ?_|refine Z82 fun _ => ?_|refine Z85 fun _ => ?_)
    have hF1 : ∀ p q : Value, Lt 256 (flat [(p, xorb 92 (hblk key)), (q, Sha.sum (xorb 54 (hblk key) ++ b))]) := fun p q => by rw [flat2]; exact hb2
    have hF2 : ∀ p q : Value, (flat [(p, xorb 92 (hblk key)), (q, Sha.sum (xorb 54 (hblk key) ++ b))]).length < 4294967296 := fun p q => by rw [flat2, List.length_append]; omega
    have hF3 : ∀ (p q : Value) (xs ys : List Nat), [(p, xs), (q, ys)].length < 4294967296 := fun p q xs ys => by simp
    rename_i b8
    refine st_perm [0, 2, 1, 3, 4, 5] (by rfl) ?_
    repeat (first
      |refine Zpf (by rfl)
        (by intro _ _ _;(first
        |refine Z01 ?_|refine Z02 ?_|refine Z17 ?_|refine Z18 ?_|refine Z20 ?_|refine Z21 ?_|refine Z48 ?_|refine Z58 ?_|refine Z59 ?_|refine Z62 ?_|refine Z63 ?_
        |refine Z64 ?_);exact Zq) ?_
      |refine Zpp (by rfl)
        (by intro _ _ _;(first
        |refine Z20 ?_|refine Z21 ?_|refine Z62 ?_);exact Zq) ?_
      |refine Zpp (by rfl)
        (by intro _ _ _;refine st_callV (by rfl) (by rfl) (by rfl) (hsum_spec _ [(_, xorb 92 (hblk key)), (subA b8 32 0 32, Sha.sum (xorb 54 (hblk key) ++ b))] (hF1 _ _) (hF2 _ _) (hF3 _ _ _ _)) (fun w hw => ⟨RdW.own (by repeat (first | apply Find.here | apply Find.there)) w hw, by intro p hp; simp only [List.mem_cons, List.not_mem_nil, or_false] at hp; rcases hp with rfl | rfl; exact RdW.own (by repeat (first | apply Find.here | apply Find.there)) w hw; exact RdW.arrAll (m := 32) (by repeat (first | apply Find.here | apply Find.there)) hs1 w hw⟩) (by rfl) ?_;exact Zq) ?_
      |refine Zps (by rfl)
        (by intro _ _ _;(first
        |refine Z29 ?_|refine Z30 ?_|refine Z31 ?_|refine Z32 ?_);exact Zqq) ?_
      |refine Zpn (by rfl)
        (by intro _ _ _;(first
        |refine Z82 fun _ => ?_|refine Z85 fun _ => ?_);exact Zpx) fun _ => ?_
      |refine Zpn (by rfl)
        (by intro _ _ _;(first
        |refine Z75 ?_|refine Z76 ?_);exact Zpx) fun _ => ?_
      |refine Zpn (by rfl)
        (by intro _ _ _;(refine st_call (by rfl) (by rfl) (by rfl) (xored_spec 92 (by decide) _ _ (hblk key) hkl hkb) (.cons (by repeat (first | apply Find.here | apply Find.there)) .nil) (fun _ _ => trivial) (by rfl) ?_; rintro v _ rfl);exact Zpx) fun _ => ?_
      |refine Zpn (by rfl)
        (by intro _ _ _;(refine st_fact (fun w hw => (RdW.own (by repeat (first | apply Find.here | apply Find.there)) w hw).one) fun hv1 => ?_; refine st_buildSlice (vs := [_, subA b8 32 0 32]) (by rfl) (by rfl) (by rfl) (by rfl) (by rfl) (by rfl) (by rfl) (by simp [hv1, subA_one]) (by rfl) (by rfl) fun _ => ?_);exact Zpx) fun _ => ?_
      |refine Zpo (by rfl) ?_)
    refine Zp0 ?_
    rw [flat2, ← mac_def]
    have hml := mac_len key b
    repeat (first
      |refine Z01 ?_|refine Z02 ?_|refine Z03 ?_|refine Z04 ?_|refine Z05 ?_|refine Z06 ?_|refine Z07 ?_|refine Z08 ?_|refine Z09 ?_|refine Z10 ?_|refine Z11 ?_
      |refine Z12 ?_|refine Z13 ?_|refine Z14 ?_|refine Z17 ?_|refine Z18 ?_|refine Z20 ?_|refine Z21 ?_|refine Z29 ?_|refine Z30 ?_|refine Z31 ?_|refine Z32 ?_
      |refine Z48 ?_|refine Z58 ?_|refine Z59 ?_|refine Z62 ?_|refine Z63 ?_|refine Z64 ?_|refine Z75 ?_|refine Z76 ?_|refine Z82 fun _ => ?_|refine Z85 fun _ => ?_)
    refine Zec fun _ hw => post_of hw SubW.nil ⟨?_, rfl⟩
    rfl
  · have hkl := hblk_len key
    have hkb := hblk_lt hkey
    have hx1 := xorb_len 54 (hblk key)
    have hx2 := xorb_len 92 (hblk key)
    have hs1 := sum_len (xorb 54 (hblk key) ++ b)
    have hs2 := sum_len (xorb 92 (hblk key) ++ Sha.sum (xorb 54 (hblk key) ++ b))
    have hb1 : Lt 256 (xorb 54 (hblk key) ++ b) := Lt.app (xorb_lt (by decide) hkb) hb
    have hb2 : Lt 256 (xorb 92 (hblk key) ++ Sha.sum (xorb 54 (hblk key) ++ b)) := Lt.app (xorb_lt (by decide) hkb) (sum_lt _)
    repeat (first
      |(rw [hblk_copy key (bkey_small h)])
      |((refine st_call (by rfl) (by rfl) (by rfl) (xored_spec 54 (by decide) _ _ (hblk key) hkl hkb) (.cons (by repeat (first | apply Find.here | apply Find.there)) .nil) (fun _ _ => trivial) (by rfl) ?_; rintro v _ rfl; refine st_fact (fun w hw => (RdW.own (by repeat (first | apply Find.here | apply Find.there)) w hw).one) fun hv1 => ?_))
      |(refine st_buildSlice (vs := [v, s2]) (by rfl) (by rfl) (by rfl) (by rfl) (by rfl) (by rfl) (by rfl) (by simp [hv1, hs2o]) (by rfl) (by rfl) fun _ => ?_)
      |(refine st_callV (by rfl) (by rfl) (by rfl) (hsum_spec _ [(v, xorb 54 (hblk key)), (s2, b)] (by rw [flat2]; exact hb1) (by rw [flat2, List.length_append]; omega) (by simp)) (fun w hw => ⟨RdW.own (by repeat (first | apply Find.here | apply Find.there)) w hw, by intro p hp; simp only [List.mem_cons, List.not_mem_nil, or_false] at hp; rcases hp with rfl | rfl; exact RdW.own (by repeat (first | apply Find.here | apply Find.there)) w hw; exact RdW.old hr2 w hw⟩) (by rfl) ?_)
      |(rw [flat2])|(refine st_alloc (v := LV .u8 (List.replicate 32 0)) (by rfl) (by rfl) fun _ => ?_)|refine Z01 ?_|refine Z02 ?_|refine Z03 ?_|refine Z04 ?_
      |refine Z05 ?_|refine Z06 ?_|refine Z07 ?_|refine Z08 ?_|refine Z09 ?_|refine Z10 ?_|refine Z11 ?_|refine Z12 ?_|refine Z13 ?_|refine Z14 ?_|refine Z17 ?_
      |refine Z18 ?_|refine Z20 ?_|refine Z21 ?_|refine Z29 ?_|refine Z30 ?_|refine Z31 ?_|refine Z32 ?_|refine Z48 ?_|refine Z58 ?_|refine Z59 ?_|refine Z62 ?_
      |refine Z63 ?_|refine Z64 ?_|refine Z75 ?_|refine Z76 ?_|refine Z82 fun _ => ?_|refine Z85 fun _ => ?_)
    have hF1 : ∀ p q : Value, Lt 256 (flat [(p, xorb 92 (hblk key)), (q, Sha.sum (xorb 54 (hblk key) ++ b))]) := fun p q => by rw [flat2]; exact hb2
    have hF2 : ∀ p q : Value, (flat [(p, xorb 92 (hblk key)), (q, Sha.sum (xorb 54 (hblk key) ++ b))]).length < 4294967296 := fun p q => by rw [flat2, List.length_append]; omega
    have hF3 : ∀ (p q : Value) (xs ys : List Nat), [(p, xs), (q, ys)].length < 4294967296 := fun p q xs ys => by simp
    rename_i b8
    refine st_perm [0, 2, 1, 3, 4, 5] (by rfl) ?_
    repeat (first
      |refine Zpf (by rfl)
        (by intro _ _ _;(first
        |refine Z01 ?_|refine Z02 ?_|refine Z17 ?_|refine Z18 ?_|refine Z20 ?_|refine Z21 ?_|refine Z48 ?_|refine Z58 ?_|refine Z59 ?_|refine Z62 ?_|refine Z63 ?_
        |refine Z64 ?_);exact Zq) ?_
      |refine Zpp (by rfl)
        (by intro _ _ _;(first
        |refine Z20 ?_|refine Z21 ?_|refine Z62 ?_);exact Zq) ?_
      |refine Zpp (by rfl)
        (by intro _ _ _;refine st_callV (by rfl) (by rfl) (by rfl) (hsum_spec _ [(_, xorb 92 (hblk key)), (subA b8 32 0 32, Sha.sum (xorb 54 (hblk key) ++ b))] (hF1 _ _) (hF2 _ _) (hF3 _ _ _ _)) (fun w hw => ⟨RdW.own (by repeat (first | apply Find.here | apply Find.there)) w hw, by intro p hp; simp only [List.mem_cons, List.not_mem_nil, or_false] at hp; rcases hp with rfl | rfl; exact RdW.own (by repeat (first | apply Find.here | apply Find.there)) w hw; exact RdW.arrAll (m := 32) (by repeat (first | apply Find.here | apply Find.there)) hs1 w hw⟩) (by rfl) ?_;exact Zq) ?_
      |refine Zps (by rfl)
        (by intro _ _ _;(first
        |refine Z29 ?_|refine Z30 ?_|refine Z31 ?_|refine Z32 ?_);exact Zqq) ?_
      |refine Zpn (by rfl)
        (by intro _ _ _;(first
        |refine Z82 fun _ => ?_|refine Z85 fun _ => ?_);exact Zpx) fun _ => ?_
      |refine Zpn (by rfl)
        (by intro _ _ _;(first
        |refine Z75 ?_|refine Z76 ?_);exact Zpx) fun _ => ?_
      |refine Zpn (by rfl)
        (by intro _ _ _;(refine st_call (by rfl) (by rfl) (by rfl) (xored_spec 92 (by decide) _ _ (hblk key) hkl hkb) (.cons (by repeat (first | apply Find.here | apply Find.there)) .nil) (fun _ _ => trivial) (by rfl) ?_; rintro v _ rfl);exact Zpx) fun _ => ?_
      |refine Zpn (by rfl)
        (by intro _ _ _;(refine st_fact (fun w hw => (RdW.own (by repeat (first | apply Find.here | apply Find.there)) w hw).one) fun hv1 => ?_; refine st_buildSlice (vs := [_, subA b8 32 0 32]) (by rfl) (by rfl) (by rfl) (by rfl) (by rfl) (by rfl) (by rfl) (by simp [hv1, subA_one]) (by rfl) (by rfl) fun _ => ?_);exact Zpx) fun _ => ?_
      |refine Zpo (by rfl) ?_)
    refine Zp0 ?_
    rw [flat2, ← mac_def]
    have hml := mac_len key b
    repeat (first
      |refine Z01 ?_|refine Z02 ?_|refine Z03 ?_|refine Z04 ?_|refine Z05 ?_|refine Z06 ?_|refine Z07 ?_|refine Z08 ?_|refine Z09 ?_|refine Z10 ?_|refine Z11 ?_
      |refine Z12 ?_|refine Z13 ?_|refine Z14 ?_|refine Z17 ?_|refine Z18 ?_|refine Z20 ?_|refine Z21 ?_|refine Z29 ?_|refine Z30 ?_|refine Z31 ?_|refine Z32 ?_
      |refine Z48 ?_|refine Z58 ?_|refine Z59 ?_|refine Z62 ?_|refine Z63 ?_|refine Z64 ?_|refine Z75 ?_|refine Z76 ?_|refine Z82 fun _ => ?_|refine Z85 fun _ => ?_)
    refine Zec fun _ hw => post_of hw SubW.nil ⟨?_, rfl⟩
    rfl
end Go.Proofs.Ytefhbmhanajfoaa.L
