/- Keyed sums, and bytes made of a key: the program's and the reference's walks. Conditions: as each statement says. -/
import Derived.Test.YtefhbmhanajfoaaAuto
import Derived.Test.YtefhbmhanajfoaaPerm
import Derived.Test.YtefhbmhanajfoaaMore
import Derived.Test.YtefhbmhanajfoaaProg
import Derived.Test.YtefhbmhanajfoaaShaW
import Derived.Test.YtefhbmhanajfoaaShaX
import Derived.Test.YtefhbmhanajfoaaShaY
import Derived.Test.YtefhbmhanajfoaaShaZ
import Derived.Test.YtefhbmhanajfoaaShaP
import Derived.Test.YtefhbmhanajfoaaShaS
import Derived.Test.YtefhbmhanajfoaaShaT
import Derived.Test.YtefhbmhanajfoaaShaU
import Derived.Test.YtefhbmhanajfoaaHk
namespace Go.Proofs.Ytefhbmhanajfoaa.L
open Go Go.Proofs
attribute [local irreducible] Code.wp wpList Af bodyPost L.Go
open Sha
attribute [local simp] sum_len mac_len

theorem extract_spec (s1 s2 : Value) (key b : List Nat) (hkey : Lt 256 key) (hb : Lt 256 b) (hl1 : key.length < 1073741824) (hl2 : b.length < 1073741824) :
    Spec Try.prog 36 [s1, s2] (fun w => Rd w s1 (key.map (N .u8)) ∧ Rd w s2 (b.map (N .u8))) [] (IsV (LV .u8 (mac key b))) := by
  refine mk_spec Try.func36 rfl rfl rfl fun w hr => ?_
  have hr1 := RdC.mk0 hr.1
  have hr2 := RdC.mk0 hr.2
  have hml := mac_len key b
  repeat (first
    |(refine st_alloc (v := LV .u8 (List.replicate 32 0)) (by rfl) (by rfl) fun _ => ?_)
    |(refine st_callV (by rfl) (by rfl) (by rfl) (mac_spec s1 s2 key b hkey hb hl1 hl2) (fun w hw => ⟨RdW.old hr1 w hw, RdW.old hr2 w hw⟩) (by rfl) ?_)|refine Z01 ?_
    |refine Z03 ?_|refine Z04 ?_|refine Z05 ?_|refine Z06 ?_|refine Z07 ?_|refine Z08 ?_|refine Z09 ?_|refine Z10 ?_|refine Z11 ?_|refine Z12 ?_|refine Z13 ?_
    |refine Z14 ?_|refine Z29 ?_|refine Z30 ?_|refine Z31 ?_|refine Z32 ?_|refine Z82 fun _ => ?_)
  refine Zec fun _ hw => post_of hw SubW.nil ⟨?_, rfl⟩
  rfl

set_option maxHeartbeats 1000000 in
theorem expand_ok (s1 s2 : Value) (key info : List Nat) (n : Nat) (hkey : Lt 256 key) (hinfo : Lt 256 info) (hl1 : key.length < 1073741824) (hl2 : info.length < 1000000000) (hn : n ≤ 8160) :
    Spec Try.prog 33 [s1, s2, N .i64 n] (fun w => Rd w s1 (key.map (N .u8)) ∧ Rd w s2 (info.map (N .u8))) [] (fun v W => ∃ x, v = .tuple [x, N .i64 0].toArray ∧ W = [.sl x ((expand key info n).map (N .u8)) 5]) := by
  refine mk_spec Try.func33 rfl rfl rfl fun w hr => ?_
  have hr1 := RdC.mk0 hr.1
  have hr2 := RdC.mk0 hr.2
  have hs2o := hr.2.one
  repeat (first
    |(refine st_cmp (r := false) (by rfl) (by rfl) (cmpN_f (by first | (simp only [cmpQ]; done) | (simp only [cmpQ]; omega))) (by rfl) ?_)|refine Z01 ?_|refine Z02 ?_
    |refine Z03 ?_|refine Z04 ?_|refine Z05 ?_|refine Z06 ?_|refine Z07 ?_|refine Z08 ?_|refine Z09 ?_|refine Z10 ?_|refine Z11 ?_|refine Z12 ?_|refine Z13 ?_
    |refine Z14 ?_|refine Z15 ?_|refine Z17 ?_|refine Z18 ?_|refine Z20 ?_|refine Z21 ?_|refine Z29 ?_|refine Z30 ?_|refine Z31 ?_|refine Z32 ?_|refine Z44 ?_
    |refine Z45 ?_|refine Z49 ?_|refine Z50 ?_|refine Z51 ?_|refine Z52 ?_|refine Z53 ?_|refine Z58 ?_|refine Z59 ?_|refine Z62 ?_|refine Z63 ?_|refine Z64 ?_
    |refine Z70 ?_|refine Z74 ?_|refine Z80 ?_|refine Z82 fun _ => ?_|refine Z84 fun _ => ?_|refine Z85 fun _ => ?_)
  refine st_own_nil 5 ?_
  refine st_own_nil 27 ?_
  refine st_loop (ι := Nat × Value × Value) (fun q => q.1 ≤ (n + 31) / 32) (fun q => [(0, s1), (1, s2), (2, N .i64 n), (8, q.2.1), (9, q.2.2), (10, N .i64 (q.1 + 1))])
    (fun q => [.sl q.2.1 ((ok key info q.1).map (N .u8)) 5, .sl q.2.2 ((Tk key info q.1).map (N .u8)) 27]) (fun q => (n + 31) / 32 - q.1) (0, .slice none 0 0, .slice none 0 0) (by simp) (by repeat (first | apply subL.nil | refine subL.cons (by rfl) ?_)) (by simp only [ok_0, Tk_0]; exact (by repeat (first | apply SubW.nil | refine SubW.cons (by repeat (first | apply Find.here | apply Find.there)) ?_))) ?_
  rintro ⟨i, v, u⟩ hi
  simp only at hi ⊢
  refine st_fact (fun w hw => (RdW.own (s := u) (by repeat (first | apply Find.here | apply Find.there)) w hw).one) fun huo => ?_
  have hol := ok_len key info i
  have htl := Tk_len_le key info i
  have htb := Tk_lt key info i
  repeat (first
    |refine Z01 ?_|refine Z02 ?_|refine Z03 ?_|refine Z04 ?_|refine Z05 ?_|refine Z06 ?_|refine Z07 ?_|refine Z08 ?_|refine Z09 ?_|refine Z10 ?_|refine Z11 ?_
    |refine Z12 ?_|refine Z13 ?_|refine Z14 ?_|refine Z15 ?_|refine Z17 ?_|refine Z18 ?_|refine Z20 ?_|refine Z21 ?_|refine Z29 ?_|refine Z30 ?_|refine Z31 ?_
    |refine Z32 ?_|refine Z44 ?_|refine Z45 ?_|refine Z49 ?_|refine Z50 ?_|refine Z51 ?_|refine Z52 ?_|refine Z53 ?_|refine Z58 ?_|refine Z59 ?_|refine Z62 ?_
    |refine Z63 ?_|refine Z64 ?_|refine Z70 ?_|refine Z74 ?_|refine Z80 ?_|refine Z82 fun _ => ?_|refine Z84 fun _ => ?_|refine Z85 fun _ => ?_)
  refine st_cond (by rfl) (fun h => ?_) (fun h => ?_)
  · rw [hol] at h
    have hb1 : Lt 256 (Tk key info i ++ info ++ [(i + 1) % 256]) := Lt.app (Lt.app htb hinfo) (Lt.one (Nat.mod_lt _ (by decide)))
    have hll : (Tk key info i ++ info ++ [(i + 1) % 256]).length < 1073741824 := by simp; omega
    have hml := mac_len key (Tk key info i ++ info ++ [(i + 1) % 256])
    have hC : ∀ p q r : Value, (flat [(p, Tk key info i), (q, info), (r, [(i + 1) % 256])]).length < 4294967296 := fun p q r => by rw [flat3]; omega
    have hC3 : ∀ (p q r : Value) (xs ys zs : List Nat), [(p, xs), (q, ys), (r, zs)].length < 4294967296 := fun p q r xs ys zs => by simp
    repeat (first
      
      |((refine st_fact (fun w hw => (RdW.own (xs := [(i + 1) % 256].map (N .u8)) (by repeat (first | apply Find.here | apply Find.there)) w hw).one) fun hv1 => ?_; refine st_buildSlice (E := 22) (vs := [u, s2, _]) (by rfl) (by rfl) (by rfl) (by rfl) (by rfl) (by rfl) (by rfl) (by simp [hv1, hs2o, huo]) (by rfl) (by rfl) fun _ => ?_))
      |((refine st_call (by rfl) (by rfl) (by rfl) (concat_spec _ [(u, Tk key info i), (s2, info), (_, [(i + 1) % 256])] (hC _ _ _) (hC3 _ _ _ _ _ _)) .nil (fun w hw => ⟨RdW.own (by repeat (first | apply Find.here | apply Find.there)) w hw, by intro p hp; simp only [List.mem_cons, List.not_mem_nil, or_false] at hp; rcases hp with rfl | rfl | rfl; exact RdW.own (by repeat (first | apply Find.here | apply Find.there)) w hw; exact RdW.old hr2 w hw; exact RdW.own (by repeat (first | apply Find.here | apply Find.there)) w hw⟩) (by rfl) ?_; rintro x _ rfl; rw [flat3]))
      |(refine st_callV (by rfl) (by rfl) (by rfl) (mac_spec s1 _ key (Tk key info i ++ info ++ [(i + 1) % 256]) hkey hb1 hl1 hll) (fun w hw => ⟨RdW.old hr1 w hw, RdW.own (by repeat (first | apply Find.here | apply Find.there)) w hw⟩) (by rfl) ?_)
      |(refine st_alloc (v := LV .u8 (List.replicate 32 0)) (by rfl) (by rfl) fun _ => ?_)|refine Z01 ?_|refine Z02 ?_|refine Z03 ?_|refine Z04 ?_|refine Z05 ?_
      |refine Z06 ?_|refine Z07 ?_|refine Z08 ?_|refine Z09 ?_|refine Z10 ?_|refine Z11 ?_|refine Z12 ?_|refine Z13 ?_|refine Z14 ?_|refine Z15 ?_|refine Z17 ?_
      |refine Z18 ?_|refine Z20 ?_|refine Z21 ?_|refine Z29 ?_|refine Z30 ?_|refine Z31 ?_|refine Z32 ?_|refine Z44 ?_|refine Z45 ?_|refine Z49 ?_|refine Z50 ?_
      |refine Z51 ?_|refine Z52 ?_|refine Z53 ?_|refine Z58 ?_|refine Z59 ?_|refine Z62 ?_|refine Z63 ?_|refine Z64 ?_|refine Z70 ?_|refine Z74 ?_|refine Z80 ?_
      |refine Z82 fun _ => ?_|refine Z84 fun _ => ?_|refine Z85 fun _ => ?_)
    rename_i v'
    rw [← Tk_succ, List.drop_zero, List.take_of_length_le (by rw [Tk_len key info (i + 1) (by omega)]; omega), ← ok_succ]
    refine st_blk_sl (m := 32) (by repeat (first | apply Find.here | apply Find.there)) (Tk_len key info (i + 1) (by omega)) ?_
    exact st_round (i + 1, v', _) (by simp only; omega) (by simp only; omega) (by repeat (first | apply subL.nil | refine subL.cons (by rfl) ?_)) (by repeat (first | apply SubW.nil | refine SubW.cons (by repeat (first | apply Find.here | apply Find.there)) ?_))
  · rw [hol] at h
    have hie : i = (n + 31) / 32 := by omega
    subst hie
    repeat (first
      |refine Z01 ?_|refine Z02 ?_|refine Z03 ?_|refine Z04 ?_|refine Z05 ?_|refine Z06 ?_|refine Z07 ?_|refine Z08 ?_|refine Z09 ?_|refine Z10 ?_|refine Z11 ?_
      |refine Z12 ?_|refine Z13 ?_|refine Z14 ?_|refine Z15 ?_|refine Z17 ?_|refine Z18 ?_|refine Z20 ?_|refine Z21 ?_|refine Z29 ?_|refine Z30 ?_|refine Z31 ?_
      |refine Z32 ?_|refine Z44 ?_|refine Z45 ?_|refine Z49 ?_|refine Z50 ?_|refine Z51 ?_|refine Z52 ?_|refine Z53 ?_|refine Z58 ?_|refine Z59 ?_|refine Z62 ?_
      |refine Z63 ?_|refine Z64 ?_|refine Z70 ?_|refine Z74 ?_|refine Z80 ?_|refine Z82 fun _ => ?_|refine Z84 fun _ => ?_|refine Z85 fun _ => ?_)
    refine st_resl (s := v) 0 n (by repeat (first | apply Find.here | apply Find.there)) (by omega) (by rw [List.length_map, hol]; omega) ?_
    rw [List.drop_zero, ← List.map_take, ← expand_def]
    exact Ze2 fun _ hw => post_of hw (Wout := [.sl (sub v 0 n) ((expand key info n).map (N .u8)) 5]) (by exact (by repeat (first | apply SubW.nil | refine SubW.cons (by repeat (first | apply Find.here | apply Find.there)) ?_))) ⟨_, rfl, rfl⟩

theorem expand_bad (s1 s2 : Value) (n : Int) (hn : n < 0 ∨ 8160 < n) : Spec Try.prog 33 [s1, s2, .int .i64 n] NoPre [] (IsV (.tuple [.slice none 0 0, N .i64 20].toArray)) := by
  refine mk_spec Try.func33 rfl rfl rfl fun w hr => ?_
  by_cases h0 : n < 0
  · repeat (first
      |(rw [decide_eq_true (p := n < Int.ofNat 0) h0])|refine Z01 ?_|refine Z02 ?_|refine Z03 ?_|refine Z04 ?_|refine Z05 ?_|refine Z06 ?_|refine Z07 ?_|refine Z08 ?_
      |refine Z09 ?_|refine Z10 ?_|refine Z11 ?_|refine Z12 ?_|refine Z13 ?_|refine Z14 ?_|refine Z15 ?_|refine Z17 ?_|refine Z18 ?_|refine Z20 ?_|refine Z21 ?_
      |refine Z29 ?_|refine Z30 ?_|refine Z31 ?_|refine Z32 ?_|refine Z44 ?_|refine Z45 ?_|refine Z49 ?_|refine Z50 ?_|refine Z51 ?_|refine Z52 ?_|refine Z53 ?_
      |refine Z58 ?_|refine Z59 ?_|refine Z62 ?_|refine Z63 ?_|refine Z64 ?_|refine Z70 ?_|refine Z74 ?_|refine Z80 ?_|refine Z82 fun _ => ?_|refine Z84 fun _ => ?_
      |refine Z85 fun _ => ?_)
    exact Ze2 fun _ hw => post_of hw SubW.nil ⟨rfl, rfl⟩
  · have h1 : 8160 < n := by omega
    repeat (first
      |(rw [decide_eq_false (p := n < Int.ofNat 0) h0])|(rw [decide_eq_true (p := Int.ofNat 8160 < n) h1])|refine Z01 ?_|refine Z02 ?_|refine Z03 ?_|refine Z04 ?_
      |refine Z05 ?_|refine Z06 ?_|refine Z07 ?_|refine Z08 ?_|refine Z09 ?_|refine Z10 ?_|refine Z11 ?_|refine Z12 ?_|refine Z13 ?_|refine Z14 ?_|refine Z15 ?_
      |refine Z17 ?_|refine Z18 ?_|refine Z20 ?_|refine Z21 ?_|refine Z29 ?_|refine Z30 ?_|refine Z31 ?_|refine Z32 ?_|refine Z44 ?_|refine Z45 ?_|refine Z49 ?_
      |refine Z50 ?_|refine Z51 ?_|refine Z52 ?_|refine Z53 ?_|refine Z58 ?_|refine Z59 ?_|refine Z62 ?_|refine Z63 ?_|refine Z64 ?_|refine Z70 ?_|refine Z74 ?_
      |refine Z80 ?_|refine Z82 fun _ => ?_|refine Z84 fun _ => ?_|refine Z85 fun _ => ?_)
    exact Ze2 fun _ hw => post_of hw SubW.nil ⟨rfl, rfl⟩

/-! ## The reference -/
theorem xorb_take (x : Nat) (l : List Nat) {i : Nat} (h : i < l.length) : (xorb x l).take i ++ [l.getD i 0 ^^^ x] = (xorb x l).take (i + 1) := by
  rw [← xorb_getD x l h, List.take_succ_eq_append_getElem (by rw [xorb_len]; exact h)]
  simp [List.getD_eq_getElem?_getD, xorb_len, h]

set_option maxHeartbeats 1000000 in
theorem less_spec (s : Value) (l : List Nat) (x : Nat) (hx : x < 256) (hb : Lt 256 l) (hl : l.length < 1073741824) :
    Spec Try.prog 64 [s, N .u8 x] (fun w => Rd w s (l.map (N .u8))) [] (fun v W => W = [.sl v ((xorb x l).map (N .u8)) 5]) := by
  refine mk_spec Try.func64 rfl rfl rfl fun w hr => ?_
  have hr := RdC.mk0 hr
  have hxl := xorb_len x l
  refine st_own_nil 5 ?_
  repeat (first
    |refine Z01 ?_|refine Z02 ?_|refine Z03 ?_|refine Z04 ?_|refine Z05 ?_|refine Z06 ?_|refine Z07 ?_|refine Z08 ?_|refine Z09 ?_|refine Z10 ?_|refine Z11 ?_
    |refine Z12 ?_|refine Z13 ?_|refine Z14 ?_|refine Z15 ?_|refine Z17 ?_|refine Z18 ?_|refine Z20 ?_|refine Z21 ?_|refine Z22 ?_|refine Z23 ?_|refine Z24 ?_
    |refine Z25 ?_|refine Z26 ?_|refine Z27 ?_|refine Z28 ?_|refine Z39 ?_|refine Z58 ?_|refine Z59 ?_|refine Z67 ?_|refine Z70 ?_|refine Z84 fun _ => ?_
    |refine Z85 fun _ => ?_)
  refine st_loop (ι := Nat × Value) (fun q => q.1 ≤ l.length) (fun q => [(0, s), (1, N .u8 x), (5, q.2), (6, N .i64 q.1)]) (fun q => [.sl q.2 (((xorb x l).take q.1).map (N .u8)) 5]) (fun q => l.length - q.1) (0, .slice none 0 0) (by simp) (by repeat (first | apply subL.nil | refine subL.cons (by rfl) ?_)) (by repeat (first | apply SubW.nil | refine SubW.cons (by repeat (first | apply Find.here | apply Find.there)) ?_)) ?_
  rintro ⟨i, v⟩ hi
  simp only at hi ⊢
  have hil : ((xorb x l).take i).length = i := by rw [List.length_take, hxl]; omega
  repeat (first
    |refine Z01 ?_|refine Z02 ?_|refine Z03 ?_|refine Z04 ?_|refine Z05 ?_|refine Z06 ?_|refine Z07 ?_|refine Z08 ?_|refine Z09 ?_|refine Z10 ?_|refine Z11 ?_
    |refine Z12 ?_|refine Z13 ?_|refine Z14 ?_|refine Z15 ?_|refine Z17 ?_|refine Z18 ?_|refine Z20 ?_|refine Z21 ?_|refine Z22 ?_|refine Z23 ?_|refine Z24 ?_
    |refine Z25 ?_|refine Z26 ?_|refine Z27 ?_|refine Z28 ?_|refine Z39 ?_|refine Z58 ?_|refine Z59 ?_|refine Z67 ?_|refine Z70 ?_|refine Z84 fun _ => ?_
    |refine Z85 fun _ => ?_)
  refine st_cond (by rfl) (fun h => ?_) (fun h => ?_)
  · have h1 := hb.getD (by decide) i
    have ht := xorb_take x l h
    repeat (first
      |(rw [Nat.mod_eq_of_lt h1, Nat.mod_eq_of_lt hx])|(rw [ht])|refine Z01 ?_|refine Z02 ?_|refine Z03 ?_|refine Z04 ?_|refine Z05 ?_|refine Z06 ?_|refine Z07 ?_
      |refine Z08 ?_|refine Z09 ?_|refine Z10 ?_|refine Z11 ?_|refine Z12 ?_|refine Z13 ?_|refine Z14 ?_|refine Z15 ?_|refine Z17 ?_|refine Z18 ?_|refine Z20 ?_
      |refine Z21 ?_|refine Z22 ?_|refine Z23 ?_|refine Z24 ?_|refine Z25 ?_|refine Z26 ?_|refine Z27 ?_|refine Z28 ?_|refine Z39 ?_|refine Z58 ?_|refine Z59 ?_
      |refine Z67 ?_|refine Z70 ?_|refine Z84 fun _ => ?_|refine Z85 fun _ => ?_)
    rename_i v2 v3
    exact st_round (i + 1, v3) (by simp only; omega) (by simp only; omega) (by repeat (first | apply subL.nil | refine subL.cons (by rfl) ?_)) (by repeat (first | apply SubW.nil | refine SubW.cons (by repeat (first | apply Find.here | apply Find.there)) ?_))
  · have hie : i = (xorb x l).length := by omega
    rw [hie, List.take_length]
    repeat (first
      |refine Z01 ?_|refine Z02 ?_|refine Z03 ?_|refine Z04 ?_|refine Z05 ?_|refine Z06 ?_|refine Z07 ?_|refine Z08 ?_|refine Z09 ?_|refine Z10 ?_|refine Z11 ?_
      |refine Z12 ?_|refine Z13 ?_|refine Z14 ?_|refine Z15 ?_|refine Z17 ?_|refine Z18 ?_|refine Z20 ?_|refine Z21 ?_|refine Z22 ?_|refine Z23 ?_|refine Z24 ?_
      |refine Z25 ?_|refine Z26 ?_|refine Z27 ?_|refine Z28 ?_|refine Z39 ?_|refine Z58 ?_|refine Z59 ?_|refine Z67 ?_|refine Z70 ?_|refine Z84 fun _ => ?_
      |refine Z85 fun _ => ?_)
    exact Ze1 fun _ hw => post_of hw (Wout := [.sl v ((xorb x l).map (N .u8)) 5]) (by exact (by repeat (first | apply SubW.nil | refine SubW.cons (by repeat (first | apply Find.here | apply Find.there)) ?_))) rfl

set_option maxHeartbeats 1000000 in
theorem block_spec (s : Value) (key : List Nat) (hkey : Lt 256 key) (hl : key.length < 1073741824) :
    Spec Try.prog 63 [s] (fun w => Rd w s (key.map (N .u8))) [] (fun v W => W = [.sl v ((hblk key).map (N .u8)) 5]) := by
  refine mk_spec Try.func63 rfl rfl rfl fun w hr => ?_
  have hr := RdC.mk0 hr
  have hsl := sum_len key
  repeat (first
    |(rw [List.nil_append])|refine Z01 ?_|refine Z02 ?_|refine Z03 ?_|refine Z04 ?_|refine Z05 ?_|refine Z06 ?_|refine Z07 ?_|refine Z08 ?_|refine Z09 ?_|refine Z10 ?_
    |refine Z11 ?_|refine Z12 ?_|refine Z13 ?_|refine Z14 ?_|refine Z17 ?_|refine Z18 ?_|refine Z20 ?_|refine Z21 ?_|refine Z29 ?_|refine Z30 ?_|refine Z31 ?_
    |refine Z32 ?_|refine Z58 ?_|refine Z59 ?_|refine Z62 ?_|refine Z63 ?_|refine Z64 ?_|refine Z82 fun _ => ?_|refine Z84 fun _ => ?_|refine Z85 fun _ => ?_)
  rename_i v0 v1
  refine st_cond (by rfl) (fun h => ?_) (fun h => ?_)
  · repeat (first
      |(rw [List.nil_append])|(refine st_alloc (v := LV .u8 (List.replicate 32 0)) (by rfl) (by rfl) fun _ => ?_)
      |(refine st_callV (by rfl) (by rfl) (by rfl) (rsum_spec s key hkey (by omega)) (RdW.old hr) (by rfl) ?_)|refine Z01 ?_|refine Z02 ?_|refine Z03 ?_|refine Z04 ?_
      |refine Z05 ?_|refine Z06 ?_|refine Z07 ?_|refine Z08 ?_|refine Z09 ?_|refine Z10 ?_|refine Z11 ?_|refine Z12 ?_|refine Z13 ?_|refine Z14 ?_|refine Z17 ?_
      |refine Z18 ?_|refine Z20 ?_|refine Z21 ?_|refine Z29 ?_|refine Z30 ?_|refine Z31 ?_|refine Z32 ?_|refine Z58 ?_|refine Z59 ?_|refine Z62 ?_|refine Z63 ?_
      |refine Z64 ?_|refine Z82 fun _ => ?_|refine Z84 fun _ => ?_|refine Z85 fun _ => ?_)
    rename_i v2 v3
    rw [List.drop_zero, List.take_of_length_le (by omega)]
    have hkl := bkey_len key
    refine st_loop (ι := Nat × Value) (fun q => q.1 ≤ 64 - (bkey key).length) (fun q => [(3, q.2)]) (fun q => [.sl q.2 ((bkey key ++ List.replicate q.1 0).map (N .u8)) 5]) (fun q => 64 - (bkey key).length - q.1) (0, v3) (by simp) (by repeat (first | apply subL.nil | refine subL.cons (by rfl) ?_)) (by simp only [List.replicate_zero, List.append_nil]; rw [bkey_big h]; exact (by repeat (first | apply SubW.nil | refine SubW.cons (by repeat (first | apply Find.here | apply Find.there)) ?_))) ?_
    rintro ⟨j, v⟩ hj
    simp only at hj ⊢
    have hjl : (bkey key ++ List.replicate j 0).length = (bkey key).length + j := by simp
    repeat (first
      |refine Z01 ?_|refine Z02 ?_|refine Z03 ?_|refine Z04 ?_|refine Z05 ?_|refine Z06 ?_|refine Z07 ?_|refine Z08 ?_|refine Z09 ?_|refine Z10 ?_|refine Z11 ?_
      |refine Z12 ?_|refine Z13 ?_|refine Z14 ?_|refine Z17 ?_|refine Z18 ?_|refine Z20 ?_|refine Z21 ?_|refine Z29 ?_|refine Z30 ?_|refine Z31 ?_|refine Z32 ?_
      |refine Z58 ?_|refine Z59 ?_|refine Z62 ?_|refine Z63 ?_|refine Z64 ?_|refine Z82 fun _ => ?_|refine Z84 fun _ => ?_|refine Z85 fun _ => ?_)
    refine st_cond (by rfl) (fun h => ?_) (fun h => ?_)
    · rw [hjl] at h
      repeat (first
        |refine Z01 ?_|refine Z02 ?_|refine Z03 ?_|refine Z04 ?_|refine Z05 ?_|refine Z06 ?_|refine Z07 ?_|refine Z08 ?_|refine Z09 ?_|refine Z10 ?_|refine Z11 ?_
        |refine Z12 ?_|refine Z13 ?_|refine Z14 ?_|refine Z17 ?_|refine Z18 ?_|refine Z20 ?_|refine Z21 ?_|refine Z29 ?_|refine Z30 ?_|refine Z31 ?_|refine Z32 ?_
        |refine Z58 ?_|refine Z59 ?_|refine Z62 ?_|refine Z63 ?_|refine Z64 ?_|refine Z82 fun _ => ?_|refine Z84 fun _ => ?_|refine Z85 fun _ => ?_)
      rename_i v5 v6
      rw [List.append_assoc, ← List.replicate_succ']
      exact st_round (j + 1, v6) (by simp only; omega) (by simp only; omega) (by repeat (first | apply subL.nil | refine subL.cons (by rfl) ?_)) (by repeat (first | apply SubW.nil | refine SubW.cons (by repeat (first | apply Find.here | apply Find.there)) ?_))
    · rw [hjl] at h
      have hje : j = 64 - (bkey key).length := by omega
      subst hje
      rw [← hblk_def]
      repeat (first
        |refine Z01 ?_|refine Z02 ?_|refine Z03 ?_|refine Z04 ?_|refine Z05 ?_|refine Z06 ?_|refine Z07 ?_|refine Z08 ?_|refine Z09 ?_|refine Z10 ?_|refine Z11 ?_
        |refine Z12 ?_|refine Z13 ?_|refine Z14 ?_|refine Z17 ?_|refine Z18 ?_|refine Z20 ?_|refine Z21 ?_|refine Z29 ?_|refine Z30 ?_|refine Z31 ?_|refine Z32 ?_
        |refine Z58 ?_|refine Z59 ?_|refine Z62 ?_|refine Z63 ?_|refine Z64 ?_|refine Z82 fun _ => ?_|refine Z84 fun _ => ?_|refine Z85 fun _ => ?_)
      exact Ze1 fun _ hw => post_of hw (Wout := [.sl v ((hblk key).map (N .u8)) 5]) (by exact (by repeat (first | apply SubW.nil | refine SubW.cons (by repeat (first | apply Find.here | apply Find.there)) ?_))) rfl
  · repeat (first
      |refine Z01 ?_|refine Z02 ?_|refine Z03 ?_|refine Z04 ?_|refine Z05 ?_|refine Z06 ?_|refine Z07 ?_|refine Z08 ?_|refine Z09 ?_|refine Z10 ?_|refine Z11 ?_
      |refine Z12 ?_|refine Z13 ?_|refine Z14 ?_|refine Z17 ?_|refine Z18 ?_|refine Z20 ?_|refine Z21 ?_|refine Z29 ?_|refine Z30 ?_|refine Z31 ?_|refine Z32 ?_
      |refine Z58 ?_|refine Z59 ?_|refine Z62 ?_|refine Z63 ?_|refine Z64 ?_|refine Z82 fun _ => ?_|refine Z84 fun _ => ?_|refine Z85 fun _ => ?_)
    have hkl := bkey_len key
    refine st_loop (ι := Nat × Value) (fun q => q.1 ≤ 64 - (bkey key).length) (fun q => [(3, q.2)]) (fun q => [.sl q.2 ((bkey key ++ List.replicate q.1 0).map (N .u8)) 5]) (fun q => 64 - (bkey key).length - q.1) (0, v1) (by simp) (by repeat (first | apply subL.nil | refine subL.cons (by rfl) ?_)) (by simp only [List.replicate_zero, List.append_nil]; rw [bkey_small h]; exact (by repeat (first | apply SubW.nil | refine SubW.cons (by repeat (first | apply Find.here | apply Find.there)) ?_))) ?_
    rintro ⟨j, v⟩ hj
    simp only at hj ⊢
    have hjl : (bkey key ++ List.replicate j 0).length = (bkey key).length + j := by simp
    repeat (first
      |refine Z01 ?_|refine Z02 ?_|refine Z03 ?_|refine Z04 ?_|refine Z05 ?_|refine Z06 ?_|refine Z07 ?_|refine Z08 ?_|refine Z09 ?_|refine Z10 ?_|refine Z11 ?_
      |refine Z12 ?_|refine Z13 ?_|refine Z14 ?_|refine Z17 ?_|refine Z18 ?_|refine Z20 ?_|refine Z21 ?_|refine Z29 ?_|refine Z30 ?_|refine Z31 ?_|refine Z32 ?_
      |refine Z58 ?_|refine Z59 ?_|refine Z62 ?_|refine Z63 ?_|refine Z64 ?_|refine Z82 fun _ => ?_|refine Z84 fun _ => ?_|refine Z85 fun _ => ?_)
    refine st_cond (by rfl) (fun h => ?_) (fun h => ?_)
    · rw [hjl] at h
      repeat (first
        |refine Z01 ?_|refine Z02 ?_|refine Z03 ?_|refine Z04 ?_|refine Z05 ?_|refine Z06 ?_|refine Z07 ?_|refine Z08 ?_|refine Z09 ?_|refine Z10 ?_|refine Z11 ?_
        |refine Z12 ?_|refine Z13 ?_|refine Z14 ?_|refine Z17 ?_|refine Z18 ?_|refine Z20 ?_|refine Z21 ?_|refine Z29 ?_|refine Z30 ?_|refine Z31 ?_|refine Z32 ?_
        |refine Z58 ?_|refine Z59 ?_|refine Z62 ?_|refine Z63 ?_|refine Z64 ?_|refine Z82 fun _ => ?_|refine Z84 fun _ => ?_|refine Z85 fun _ => ?_)
      rename_i v5 v6
      rw [List.append_assoc, ← List.replicate_succ']
      exact st_round (j + 1, v6) (by simp only; omega) (by simp only; omega) (by repeat (first | apply subL.nil | refine subL.cons (by rfl) ?_)) (by repeat (first | apply SubW.nil | refine SubW.cons (by repeat (first | apply Find.here | apply Find.there)) ?_))
    · rw [hjl] at h
      have hje : j = 64 - (bkey key).length := by omega
      subst hje
      rw [← hblk_def]
      repeat (first
        |refine Z01 ?_|refine Z02 ?_|refine Z03 ?_|refine Z04 ?_|refine Z05 ?_|refine Z06 ?_|refine Z07 ?_|refine Z08 ?_|refine Z09 ?_|refine Z10 ?_|refine Z11 ?_
        |refine Z12 ?_|refine Z13 ?_|refine Z14 ?_|refine Z17 ?_|refine Z18 ?_|refine Z20 ?_|refine Z21 ?_|refine Z29 ?_|refine Z30 ?_|refine Z31 ?_|refine Z32 ?_
        |refine Z58 ?_|refine Z59 ?_|refine Z62 ?_|refine Z63 ?_|refine Z64 ?_|refine Z82 fun _ => ?_|refine Z84 fun _ => ?_|refine Z85 fun _ => ?_)
      exact Ze1 fun _ hw => post_of hw (Wout := [.sl v ((hblk key).map (N .u8)) 5]) (by exact (by repeat (first | apply SubW.nil | refine SubW.cons (by repeat (first | apply Find.here | apply Find.there)) ?_))) rfl

set_option maxHeartbeats 1000000 in
theorem rmac_spec (s1 s2 : Value) (key b : List Nat) (hkey : Lt 256 key) (hb : Lt 256 b) (hl1 : key.length < 1073741824) (hl2 : b.length < 1073741824) :
    Spec Try.prog 35 [s1, s2] (fun w => Rd w s1 (key.map (N .u8)) ∧ Rd w s2 (b.map (N .u8))) [] (IsV (LV .u8 (mac key b))) := by
  refine mk_spec Try.func35 rfl rfl rfl fun w hr => ?_
  have hr1 := RdC.mk0 hr.1
  have hr2 := RdC.mk0 hr.2
  have hkl := hblk_len key
  have hkb := hblk_lt hkey
  have hx1 := xorb_len 54 (hblk key)
  have hx2 := xorb_len 92 (hblk key)
  have hs1 := sum_len (xorb 54 (hblk key) ++ b)
  have hs2 := sum_len (xorb 92 (hblk key) ++ Sha.sum (xorb 54 (hblk key) ++ b))
  have hb1 : Lt 256 (xorb 54 (hblk key) ++ b) := Lt.app (xorb_lt (by decide) hkb) hb
  have hb2 : Lt 256 (xorb 92 (hblk key) ++ Sha.sum (xorb 54 (hblk key) ++ b)) := Lt.app (xorb_lt (by decide) hkb) (sum_lt _)
  have hll : (xorb 54 (hblk key) ++ b).length < 4294967296 := by simp; omega
  have hll2 : (xorb 92 (hblk key) ++ Sha.sum (xorb 54 (hblk key) ++ b)).length < 4294967296 := by simp; omega
  have hcut : List.drop 0 (List.take 32 (Sha.sum (xorb 54 (hblk key) ++ b))) = Sha.sum (xorb 54 (hblk key) ++ b) := by rw [List.drop_zero, List.take_of_length_le (by omega)]
  repeat (first
    |(refine st_alloc (v := LV .u8 (List.replicate 32 0)) (by rfl) (by rfl) fun _ => ?_)
    |((refine st_call (by rfl) (by rfl) (by rfl) (block_spec s1 key hkey hl1) .nil (RdW.old hr1) (by rfl) ?_; rintro v _ rfl))
    |((refine st_call (by rfl) (by rfl) (by rfl) (less_spec _ (hblk key) 54 (by decide) hkb (by omega)) .nil (RdW.own (by repeat (first | apply Find.here | apply Find.there))) (by rfl) ?_; rintro u _ rfl))
    |(refine st_callV (by rfl) (by rfl) (by rfl) (rsum_spec _ (xorb 54 (hblk key) ++ b) hb1 hll) (RdW.own (by repeat (first | apply Find.here | apply Find.there))) (by rfl) ?_)
    |refine Z01 ?_|refine Z02 ?_|refine Z03 ?_|refine Z04 ?_|refine Z05 ?_|refine Z06 ?_|refine Z07 ?_|refine Z08 ?_|refine Z09 ?_|refine Z10 ?_|refine Z11 ?_
    |refine Z12 ?_|refine Z13 ?_|refine Z14 ?_|refine Z29 ?_|refine Z30 ?_|refine Z31 ?_|refine Z32 ?_|refine Z62 ?_|refine Z63 ?_|refine Z64 ?_|refine Z82 fun _ => ?_
    |refine Z84 fun _ => ?_)
  rename_i b8
  refine st_perm [0, 2, 1, 3, 4, 5] (by rfl) ?_
  repeat (first
    |refine Zpf (by rfl)
      (by intro _ _ _;(first
      |refine Z01 ?_|refine Z02 ?_|refine Z62 ?_|refine Z63 ?_|refine Z64 ?_);exact Zq) ?_
    |refine Zpp (by rfl)
      (by intro _ _ _;(first
      |refine Z62 ?_);exact Zq) ?_
    |refine Zpp (by rfl)
      (by intro _ _ _;refine st_callV (by rfl) (by rfl) (by rfl) (rsum_spec _ (xorb 92 (hblk key) ++ List.drop 0 (List.take 32 (Sha.sum (xorb 54 (hblk key) ++ b)))) (by rw [hcut]; exact hb2) (by rw [hcut]; exact hll2)) (RdW.own (by repeat (first | apply Find.here | apply Find.there))) (by rfl) ?_;exact Zq) ?_
    |refine Zps (by rfl)
      (by intro _ _ _;(first
      |refine Z29 ?_|refine Z30 ?_|refine Z31 ?_|refine Z32 ?_);exact Zqq) ?_
    |refine Zpn (by rfl)
      (by intro _ _ _;(first
      |refine Z82 fun _ => ?_|refine Z84 fun _ => ?_);exact Zpx) fun _ => ?_
    |refine Zpn (by rfl)
      (by intro _ _ _;(refine st_call (by rfl) (by rfl) (by rfl) (less_spec _ (hblk key) 92 (by decide) hkb (by omega)) .nil (RdW.own (by repeat (first | apply Find.here | apply Find.there))) (by rfl) ?_; rintro u _ rfl);exact Zpx) fun _ => ?_
    |refine Zpo (by rfl) ?_)
  refine Zp0 ?_
  rw [hcut, ← mac_def]
  have hml := mac_len key b
  repeat (first
    |refine Z01 ?_|refine Z02 ?_|refine Z03 ?_|refine Z04 ?_|refine Z05 ?_|refine Z06 ?_|refine Z07 ?_|refine Z08 ?_|refine Z09 ?_|refine Z10 ?_|refine Z11 ?_
    |refine Z12 ?_|refine Z13 ?_|refine Z14 ?_|refine Z29 ?_|refine Z30 ?_|refine Z31 ?_|refine Z32 ?_|refine Z62 ?_|refine Z63 ?_|refine Z64 ?_|refine Z82 fun _ => ?_
    |refine Z84 fun _ => ?_)
  refine Zec fun _ hw => post_of hw SubW.nil ⟨?_, rfl⟩
  rfl

set_option maxHeartbeats 1000000 in
theorem rexpand_ok (s1 s2 : Value) (key info : List Nat) (n : Nat) (hkey : Lt 256 key) (hinfo : Lt 256 info) (hl1 : key.length < 1073741824) (hl2 : info.length < 1000000000) (hn : n ≤ 8160) :
    Spec Try.prog 34 [s1, s2, N .i64 n] (fun w => Rd w s1 (key.map (N .u8)) ∧ Rd w s2 (info.map (N .u8))) [] (fun v W => ∃ x, v = .tuple [x, N .i64 0].toArray ∧ W = [.sl x ((expand key info n).map (N .u8)) 5]) := by
  refine mk_spec Try.func34 rfl rfl rfl fun w hr => ?_
  have hr1 := RdC.mk0 hr.1
  have hr2 := RdC.mk0 hr.2
  repeat (first
    |(refine st_cmp (r := false) (by rfl) (by rfl) (cmpN_f (by first | (simp only [cmpQ]; done) | (simp only [cmpQ]; omega))) (by rfl) ?_)|refine Z01 ?_|refine Z02 ?_
    |refine Z03 ?_|refine Z04 ?_|refine Z05 ?_|refine Z06 ?_|refine Z07 ?_|refine Z08 ?_|refine Z09 ?_|refine Z10 ?_|refine Z11 ?_|refine Z12 ?_|refine Z13 ?_
    |refine Z14 ?_|refine Z15 ?_|refine Z17 ?_|refine Z18 ?_|refine Z20 ?_|refine Z21 ?_|refine Z29 ?_|refine Z30 ?_|refine Z31 ?_|refine Z32 ?_|refine Z44 ?_
    |refine Z45 ?_|refine Z49 ?_|refine Z50 ?_|refine Z51 ?_|refine Z52 ?_|refine Z53 ?_|refine Z58 ?_|refine Z59 ?_|refine Z62 ?_|refine Z63 ?_|refine Z64 ?_
    |refine Z70 ?_|refine Z74 ?_|refine Z80 ?_|refine Z82 fun _ => ?_|refine Z84 fun _ => ?_|refine Z85 fun _ => ?_)
  refine st_own_nil 5 ?_
  refine st_own_nil 5 ?_
  refine st_loop (ι := Nat × Value × Value) (fun q => q.1 ≤ (n + 31) / 32) (fun q => [(0, s1), (1, s2), (2, N .i64 n), (8, q.2.1), (9, q.2.2), (10, N .i64 (q.1 + 1))])
    (fun q => [.sl q.2.1 ((ok key info q.1).map (N .u8)) 5, .sl q.2.2 ((Tk key info q.1).map (N .u8)) 5]) (fun q => (n + 31) / 32 - q.1) (0, .slice none 0 0, .slice none 0 0) (by simp) (by repeat (first | apply subL.nil | refine subL.cons (by rfl) ?_)) (by simp only [ok_0, Tk_0]; exact (by repeat (first | apply SubW.nil | refine SubW.cons (by repeat (first | apply Find.here | apply Find.there)) ?_))) ?_
  rintro ⟨i, v, u⟩ hi
  simp only at hi ⊢
  have hol := ok_len key info i
  have htl := Tk_len_le key info i
  have htb := Tk_lt key info i
  repeat (first
    |refine Z01 ?_|refine Z02 ?_|refine Z03 ?_|refine Z04 ?_|refine Z05 ?_|refine Z06 ?_|refine Z07 ?_|refine Z08 ?_|refine Z09 ?_|refine Z10 ?_|refine Z11 ?_
    |refine Z12 ?_|refine Z13 ?_|refine Z14 ?_|refine Z15 ?_|refine Z17 ?_|refine Z18 ?_|refine Z20 ?_|refine Z21 ?_|refine Z29 ?_|refine Z30 ?_|refine Z31 ?_
    |refine Z32 ?_|refine Z44 ?_|refine Z45 ?_|refine Z49 ?_|refine Z50 ?_|refine Z51 ?_|refine Z52 ?_|refine Z53 ?_|refine Z58 ?_|refine Z59 ?_|refine Z62 ?_
    |refine Z63 ?_|refine Z64 ?_|refine Z70 ?_|refine Z74 ?_|refine Z80 ?_|refine Z82 fun _ => ?_|refine Z84 fun _ => ?_|refine Z85 fun _ => ?_)
  refine st_cond (by rfl) (fun h => ?_) (fun h => ?_)
  · rw [hol] at h
    have hb1 : Lt 256 (Tk key info i ++ info ++ [(i + 1) % 256]) := Lt.app (Lt.app htb hinfo) (Lt.one (Nat.mod_lt _ (by decide)))
    have hll : (Tk key info i ++ info ++ [(i + 1) % 256]).length < 1073741824 := by simp; omega
    have hml := mac_len key (Tk key info i ++ info ++ [(i + 1) % 256])
    have hts := Tk_len key info (i + 1) (by omega)
    have hos := ok_succ key info i
    have htt := Tk_succ key info i
    have hcut : List.drop 0 (List.take 32 (mac key (Tk key info i ++ info ++ [(i + 1) % 256]))) = Tk key info (i + 1) := by rw [List.drop_zero, List.take_of_length_le (by omega), ← htt]
    repeat (first
      |(rw [List.nil_append])|(rw [hcut])|(rw [← hos])
      |(refine st_callV (by rfl) (by rfl) (by rfl) (rmac_spec s1 _ key (Tk key info i ++ info ++ [(i + 1) % 256]) hkey hb1 hl1 hll) (fun w hw => ⟨RdW.old hr1 w hw, RdW.own (by repeat (first | apply Find.here | apply Find.there)) w hw⟩) (by rfl) ?_)
      |(refine st_alloc (v := LV .u8 (List.replicate 32 0)) (by rfl) (by rfl) fun _ => ?_)|refine Z01 ?_|refine Z02 ?_|refine Z03 ?_|refine Z04 ?_|refine Z05 ?_
      |refine Z06 ?_|refine Z07 ?_|refine Z08 ?_|refine Z09 ?_|refine Z10 ?_|refine Z11 ?_|refine Z12 ?_|refine Z13 ?_|refine Z14 ?_|refine Z15 ?_|refine Z17 ?_
      |refine Z18 ?_|refine Z20 ?_|refine Z21 ?_|refine Z29 ?_|refine Z30 ?_|refine Z31 ?_|refine Z32 ?_|refine Z44 ?_|refine Z45 ?_|refine Z49 ?_|refine Z50 ?_
      |refine Z51 ?_|refine Z52 ?_|refine Z53 ?_|refine Z58 ?_|refine Z59 ?_|refine Z62 ?_|refine Z63 ?_|refine Z64 ?_|refine Z70 ?_|refine Z74 ?_|refine Z80 ?_
      |refine Z82 fun _ => ?_|refine Z84 fun _ => ?_|refine Z85 fun _ => ?_)
    rename_i u' v'
    exact st_round (i + 1, v', u') (by simp only; omega) (by simp only; omega) (by repeat (first | apply subL.nil | refine subL.cons (by rfl) ?_)) (by repeat (first | apply SubW.nil | refine SubW.cons (by repeat (first | apply Find.here | apply Find.there)) ?_))
  · rw [hol] at h
    have hie : i = (n + 31) / 32 := by omega
    subst hie
    repeat (first
      |refine Z01 ?_|refine Z02 ?_|refine Z03 ?_|refine Z04 ?_|refine Z05 ?_|refine Z06 ?_|refine Z07 ?_|refine Z08 ?_|refine Z09 ?_|refine Z10 ?_|refine Z11 ?_
      |refine Z12 ?_|refine Z13 ?_|refine Z14 ?_|refine Z15 ?_|refine Z17 ?_|refine Z18 ?_|refine Z20 ?_|refine Z21 ?_|refine Z29 ?_|refine Z30 ?_|refine Z31 ?_
      |refine Z32 ?_|refine Z44 ?_|refine Z45 ?_|refine Z49 ?_|refine Z50 ?_|refine Z51 ?_|refine Z52 ?_|refine Z53 ?_|refine Z58 ?_|refine Z59 ?_|refine Z62 ?_
      |refine Z63 ?_|refine Z64 ?_|refine Z70 ?_|refine Z74 ?_|refine Z80 ?_|refine Z82 fun _ => ?_|refine Z84 fun _ => ?_|refine Z85 fun _ => ?_)
    refine st_resl (s := v) 0 n (by repeat (first | apply Find.here | apply Find.there)) (by omega) (by rw [List.length_map, hol]; omega) ?_
    rw [List.drop_zero, ← List.map_take, ← expand_def]
    exact Ze2 fun _ hw => post_of hw (Wout := [.sl (sub v 0 n) ((expand key info n).map (N .u8)) 5]) (by exact (by repeat (first | apply SubW.nil | refine SubW.cons (by repeat (first | apply Find.here | apply Find.there)) ?_))) ⟨_, rfl, rfl⟩

theorem rexpand_bad (s1 s2 : Value) (n : Int) (hn : n < 0 ∨ 8160 < n) : Spec Try.prog 34 [s1, s2, .int .i64 n] NoPre [] (IsV (.tuple [.slice none 0 0, N .i64 20].toArray)) := by
  refine mk_spec Try.func34 rfl rfl rfl fun w hr => ?_
  by_cases h0 : n < 0
  · repeat (first
      |(rw [decide_eq_true (p := n < Int.ofNat 0) h0])|refine Z01 ?_|refine Z02 ?_|refine Z03 ?_|refine Z04 ?_|refine Z05 ?_|refine Z06 ?_|refine Z07 ?_|refine Z08 ?_
      |refine Z09 ?_|refine Z10 ?_|refine Z11 ?_|refine Z12 ?_|refine Z13 ?_|refine Z14 ?_|refine Z15 ?_|refine Z17 ?_|refine Z18 ?_|refine Z20 ?_|refine Z21 ?_
      |refine Z29 ?_|refine Z30 ?_|refine Z31 ?_|refine Z32 ?_|refine Z44 ?_|refine Z45 ?_|refine Z49 ?_|refine Z50 ?_|refine Z51 ?_|refine Z52 ?_|refine Z53 ?_
      |refine Z58 ?_|refine Z59 ?_|refine Z62 ?_|refine Z63 ?_|refine Z64 ?_|refine Z70 ?_|refine Z74 ?_|refine Z80 ?_|refine Z82 fun _ => ?_|refine Z84 fun _ => ?_
      |refine Z85 fun _ => ?_)
    exact Ze2 fun _ hw => post_of hw SubW.nil ⟨rfl, rfl⟩
  · have h1 : 8160 < n := by omega
    repeat (first
      |(rw [decide_eq_false (p := n < Int.ofNat 0) h0])|(rw [decide_eq_true (p := Int.ofNat 8160 < n) h1])|refine Z01 ?_|refine Z02 ?_|refine Z03 ?_|refine Z04 ?_
      |refine Z05 ?_|refine Z06 ?_|refine Z07 ?_|refine Z08 ?_|refine Z09 ?_|refine Z10 ?_|refine Z11 ?_|refine Z12 ?_|refine Z13 ?_|refine Z14 ?_|refine Z15 ?_
      |refine Z17 ?_|refine Z18 ?_|refine Z20 ?_|refine Z21 ?_|refine Z29 ?_|refine Z30 ?_|refine Z31 ?_|refine Z32 ?_|refine Z44 ?_|refine Z45 ?_|refine Z49 ?_
      |refine Z50 ?_|refine Z51 ?_|refine Z52 ?_|refine Z53 ?_|refine Z58 ?_|refine Z59 ?_|refine Z62 ?_|refine Z63 ?_|refine Z64 ?_|refine Z70 ?_|refine Z74 ?_
      |refine Z80 ?_|refine Z82 fun _ => ?_|refine Z84 fun _ => ?_|refine Z85 fun _ => ?_)
    exact Ze2 fun _ hw => post_of hw SubW.nil ⟨rfl, rfl⟩
end Go.Proofs.Ytefhbmhanajfoaa.L
