/- The walk of the law of bytes and words. Condition: as the statement says. -/
import Derived.Test.YtbjfjkmidhfgcaaAuto
import Derived.Test.YtbjfjkmidhfgcaaPerm
import Derived.Test.YtbjfjkmidhfgcaaMore
import Derived.Test.YtbjfjkmidhfgcaaProg
import Derived.Test.YtbjfjkmidhfgcaaNum
import Derived.Test.YtbjfjkmidhfgcaaLmb
import Derived.Test.YtbjfjkmidhfgcaaLmd
import Derived.Test.YtbjfjkmidhfgcaaLmo
import Derived.Test.YtbjfjkmidhfgcaaScope
import Derived.Test.YtbjfjkmidhfgcaaJoin
import Derived.Test.YtbjfjkmidhfgcaaLma
import Derived.Test.YtbjfjkmidhfgcaaLmz
import Derived.Test.YtbjfjkmidhfgcaaLmc
import Derived.Test.YtbjfjkmidhfgcaaLme
import Derived.Test.YtbjfjkmidhfgcaaLmf
import Derived.Test.YtbjfjkmidhfgcaaLmh
import Derived.Test.YtbjfjkmidhfgcaaLmj
import Derived.Test.YtbjfjkmidhfgcaaShaT
import Derived.Test.YtbjfjkmidhfgcaaLmp
import Derived.Test.YtbjfjkmidhfgcaaLmq
import Derived.Test.YtbjfjkmidhfgcaaLmv
import Derived.Test.YtbjfjkmidhfgcaaLna
namespace Go.Proofs.Ytbjfjkmidhfgcaa.L
open Go Go.Proofs
set_option maxRecDepth 100000
attribute [local irreducible] Code.wp wpList Af bodyPost L.Go
open Num
attribute [local simp] D_len octs_len

section
variable {P : Program} {c : Cx} {n : Nat} {l : Sl} {W : List Res} {ops : Array Oper} {Q : Exit → Act → World → Prop} {rest : List Oper}
variable {d : Nat} {T : TypeId} {pos : String} {after : Array Edge}
theorem st_max0 {x y : Operand} {k k' : IntKind} {a0 : Int} {ts : List TypeId} (h0 : a0 < 0) (hx : ev l x = some (.int k a0)) (hy : ev l y = some (N k' 0))
    (hn : Nat.blt d n = true) (hk : Go c n ((d, N k 0) :: l) W (wpList P ops Q rest)) :
    Go c n l W (wpList P ops Q (⟨some d, .call { callee := .builtin .max, args := #[x, y], argTypes := ts.toArray }, T, pos, after, none⟩ :: rest)) :=
  st_val rfl rfl hn (fun a w ha _ => by
    have h := run_max_int2 (P := P) w ts.toArray T k k' a0 ((0 : Nat) : Int)
    have e : (if ((0 : Nat) : Int) > a0 then ((0 : Nat) : Int) else a0) = 0 := by split <;> omega
    rw [e] at h
    simp [execOp, ha.ev hx, ha.ev hy, resolve, invoke, builtin]; rw [show N k' 0 = Value.int k' ((0 : Nat) : Int) from rfl, h]; rfl) hk
end

theorem octetsNeg_spec (s : Value) (xs : List Nat) (n : Int) (hn : n < 0) :
    Spec Try.prog 21 [s, .int .i64 n] (fun w => Rd w s (xs.map (N .u64))) [] (fun v Wr => Wr = [.sl v (([] : List Nat).map (N .u8)) 5]) := by
  refine mk_spec Try.func21 rfl rfl rfl fun w hr => ?_
  repeat (first
    |(refine st_max0 hn (by rfl) (by rfl) (by rfl) ?_)|refine Z01 ?_|refine Z02 ?_|refine Z03 ?_|refine Z04 ?_|refine Z05 ?_|refine Z06 ?_|refine Z07 ?_|refine Z08 ?_
    |refine Z09 ?_|refine Z10 ?_|refine Z11 ?_|refine Z12 ?_|refine Z13 ?_|refine Z14 ?_|refine Z15 ?_|refine Z16 ?_|refine Z17 ?_|refine Z18 ?_|refine Z20 ?_
    |refine Z21 ?_|refine Z22 ?_|refine Z23 ?_|refine Z29 ?_|refine Z30 ?_|refine Z31 ?_|refine Z32 ?_|refine Z36 ?_|refine Z37 ?_|refine Z38 ?_|refine Z42 ?_
    |refine Z44 ?_|refine Z45 ?_|refine Z58 ?_|refine Z59 ?_|refine Z60 ?_|refine Z70 ?_|refine Z71 ?_|refine Z74 ?_|refine Z80 ?_|refine Z83 fun _ => ?_)
  rename_i u
  refine st_loop (ι := Nat) (fun i => i = 0) (fun _ => [(5, u), (12, N .i64 0), (13, N .i64 0)]) (fun i => [.sl u (([] : List Nat).map (N .u8)) 5]) (fun i => i) 0 rfl (by repeat (first | apply subL.nil | refine subL.cons (by rfl) ?_)) (by repeat (first | apply SubW.nil | refine SubW.cons (by repeat (first | apply Find.here | apply Find.there)) ?_)) ?_
  intro i hi
  repeat (first
    |(refine st_cmp (r := false) (by rfl) (by rfl) (cmpN_f (by first | (simp only [cmpQ]; done) | (simp only [cmpQ]; omega))) (by rfl) ?_)|refine Z01 ?_|refine Z02 ?_
    |refine Z03 ?_|refine Z04 ?_|refine Z05 ?_|refine Z06 ?_|refine Z07 ?_|refine Z08 ?_|refine Z09 ?_|refine Z10 ?_|refine Z11 ?_|refine Z12 ?_|refine Z13 ?_
    |refine Z14 ?_|refine Z15 ?_|refine Z16 ?_|refine Z17 ?_|refine Z18 ?_|refine Z20 ?_|refine Z21 ?_|refine Z22 ?_|refine Z23 ?_|refine Z29 ?_|refine Z30 ?_
    |refine Z31 ?_|refine Z32 ?_|refine Z36 ?_|refine Z37 ?_|refine Z38 ?_|refine Z42 ?_|refine Z44 ?_|refine Z45 ?_|refine Z58 ?_|refine Z59 ?_|refine Z60 ?_
    |refine Z70 ?_|refine Z71 ?_|refine Z74 ?_|refine Z80 ?_|refine Z83 fun _ => ?_)
  exact Ze1 fun _ hw => post_of hw (Wout := [.sl u (([] : List Nat).map (N .u8)) 5]) (by exact (by repeat (first | apply SubW.nil | refine SubW.cons (by repeat (first | apply Find.here | apply Find.there)) ?_))) rfl

theorem octets3Neg_spec (s : Value) (xs : List Nat) (n : Int) (hn : n < 0) :
    Spec Try.prog 22 [s, .int .i64 n] (fun w => Rd w s (xs.map (N .u64))) [] (fun v Wr => Wr = [.sl v (([] : List Nat).map (N .u8)) 5]) := by
  refine mk_spec Try.func22 rfl rfl rfl fun w hr => ?_
  repeat (first
    |refine Z01 ?_|refine Z02 ?_|refine Z03 ?_|refine Z04 ?_|refine Z05 ?_|refine Z06 ?_|refine Z07 ?_|refine Z08 ?_|refine Z09 ?_|refine Z10 ?_|refine Z11 ?_
    |refine Z12 ?_|refine Z13 ?_|refine Z14 ?_|refine Z15 ?_|refine Z16 ?_|refine Z17 ?_|refine Z18 ?_|refine Z36 ?_|refine Z37 ?_|refine Z38 ?_|refine Z42 ?_
    |refine Z44 ?_|refine Z45 ?_|refine Z70 ?_|refine Z71 ?_|refine Z74 ?_|refine Z80 ?_|refine Z84 fun _ => ?_|refine Z85 fun _ => ?_)
  refine st_own_nil 5 ?_
  refine st_loop (ι := Nat) (fun i => i = 0) (fun _ => [(1, .int .i64 n), (5, .slice none 0 0), (6, N .i64 0)]) (fun i => [.sl (.slice none 0 0) (([] : List Nat).map (N .u8)) 5]) (fun i => i) 0 rfl (by repeat (first | apply subL.nil | refine subL.cons (by rfl) ?_)) (by repeat (first | apply SubW.nil | refine SubW.cons (by repeat (first | apply Find.here | apply Find.there)) ?_)) ?_
  intro i hi
  have hz : cmpZ .lss (Int.ofNat 0) n = some false := by simp [cmpZ]; omega
  repeat (first
    |(refine st_cmpz (by rfl) (by rfl) hz (by rfl) ?_)|refine Z01 ?_|refine Z02 ?_|refine Z03 ?_|refine Z04 ?_|refine Z05 ?_|refine Z06 ?_|refine Z07 ?_|refine Z08 ?_
    |refine Z09 ?_|refine Z10 ?_|refine Z11 ?_|refine Z12 ?_|refine Z13 ?_|refine Z14 ?_|refine Z15 ?_|refine Z16 ?_|refine Z17 ?_|refine Z18 ?_|refine Z36 ?_
    |refine Z37 ?_|refine Z38 ?_|refine Z42 ?_|refine Z44 ?_|refine Z45 ?_|refine Z70 ?_|refine Z71 ?_|refine Z74 ?_|refine Z80 ?_|refine Z84 fun _ => ?_
    |refine Z85 fun _ => ?_)
  exact Ze1 fun _ hw => post_of hw (Wout := [.sl (.slice none 0 0) (([] : List Nat).map (N .u8)) 5]) (by exact (by repeat (first | apply SubW.nil | refine SubW.cons (by repeat (first | apply Find.here | apply Find.there)) ?_))) rfl

set_option maxHeartbeats 4000000 in
theorem lawOctets3_spec (s1 : Value) (xs : List Nat) (hx : Lt 18446744073709551616 xs) (x63 : xs.length < 9223372036854775808) (n : Int) (hn : -9223372036854775808 ≤ n ∧ n < 9223372036854775808) (s2 : Value) (bs : List Nat) (hb : Lt 256 bs) (b63 : bs.length < 9223372036854775808) :
    Spec Try.prog 3 [s1, .int .i64 n, s2] (fun w => Rd w s1 (xs.map (N .u64)) ∧ Rd w s2 (bs.map (N .u8))) [] (IsV (.bool true)) := by
  refine mk_spec Try.func3 rfl rfl rfl fun w hr => ?_
  have hr1 := RdC.mk0 hr.1
  have hr2 := RdC.mk0 hr.2
  by_cases h1 : 14 < xs.length
  · repeat (first
      |(refine st_callV (by rfl) (by rfl) (by rfl) (awake3_spec) (fun _ _ => trivial) (by rfl) ?_)
      |(refine st_cmp (r := true) (by rfl) (by rfl) (cmpN_t (by first | (simp only [cmpP]; done) | (simp only [cmpP]; omega))) (by rfl) ?_)|refine Z01 ?_|refine Z02 ?_
      |refine Z03 ?_|refine Z04 ?_|refine Z05 ?_|refine Z06 ?_|refine Z07 ?_|refine Z08 ?_|refine Z09 ?_|refine Z10 ?_|refine Z11 ?_|refine Z12 ?_|refine Z13 ?_
      |refine Z14 ?_|refine Z17 ?_|refine Z18 ?_|refine Z20 ?_|refine Z21 ?_|refine Z49 ?_|refine Z50 ?_|refine Z51 ?_|refine Z52 ?_|refine Z53 ?_|refine Z58 ?_
      |refine Z59 ?_)
    refine Ze1 fun _ hw => post_of hw SubW.nil ⟨?_, rfl⟩
    rfl
  by_cases h2 : 300 < n
  · have hz : cmpZ .gtr n (Int.ofNat 300) = some true := by simp [cmpZ]; omega
    repeat (first
      |(refine st_callV (by rfl) (by rfl) (by rfl) (awake3_spec) (fun _ _ => trivial) (by rfl) ?_)
      |(refine st_cmp (r := false) (by rfl) (by rfl) (cmpN_f (by first | (simp only [cmpQ]; done) | (simp only [cmpQ]; omega))) (by rfl) ?_)
      |(refine st_cmpz (by rfl) (by rfl) hz (by rfl) ?_)|refine Z01 ?_|refine Z02 ?_|refine Z03 ?_|refine Z04 ?_|refine Z05 ?_|refine Z06 ?_|refine Z07 ?_|refine Z08 ?_
      |refine Z09 ?_|refine Z10 ?_|refine Z11 ?_|refine Z12 ?_|refine Z13 ?_|refine Z14 ?_|refine Z17 ?_|refine Z18 ?_|refine Z20 ?_|refine Z21 ?_|refine Z49 ?_
      |refine Z50 ?_|refine Z51 ?_|refine Z52 ?_|refine Z53 ?_|refine Z58 ?_|refine Z59 ?_)
    refine Ze1 fun _ hw => post_of hw SubW.nil ⟨?_, rfl⟩
    rfl
  have hz : cmpZ .gtr n (Int.ofNat 300) = some false := by simp [cmpZ]; omega
  by_cases h3 : 300 < bs.length
  · repeat (first
      |(refine st_callV (by rfl) (by rfl) (by rfl) (awake3_spec) (fun _ _ => trivial) (by rfl) ?_)
      |(refine st_cmp (r := false) (by rfl) (by rfl) (cmpN_f (by first | (simp only [cmpQ]; done) | (simp only [cmpQ]; omega))) (by rfl) ?_)
      |(refine st_cmp (r := true) (by rfl) (by rfl) (cmpN_t (by first | (simp only [cmpP]; done) | (simp only [cmpP]; omega))) (by rfl) ?_)
      |(refine st_cmpz (by rfl) (by rfl) hz (by rfl) ?_)|refine Z01 ?_|refine Z02 ?_|refine Z03 ?_|refine Z04 ?_|refine Z05 ?_|refine Z06 ?_|refine Z07 ?_|refine Z08 ?_
      |refine Z09 ?_|refine Z10 ?_|refine Z11 ?_|refine Z12 ?_|refine Z13 ?_|refine Z14 ?_|refine Z17 ?_|refine Z18 ?_|refine Z20 ?_|refine Z21 ?_|refine Z49 ?_
      |refine Z50 ?_|refine Z51 ?_|refine Z52 ?_|refine Z53 ?_|refine Z58 ?_|refine Z59 ?_)
    refine Ze1 fun _ hw => post_of hw SubW.nil ⟨?_, rfl⟩
    rfl
  have hwl : (D ((bs.length + 7) / 8) (bval bs)).length < 4294967296 := by rw [D_len]; omega
  by_cases h4 : n < 0
  · repeat (first
      |(refine st_callV (by rfl) (by rfl) (by rfl) (awake3_spec) (fun _ _ => trivial) (by rfl) ?_)
      |(refine st_cmp (r := false) (by rfl) (by rfl) (cmpN_f (by first | (simp only [cmpQ]; done) | (simp only [cmpQ]; omega))) (by rfl) ?_)
      |(refine st_cmpz (by rfl) (by rfl) hz (by rfl) ?_)
      |((refine st_call (by rfl) (by rfl) (by rfl) (octetsNeg_spec s1 xs n h4) .nil (RdW.old hr1) (by rfl) ?_; rintro u1 _ rfl))
      |((refine st_call (by rfl) (by rfl) (by rfl) (octets3Neg_spec s1 xs n h4) .nil (RdW.old hr1) (by rfl) ?_; rintro u2 _ rfl))
      |((refine st_call (by rfl) (by rfl) (by rfl) (words_spec s2 bs hb (by omega)) .nil (RdW.old hr2) (by rfl) ?_; rintro u3 _ rfl))
      |((refine st_call (by rfl) (by rfl) (by rfl) (words3_spec s2 bs hb (by omega)) .nil (RdW.old hr2) (by rfl) ?_; rintro u4 _ rfl))
      |(refine st_callV (by rfl) (by rfl) (by rfl) (same_spec _ _ [] [] (by decide)) (fun w hw => ⟨RdW.own (by repeat (first | apply Find.here | apply Find.there)) w hw, RdW.own (by repeat (first | apply Find.here | apply Find.there)) w hw⟩) (by rfl) ?_)
      |(refine st_callV (by rfl) (by rfl) (by rfl) (same3_spec _ _ (D ((bs.length + 7) / 8) (bval bs)) (D ((bs.length + 7) / 8) (bval bs)) hwl) (fun w hw => ⟨RdW.own (by repeat (first | apply Find.here | apply Find.there)) w hw, RdW.own (by repeat (first | apply Find.here | apply Find.there)) w hw⟩) (by rfl) ?_)
      |(rw [decide_eq_true (p := ([] : List Nat) = []) rfl])|(rw [decide_eq_true (p := D ((bs.length + 7) / 8) (bval bs) = D ((bs.length + 7) / 8) (bval bs)) rfl])
      |refine Z01 ?_|refine Z02 ?_|refine Z03 ?_|refine Z04 ?_|refine Z05 ?_|refine Z06 ?_|refine Z07 ?_|refine Z08 ?_|refine Z09 ?_|refine Z10 ?_|refine Z11 ?_
      |refine Z12 ?_|refine Z13 ?_|refine Z14 ?_|refine Z17 ?_|refine Z18 ?_|refine Z20 ?_|refine Z21 ?_|refine Z49 ?_|refine Z50 ?_|refine Z51 ?_|refine Z52 ?_
      |refine Z53 ?_|refine Z58 ?_|refine Z59 ?_)
    refine Ze1 fun _ hw => post_of hw SubW.nil ⟨?_, rfl⟩
    rfl
  · obtain ⟨m, rfl⟩ : ∃ m, n = Int.ofNat m := ⟨n.toNat, by simp; omega⟩
    have hm : ¬ 300 < m := by simp only [Int.ofNat_eq_natCast] at h2; omega
    clear hz h2 h4 hn
    have hol : (octs (V xs) m).length < 4294967296 := by rw [octs_len]; omega
    repeat (first
      |(refine st_callV (by rfl) (by rfl) (by rfl) (awake3_spec) (fun _ _ => trivial) (by rfl) ?_)
      |(refine st_cmp (r := false) (by rfl) (by rfl) (cmpN_f (by first | (simp only [cmpQ]; done) | (simp only [cmpQ]; omega))) (by rfl) ?_)
      |((refine st_call (by rfl) (by rfl) (by rfl) (octets_spec s1 xs m hx (by omega) (by omega)) .nil (RdW.old hr1) (by rfl) ?_; rintro u1 _ rfl))
      |((refine st_call (by rfl) (by rfl) (by rfl) (octets3_spec s1 xs m hx (by omega) (by omega)) .nil (RdW.old hr1) (by rfl) ?_; rintro u2 _ rfl))
      |((refine st_call (by rfl) (by rfl) (by rfl) (words_spec s2 bs hb (by omega)) .nil (RdW.old hr2) (by rfl) ?_; rintro u3 _ rfl))
      |((refine st_call (by rfl) (by rfl) (by rfl) (words3_spec s2 bs hb (by omega)) .nil (RdW.old hr2) (by rfl) ?_; rintro u4 _ rfl))
      |(refine st_callV (by rfl) (by rfl) (by rfl) (same_spec _ _ (octs (V xs) m) (octs (V xs) m) hol) (fun w hw => ⟨RdW.own (by repeat (first | apply Find.here | apply Find.there)) w hw, RdW.own (by repeat (first | apply Find.here | apply Find.there)) w hw⟩) (by rfl) ?_)
      |(refine st_callV (by rfl) (by rfl) (by rfl) (same3_spec _ _ (D ((bs.length + 7) / 8) (bval bs)) (D ((bs.length + 7) / 8) (bval bs)) hwl) (fun w hw => ⟨RdW.own (by repeat (first | apply Find.here | apply Find.there)) w hw, RdW.own (by repeat (first | apply Find.here | apply Find.there)) w hw⟩) (by rfl) ?_)
      |(rw [decide_eq_true (p := octs (V xs) m = octs (V xs) m) rfl])
      |(rw [decide_eq_true (p := D ((bs.length + 7) / 8) (bval bs) = D ((bs.length + 7) / 8) (bval bs)) rfl])|refine Z01 ?_|refine Z02 ?_|refine Z03 ?_|refine Z04 ?_
      |refine Z05 ?_|refine Z06 ?_|refine Z07 ?_|refine Z08 ?_|refine Z09 ?_|refine Z10 ?_|refine Z11 ?_|refine Z12 ?_|refine Z13 ?_|refine Z14 ?_|refine Z17 ?_
      |refine Z18 ?_|refine Z20 ?_|refine Z21 ?_|refine Z49 ?_|refine Z50 ?_|refine Z51 ?_|refine Z52 ?_|refine Z53 ?_|refine Z58 ?_|refine Z59 ?_)
    refine Ze1 fun _ hw => post_of hw SubW.nil ⟨?_, rfl⟩
    rfl
end Go.Proofs.Ytbjfjkmidhfgcaa.L
