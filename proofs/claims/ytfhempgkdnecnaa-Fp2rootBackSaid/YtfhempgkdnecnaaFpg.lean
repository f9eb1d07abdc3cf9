/- The numbers modulo p: the document's answer's walks (sums, products, powers). Conditions: as each statement says. -/
import Derived.Test.YtfhempgkdnecnaaAuto
import Derived.Test.YtfhempgkdnecnaaPerm
import Derived.Test.YtfhempgkdnecnaaMore
import Derived.Test.YtfhempgkdnecnaaProg
import Derived.Test.YtfhempgkdnecnaaNum
import Derived.Test.YtfhempgkdnecnaaLmb
import Derived.Test.YtfhempgkdnecnaaLmd
import Derived.Test.YtfhempgkdnecnaaLmk
import Derived.Test.YtfhempgkdnecnaaScope
import Derived.Test.YtfhempgkdnecnaaJoin
import Derived.Test.YtfhempgkdnecnaaLma
import Derived.Test.YtfhempgkdnecnaaLmf
import Derived.Test.YtfhempgkdnecnaaGho
import Derived.Test.YtfhempgkdnecnaaBld
import Derived.Test.YtfhempgkdnecnaaArr
import Derived.Test.YtfhempgkdnecnaaClr
import Derived.Test.YtfhempgkdnecnaaPq
import Derived.Test.YtfhempgkdnecnaaKf
import Derived.Test.YtfhempgkdnecnaaFpa
import Derived.Test.YtfhempgkdnecnaaFpb
import Derived.Test.YtfhempgkdnecnaaFpc
import Derived.Test.YtfhempgkdnecnaaFpd
import Derived.Test.YtfhempgkdnecnaaFpe
import Derived.Test.YtfhempgkdnecnaaFpf
namespace Go.Proofs.Ytfhempgkdnecnaa.L
open Go Go.Proofs
set_option maxRecDepth 100000
attribute [local irreducible] Code.wp wpList Af bodyPost L.Go
open Num
attribute [local simp] D_len

set_option maxHeartbeats 2000000 in
theorem qadd_spec {a b : Nat} (ha : a < W ^ 6) (hb : b < W ^ 6) : Spec Try.prog 110 [LV .u64 (D 6 a), LV .u64 (D 6 b)] NoPre [] (IsV (LV .u64 (D 6 ((a + b) % p)))) := by
  refine mk_spec Try.func110 rfl rfl rfl fun w _ => ?_
  have hl0 := fun x => D_len 6 x
  have hm : (a % p + b % p) % p = (a + b) % p := (Nat.add_mod _ _ _).symm
  have hA := Nat.mod_lt a p_pos
  have hB := Nat.mod_lt b p_pos
  have hp2 := p2_lt
  repeat (first
    |(refine st_alloc (v := LV .u64 (List.replicate 6 0)) (by rfl) (by rfl) fun _ => ?_)
    |(refine st_callV (by rfl) (by rfl) (by rfl) (qreduce_spec ha) (fun _ _ => trivial) (by rfl) ?_)
    |(refine st_callV (by rfl) (by rfl) (by rfl) (qreduce_spec hb) (fun _ _ => trivial) (by rfl) ?_)|refine Z01 ?_|refine Z02 ?_|refine Z03 ?_|refine Z04 ?_|refine Z05 ?_
    |refine Z06 ?_|refine Z07 ?_|refine Z08 ?_|refine Z09 ?_|refine Z10 ?_|refine Z11 ?_|refine Z12 ?_|refine Z13 ?_|refine Z14 ?_|refine Z15 ?_|refine Z17 ?_
    |refine Z18 ?_|refine Z19 ?_|refine Z22 ?_|refine Z23 ?_|refine Z24 ?_|refine Z25 ?_|refine Z26 ?_|refine Z27 ?_|refine Z28 ?_|refine Z29 ?_|refine Z30 ?_
    |refine Z31 ?_|refine Z32 ?_|refine Z67 ?_|refine Z70 ?_|refine Z81 fun _ => ?_|refine Z82 fun _ => ?_)
  generalize a % p = A at *
  generalize b % p = B at *
  rename_i b2 b3 b4 b5 b6
  refine st_loop (ι := Nat) (fun i => i ≤ 6) (fun i => [(4, pt b4 0), (5, pt b5 0), (6, pt b6 0), (7, N .u64 (crun addg (D 6 A) (D 6 B) i).2), (8, N .i64 i)])
    (fun i => [.blk b5 (LV .u64 ((crun addg (D 6 A) (D 6 B) i).1 ++ (D 6 A).drop i)) 24, .blk b6 (LV .u64 (D 6 B)) 24, .blk b4 (LV .u64 (List.replicate 6 0)) 24]) (fun i => 6 - i) 0 (by omega) (by rw [crun_0]; exact (by repeat (first | apply subL.nil | refine subL.cons (by rfl) ?_))) (by rw [crun_0]; exact (by repeat (first | apply SubW.nil | refine SubW.cons (by repeat (first | apply Find.here | apply Find.there)) ?_))) ?_
  intro i hi
  have hc1 := crun_addD_le 6 A B i
  have hl := crun_len addg (D 6 A) (D 6 B) i
  have hla := hl0 A
  have hol : ((crun addg (D 6 A) (D 6 B) i).1 ++ (D 6 A).drop i).length = 6 := by simp; omega
  have hdg := drop_get (xs := D 6 A) hl
  by_cases h : i < 6
  · repeat (first
      |(refine st_cmp (r := true) (by rfl) (by rfl) (cmpN_t (by first | (simp only [cmpP]; done) | (simp only [cmpP]; omega))) (by rfl) ?_)|refine Z01 ?_|refine Z02 ?_
      |refine Z03 ?_|refine Z04 ?_|refine Z05 ?_|refine Z06 ?_|refine Z07 ?_|refine Z08 ?_|refine Z09 ?_|refine Z10 ?_|refine Z11 ?_|refine Z12 ?_|refine Z13 ?_
      |refine Z14 ?_|refine Z15 ?_|refine Z17 ?_|refine Z18 ?_|refine Z19 ?_|refine Z22 ?_|refine Z23 ?_|refine Z24 ?_|refine Z25 ?_|refine Z26 ?_|refine Z27 ?_
      |refine Z28 ?_|refine Z29 ?_|refine Z30 ?_|refine Z31 ?_|refine Z32 ?_|refine Z67 ?_|refine Z70 ?_|refine Z81 fun _ => ?_|refine Z82 fun _ => ?_)
    refine st_draw1 (by rfl) ?_
    repeat (first
      |refine Zqf (by intro _ _ _;(first
        |(refine st_callX (by rfl) (by rfl) (by rfl) (add64X _ _ _ hc1) (by rfl) ?_)|refine Z01 ?_|refine Z02 ?_|refine Z15 ?_|refine Z17 ?_|refine Z18 ?_|refine Z19 ?_
        |refine Z22 ?_|refine Z23 ?_|refine Z70 ?_);exact Zq) ?_
      |refine Zqp (by intro _ _ _;(first
        |refine Z24 ?_|refine Z25 ?_|refine Z26 ?_|refine Z27 ?_|refine Z28 ?_|refine Z67 ?_|refine Z23 ?_);exact Zq) ?_
      |refine Zqe (by intro _ _ _;(first
        |refine Z29 ?_|refine Z30 ?_|refine Z31 ?_|refine Z32 ?_);exact Zqq) ?_
      |refine Zqn ?_)
    refine Zq0 ?_ (by kernel_rfl)
    rw [hdg, ← addg_fst, ← addg_snd, ← crun_snd]
    repeat (first
      |(rw [crun_drop addg (D 6 A) (D 6 B) i (by omega)])|refine Z01 ?_|refine Z02 ?_|refine Z03 ?_|refine Z04 ?_|refine Z05 ?_|refine Z06 ?_|refine Z07 ?_|refine Z08 ?_
      |refine Z09 ?_|refine Z10 ?_|refine Z11 ?_|refine Z12 ?_|refine Z13 ?_|refine Z14 ?_|refine Z15 ?_|refine Z17 ?_|refine Z18 ?_|refine Z19 ?_|refine Z22 ?_
      |refine Z23 ?_|refine Z24 ?_|refine Z25 ?_|refine Z26 ?_|refine Z27 ?_|refine Z28 ?_|refine Z29 ?_|refine Z30 ?_|refine Z31 ?_|refine Z32 ?_|refine Z67 ?_
      |refine Z70 ?_|refine Z81 fun _ => ?_|refine Z82 fun _ => ?_)
    exact st_round (i + 1) (by omega) (by omega) (by repeat (first | apply subL.nil | refine subL.cons (by rfl) ?_)) (by repeat (first | apply SubW.nil | refine SubW.cons (by repeat (first | apply Find.here | apply Find.there)) ?_))
  · have hie : i = 6 := by omega
    subst hie
    have hdr : (D 6 A).drop 6 = [] := List.drop_eq_nil_of_le (by omega)
    rw [crun_addD (by omega) (by omega), hdr, List.append_nil] at *
    simp only at *
    repeat (first
      |(refine st_cmp (r := false) (by rfl) (by rfl) (cmpN_f (by first | (simp only [cmpQ]; done) | (simp only [cmpQ]; omega))) (by rfl) ?_)
      |((refine st_callV (by rfl) (by rfl) (by rfl) (qreduce_spec (a := A + B) (by omega)) (fun _ _ => trivial) (by rfl) ?_; rw [hm]))|refine Z01 ?_|refine Z02 ?_
      |refine Z03 ?_|refine Z04 ?_|refine Z05 ?_|refine Z06 ?_|refine Z07 ?_|refine Z08 ?_|refine Z09 ?_|refine Z10 ?_|refine Z11 ?_|refine Z12 ?_|refine Z13 ?_
      |refine Z14 ?_|refine Z15 ?_|refine Z17 ?_|refine Z18 ?_|refine Z19 ?_|refine Z22 ?_|refine Z23 ?_|refine Z24 ?_|refine Z25 ?_|refine Z26 ?_|refine Z27 ?_
      |refine Z28 ?_|refine Z29 ?_|refine Z30 ?_|refine Z31 ?_|refine Z32 ?_|refine Z67 ?_|refine Z70 ?_|refine Z81 fun _ => ?_|refine Z82 fun _ => ?_)
    refine Zec fun _ hw => post_of hw SubW.nil ⟨?_, rfl⟩
    rfl
theorem qneg_spec {a : Nat} (ha : a < W ^ 6) : Spec Try.prog 111 [LV .u64 (D 6 a)] NoPre [] (IsV (LV .u64 (D 6 ((p - a % p) % p)))) := by
  refine mk_spec Try.func111 rfl rfl rfl fun w _ => ?_
  have hl0 := fun x => D_len 6 x
  have hA := Nat.mod_lt a p_pos
  have hpl := p_lt
  repeat (first
    |(refine st_alloc (v := LV .u64 (List.replicate 6 0)) (by rfl) (by rfl) fun _ => ?_)|refine Z03 ?_|refine Z04 ?_|refine Z05 ?_|refine Z06 ?_|refine Z07 ?_
    |refine Z08 ?_|refine Z09 ?_|refine Z10 ?_|refine Z11 ?_|refine Z12 ?_|refine Z13 ?_|refine Z14 ?_|refine Z24 ?_|refine Z25 ?_|refine Z26 ?_|refine Z27 ?_
    |refine Z28 ?_|refine Z29 ?_|refine Z30 ?_|refine Z31 ?_|refine Z32 ?_|refine Z67 ?_|refine Z81 fun _ => ?_|refine Z82 fun _ => ?_)
  refine st_draw1 (by rfl) ?_
  repeat (first
    |refine Zqf (by intro _ _ _;(first
      |contradiction);exact Zq) ?_
    |refine Zqp (by intro _ _ _;refine st_callV (by rfl) (by rfl) (by rfl) (qP_spec) (fun _ _ => trivial) (by rfl) ?_;exact Zq) ?_
    |refine Zqp (by intro _ _ _;refine st_callV (by rfl) (by rfl) (by rfl) (qreduce_spec ha) (fun _ _ => trivial) (by rfl) ?_;exact Zq) ?_
    |refine Zqp (by intro _ _ _;refine st_callV (by rfl) (by rfl) (by rfl) (qminus_spec (a := p) (b := a % p) hpl (Nat.le_of_lt hA)) (fun _ _ => trivial) (by rfl) ?_;exact Zq) ?_
    |refine Zqp (by intro _ _ _;refine st_callV (by rfl) (by rfl) (by rfl) (qreduce_spec (a := p - a % p) (by omega)) (fun _ _ => trivial) (by rfl) ?_;exact Zq) ?_
    |refine Zqp (by intro _ _ _;(first
      |refine Z24 ?_|refine Z25 ?_|refine Z26 ?_|refine Z27 ?_|refine Z28 ?_|refine Z67 ?_);exact Zq) ?_
    |refine Zqe (by intro _ _ _;(first
      |refine Z29 ?_|refine Z30 ?_|refine Z31 ?_|refine Z32 ?_);exact Zqq) ?_
    |refine Zqn ?_)
  refine Zq0 ?_ (by kernel_rfl)
  repeat (first
    |refine Z03 ?_|refine Z04 ?_|refine Z05 ?_|refine Z06 ?_|refine Z07 ?_|refine Z08 ?_|refine Z09 ?_|refine Z10 ?_|refine Z11 ?_|refine Z12 ?_|refine Z13 ?_
    |refine Z14 ?_|refine Z24 ?_|refine Z25 ?_|refine Z26 ?_|refine Z27 ?_|refine Z28 ?_|refine Z29 ?_|refine Z30 ?_|refine Z31 ?_|refine Z32 ?_|refine Z67 ?_
    |refine Z81 fun _ => ?_|refine Z82 fun _ => ?_)
  refine Zec fun _ hw => post_of hw SubW.nil ⟨?_, rfl⟩
  rfl
theorem qsub_spec {a b : Nat} (ha : a < W ^ 6) (hb : b < W ^ 6) : Spec Try.prog 108 [LV .u64 (D 6 a), LV .u64 (D 6 b)] NoPre [] (IsV (LV .u64 (D 6 ((a + (p - b % p) % p) % p)))) := by
  refine mk_spec Try.func108 rfl rfl rfl fun w _ => ?_
  have hl0 := fun x => D_len 6 x
  repeat (first
    |(refine st_alloc (v := LV .u64 (List.replicate 6 0)) (by rfl) (by rfl) fun _ => ?_)|refine Z03 ?_|refine Z04 ?_|refine Z05 ?_|refine Z06 ?_|refine Z07 ?_
    |refine Z08 ?_|refine Z09 ?_|refine Z10 ?_|refine Z11 ?_|refine Z12 ?_|refine Z13 ?_|refine Z14 ?_|refine Z24 ?_|refine Z25 ?_|refine Z26 ?_|refine Z27 ?_
    |refine Z28 ?_|refine Z29 ?_|refine Z30 ?_|refine Z31 ?_|refine Z32 ?_|refine Z67 ?_|refine Z81 fun _ => ?_|refine Z82 fun _ => ?_)
  refine st_draw1 (by rfl) ?_
  repeat (first
    |refine Zqf (by intro _ _ _;(first
      |contradiction);exact Zq) ?_
    |refine Zqp (by intro _ _ _;refine st_callV (by rfl) (by rfl) (by rfl) (qneg_spec hb) (fun _ _ => trivial) (by rfl) ?_;exact Zq) ?_
    |refine Zqp (by intro _ _ _;refine st_callV (by rfl) (by rfl) (by rfl) (qadd_spec ha (mod_p (p - b % p))) (fun _ _ => trivial) (by rfl) ?_;exact Zq) ?_
    |refine Zqp (by intro _ _ _;(first
      |refine Z24 ?_|refine Z25 ?_|refine Z26 ?_|refine Z27 ?_|refine Z28 ?_|refine Z67 ?_);exact Zq) ?_
    |refine Zqe (by intro _ _ _;(first
      |refine Z29 ?_|refine Z30 ?_|refine Z31 ?_|refine Z32 ?_);exact Zqq) ?_
    |refine Zqn ?_)
  refine Zq0 ?_ (by kernel_rfl)
  repeat (first
    |refine Z03 ?_|refine Z04 ?_|refine Z05 ?_|refine Z06 ?_|refine Z07 ?_|refine Z08 ?_|refine Z09 ?_|refine Z10 ?_|refine Z11 ?_|refine Z12 ?_|refine Z13 ?_
    |refine Z14 ?_|refine Z24 ?_|refine Z25 ?_|refine Z26 ?_|refine Z27 ?_|refine Z28 ?_|refine Z29 ?_|refine Z30 ?_|refine Z31 ?_|refine Z32 ?_|refine Z67 ?_
    |refine Z81 fun _ => ?_|refine Z82 fun _ => ?_)
  refine Zec fun _ hw => post_of hw SubW.nil ⟨?_, rfl⟩
  rfl
theorem six12 (T : Nat) : [(D 12 T).getD 6 0, (D 12 T).getD 7 0, (D 12 T).getD 8 0, (D 12 T).getD 9 0, (D 12 T).getD 10 0, (D 12 T).getD 11 0] = D 6 (T / W ^ 6) := by
  rw [← six (D_len 6 (T / W ^ 6))]
  simp only [D_getD _ _ _ (show 6 < 12 by decide), D_getD _ _ _ (show 7 < 12 by decide), D_getD _ _ _ (show 8 < 12 by decide), D_getD _ _ _ (show 9 < 12 by decide), D_getD _ _ _ (show 10 < 12 by decide), D_getD _ _ _ (show 11 < 12 by decide),
    D_getD _ _ _ (show 0 < 6 by decide), D_getD _ _ _ (show 1 < 6 by decide), D_getD _ _ _ (show 2 < 6 by decide), D_getD _ _ _ (show 3 < 6 by decide), D_getD _ _ _ (show 4 < 6 by decide), D_getD _ _ _ (show 5 < 6 by decide), Nat.div_div_eq_div_mul, ← Nat.pow_add]

set_option maxHeartbeats 8000000 in
theorem qmul_spec {a b : Nat} (ha : a < W ^ 6) (hb : b < W ^ 6) : Spec Try.prog 109 [LV .u64 (D 6 a), LV .u64 (D 6 b)] NoPre [] (IsV (LV .u64 (D 6 (a * b % p)))) := by
  refine mk_spec Try.func109 rfl rfl rfl fun w _ => ?_
  have hl0 := fun x => D_len 6 x
  have hAp := Nat.mod_lt a p_pos
  have hBp := Nat.mod_lt b p_pos
  have hmm : (a % p) * (b % p) % p = a * b % p := (Nat.mul_mod _ _ _).symm
  have hpl := p_lt
  repeat (first
    |(refine st_alloc (v := LV .u64 (List.replicate 6 0)) (by rfl) (by rfl) fun _ => ?_)
    |(refine st_alloc (v := LV .u64 (List.replicate 12 0)) (by rfl) (by rfl) fun _ => ?_)
    |(refine st_callV (by rfl) (by rfl) (by rfl) (qreduce_spec ha) (fun _ _ => trivial) (by rfl) ?_)
    |(refine st_callV (by rfl) (by rfl) (by rfl) (qreduce_spec hb) (fun _ _ => trivial) (by rfl) ?_)|refine Z01 ?_|refine Z02 ?_|refine Z03 ?_|refine Z04 ?_|refine Z05 ?_
    |refine Z06 ?_|refine Z07 ?_|refine Z08 ?_|refine Z09 ?_|refine Z10 ?_|refine Z11 ?_|refine Z12 ?_|refine Z13 ?_|refine Z14 ?_|refine Z15 ?_|refine Z16 ?_
    |refine Z17 ?_|refine Z18 ?_|refine Z19 ?_|refine Z22 ?_|refine Z23 ?_|refine Z24 ?_|refine Z25 ?_|refine Z26 ?_|refine Z27 ?_|refine Z28 ?_|refine Z29 ?_
    |refine Z30 ?_|refine Z31 ?_|refine Z32 ?_|refine Z33 ?_|refine Z65 ?_|refine Z67 ?_|refine Z70 ?_|refine Z71 ?_|refine Z81 fun _ => ?_|refine Z82 fun _ => ?_)
  rename_i b2 b3 b4 b5 b6 b7
  rw [← hmm]
  generalize a % p = x at *
  generalize b % p = y at *
  clear ha hb hmm
  have hx : x < W ^ 6 := by omega
  have hy : y < W ^ 6 := by omega
  have hlx := hl0 x
  have hly := hl0 y
  refine st_loop (ι := Nat) (fun i => i ≤ 6) (fun i => [(4, pt b4 0), (5, pt b5 0), (6, pt b6 0), (7, pt b7 0), (8, N .i64 i)])
    (fun i => [.blk b7 (LV .u64 (D (i + 6) (x % W ^ i * y) ++ List.replicate (6 - i) 0)) 106, .blk b6 (LV .u64 (D 6 y)) 24, .blk b5 (LV .u64 (D 6 x)) 24, .blk b4 (LV .u64 (List.replicate 6 0)) 24]) (fun i => 6 - i) 0 (by omega) (by repeat (first | apply subL.nil | refine subL.cons (by rfl) ?_)) ?_ ?_
  · rw [Nat.pow_zero, Nat.mod_one, Nat.zero_mul, D_zero, List.replicate_append_replicate]
    exact (by repeat (first | apply SubW.nil | refine SubW.cons (by repeat (first | apply Find.here | apply Find.there)) ?_))
  intro i hi
  have hDl := D_len (i + 6) (x % W ^ i * y)
  have hDb := D_lt (i + 6) (x % W ^ i * y)
  have hAB : x % W ^ i * y < W ^ (i + 6) := by
    rw [Nat.pow_add]; exact Nat.mul_lt_mul_of_lt_of_le (Nat.mod_lt _ (W_pow_pos i)) (Nat.le_of_lt hy) (W_pow_pos _)
  have hVP := V_D' hAB
  by_cases h : i < 6
  · have hxi := (D_lt 6 x).getD (by decide) i
    have hxv := D_getD' hx i
    repeat (first
      |(refine st_cmp (r := true) (by rfl) (by rfl) (cmpN_t (by first | (simp only [cmpP]; done) | (simp only [cmpP]; omega))) (by rfl) ?_)|refine Z01 ?_|refine Z02 ?_
      |refine Z03 ?_|refine Z04 ?_|refine Z05 ?_|refine Z06 ?_|refine Z07 ?_|refine Z08 ?_|refine Z09 ?_|refine Z10 ?_|refine Z11 ?_|refine Z12 ?_|refine Z13 ?_
      |refine Z14 ?_|refine Z15 ?_|refine Z16 ?_|refine Z17 ?_|refine Z18 ?_|refine Z19 ?_|refine Z22 ?_|refine Z23 ?_|refine Z24 ?_|refine Z25 ?_|refine Z26 ?_
      |refine Z27 ?_|refine Z28 ?_|refine Z29 ?_|refine Z30 ?_|refine Z31 ?_|refine Z32 ?_|refine Z33 ?_|refine Z65 ?_|refine Z67 ?_|refine Z70 ?_|refine Z71 ?_
      |refine Z81 fun _ => ?_|refine Z82 fun _ => ?_)
    refine st_loop (ι := Nat × List Nat × Nat) (fun q => q.1 ≤ 6 ∧ q.2.1.length = i + 6 ∧ Lt 18446744073709551616 q.2.1 ∧ q.2.2 < 18446744073709551616 ∧ V q.2.1 + W ^ i * W ^ q.1 * q.2.2 = x % W ^ i * y + (D 6 x).getD i 0 * W ^ i * (y % W ^ q.1))
      (fun q => [(4, pt b4 0), (5, pt b5 0), (6, pt b6 0), (7, pt b7 0), (8, N .i64 i), (9, N .u64 q.2.2), (10, N .i64 q.1)])
      (fun q => [.blk b7 (LV .u64 (q.2.1 ++ List.replicate (6 - i) 0)) 106, .blk b6 (LV .u64 (D 6 y)) 24, .blk b5 (LV .u64 (D 6 x)) 24, .blk b4 (LV .u64 (List.replicate 6 0)) 24]) (fun q => 6 - q.1) (0, D (i + 6) (x % W ^ i * y), 0) ⟨by omega, hDl, hDb, by simp only; decide, by simp only [Nat.pow_zero, Nat.mod_one, Nat.mul_zero, Nat.add_zero]; exact hVP⟩ (by repeat (first | apply subL.nil | refine subL.cons (by rfl) ?_)) (by repeat (first | apply SubW.nil | refine SubW.cons (by repeat (first | apply Find.here | apply Find.there)) ?_)) ?_
    rintro ⟨k, P, c⟩ ⟨hk, hPl, hPb, hc, hP⟩
    simp only at hk hPl hPb hc hP ⊢
    have hlen : (P ++ List.replicate (6 - i) 0).length = 12 := by simp; omega
    by_cases hk' : k < 6
    · have hyk := (D_lt 6 y).getD (by decide) k
      have hyv := D_getD' hy k
      have hpb := hPb.getD (by decide) (i + k)
      have hgl := getD_low (P := P) (Q := List.replicate (6 - i) 0) (i := i + k) (by omega)
      have hsl := fun c => set_low (P := P) (i := i + k) (m := 6 - i) (by omega) c
      obtain ⟨hw1, hw2⟩ := mul_word hpb hc (mul_bound hxi hyk)
      repeat (first
        |(refine st_cmp (r := true) (by rfl) (by rfl) (cmpN_t (by first | (simp only [cmpP]; done) | (simp only [cmpP]; omega))) (by rfl) ?_)|refine Z01 ?_|refine Z02 ?_
        |refine Z03 ?_|refine Z04 ?_|refine Z05 ?_|refine Z06 ?_|refine Z07 ?_|refine Z08 ?_|refine Z09 ?_|refine Z10 ?_|refine Z11 ?_|refine Z12 ?_|refine Z13 ?_
        |refine Z14 ?_|refine Z15 ?_|refine Z16 ?_|refine Z17 ?_|refine Z18 ?_|refine Z19 ?_|refine Z22 ?_|refine Z23 ?_|refine Z24 ?_|refine Z25 ?_|refine Z26 ?_
        |refine Z27 ?_|refine Z28 ?_|refine Z29 ?_|refine Z30 ?_|refine Z31 ?_|refine Z32 ?_|refine Z33 ?_|refine Z65 ?_|refine Z67 ?_|refine Z70 ?_|refine Z71 ?_
        |refine Z81 fun _ => ?_|refine Z82 fun _ => ?_)
      refine st_draw1 (by rfl) ?_
      repeat (first
        |refine Zqf (by intro _ _ _;(first
          |refine Z01 ?_|refine Z02 ?_|refine Z15 ?_|refine Z16 ?_|refine Z17 ?_|refine Z18 ?_|refine Z19 ?_|refine Z22 ?_|refine Z23 ?_|refine Z33 ?_|refine Z65 ?_
          |refine Z70 ?_|refine Z71 ?_);exact Zq) ?_
        |refine Zqp (by intro _ _ _;refine st_callV (by rfl) (by rfl) (by rfl) (mul64_spec ((D 6 x).getD i 0) ((D 6 y).getD k 0) hxi hyk) (fun _ _ => trivial) (by rfl) ?_;exact Zq) ?_
        |refine Zqp (by intro _ _ _;(first
          |refine Z24 ?_|refine Z25 ?_|refine Z26 ?_|refine Z27 ?_|refine Z28 ?_|refine Z67 ?_|refine Z23 ?_);exact Zq) ?_
        |refine Zqe (by intro _ _ _;(first
          |refine Z29 ?_|refine Z30 ?_|refine Z31 ?_|refine Z32 ?_);exact Zqq) ?_
        |refine Zqn ?_)
      refine Zq0 ?_ (by kernel_rfl)
      have hlen2 : ∀ z, (P.set (i + k) z ++ List.replicate (6 - i) 0).length = 12 := fun z => by simp; omega
      repeat (first
        |(refine st_callX (by rfl) (by rfl) (by rfl) (add64X0 _ _) (by rfl) ?_)|(rw [hgl])|(rw [hsl])|refine Z01 ?_|refine Z02 ?_|refine Z03 ?_|refine Z04 ?_
        |refine Z05 ?_|refine Z06 ?_|refine Z07 ?_|refine Z08 ?_|refine Z09 ?_|refine Z10 ?_|refine Z11 ?_|refine Z12 ?_|refine Z13 ?_|refine Z14 ?_|refine Z15 ?_
        |refine Z16 ?_|refine Z17 ?_|refine Z18 ?_|refine Z19 ?_|refine Z22 ?_|refine Z23 ?_|refine Z24 ?_|refine Z25 ?_|refine Z26 ?_|refine Z27 ?_|refine Z28 ?_
        |refine Z29 ?_|refine Z30 ?_|refine Z31 ?_|refine Z32 ?_|refine Z33 ?_|refine Z65 ?_|refine Z67 ?_|refine Z70 ?_|refine Z71 ?_|refine Z81 fun _ => ?_
        |refine Z82 fun _ => ?_)
      refine st_round (k + 1, P.set (i + k) _, _) ⟨by simp only; omega, by simp only [List.length_set]; exact hPl, hPb.set (Nat.mod_lt _ (by decide)) _, hw2, ?_⟩ (by simp only; omega) (by repeat (first | apply subL.nil | refine subL.cons (by rfl) ?_)) (by repeat (first | apply SubW.nil | refine SubW.cons (by repeat (first | apply Find.here | apply Find.there)) ?_))
      simp only
      have hvs := V_set hPb (i + k) ((P.getD (i + k) 0 + ((D 6 x).getD i 0 * (D 6 y).getD k 0 % 18446744073709551616 + c) % 18446744073709551616) % 18446744073709551616) (by omega)
      rw [Nat.pow_add] at hvs
      rw [W_mod_succ, ← hyv, Nat.pow_succ]
      exact mul_inner hvs hw1 hP
    · have hke : k = 6 := by omega
      subst hke
      have hsm := set_mid (P := P) (m := 6 - i) hPl (by omega) c
      have e : P ++ [c] = D (i + 1 + 6) (x % W ^ (i + 1) * y) := by
        refine D_of_V (hPb.append (Num.Lt.cons hc (Num.Lt.nil _))) (by simp; omega) ?_
        rw [V_snoc hPl, Nat.pow_add, hP, Nat.mod_eq_of_lt hy, hxv, mul_outer]
      repeat (first
        |(refine st_cmp (r := false) (by rfl) (by rfl) (cmpN_f (by first | (simp only [cmpQ]; done) | (simp only [cmpQ]; omega))) (by rfl) ?_)|(rw [hsm])|refine Z01 ?_
        |refine Z02 ?_|refine Z03 ?_|refine Z04 ?_|refine Z05 ?_|refine Z06 ?_|refine Z07 ?_|refine Z08 ?_|refine Z09 ?_|refine Z10 ?_|refine Z11 ?_|refine Z12 ?_
        |refine Z13 ?_|refine Z14 ?_|refine Z15 ?_|refine Z16 ?_|refine Z17 ?_|refine Z18 ?_|refine Z19 ?_|refine Z22 ?_|refine Z23 ?_|refine Z24 ?_|refine Z25 ?_
        |refine Z26 ?_|refine Z27 ?_|refine Z28 ?_|refine Z29 ?_|refine Z30 ?_|refine Z31 ?_|refine Z32 ?_|refine Z33 ?_|refine Z65 ?_|refine Z67 ?_|refine Z70 ?_
        |refine Z71 ?_|refine Z81 fun _ => ?_|refine Z82 fun _ => ?_)
      refine st_round (i + 1) (by omega) (by omega) (by repeat (first | apply subL.nil | refine subL.cons (by rfl) ?_)) ?_
      rw [← e, show 6 - (i + 1) = 6 - i - 1 by omega]
      exact (by repeat (first | apply SubW.nil | refine SubW.cons (by repeat (first | apply Find.here | apply Find.there)) ?_))
  · have hie : i = 6 := by omega
    subst hie
    rw [Nat.mod_eq_of_lt hx, Nat.sub_self, List.replicate_zero, List.append_nil]
    rw [Nat.mod_eq_of_lt hx] at hDl
    have hTp : x * y / W ^ 6 < p := by
      refine Nat.div_lt_of_lt_mul ?_
      exact Nat.mul_lt_mul_of_lt_of_le hx (Nat.le_of_lt hBp) p_pos
    have h12 := six12 (x * y)
    have hTW : x * y < W ^ 12 := by rw [show 12 = 6 + 6 from rfl, Nat.pow_add]; exact Nat.mul_lt_mul_of_lt_of_le hx (Nat.le_of_lt hy) (W_pow_pos 6)
    generalize x * y = T at *
    have h6p : [(D 12 T).getD 6 0, (D 12 T).getD 7 0, (D 12 T).getD 8 0, (D 12 T).getD 9 0, (D 12 T).getD 10 0, (D 12 T).getD 11 0] ++ List.replicate (6 - [(D 12 T).getD 6 0, (D 12 T).getD 7 0, (D 12 T).getD 8 0, (D 12 T).getD 9 0, (D 12 T).getD 10 0, (D 12 T).getD 11 0].length) 0 = D 6 (T / W ^ 6 % p) := by
      rw [Nat.mod_eq_of_lt hTp]
      exact (List.append_nil _).trans h12
    repeat (first
      |(refine st_cmp (r := false) (by rfl) (by rfl) (cmpN_f (by first | (simp only [cmpQ]; done) | (simp only [cmpQ]; omega))) (by rfl) ?_)
      |(refine st_alloc (v := LV .u64 (List.replicate 6 0)) (by rfl) (by rfl) fun _ => ?_)
      |((refine st_buildP (kk := .u64) (vs := [(D 12 T).getD 6 0, (D 12 T).getD 7 0, (D 12 T).getD 8 0, (D 12 T).getD 9 0, (D 12 T).getD 10 0, (D 12 T).getD 11 0]) (by rfl) (by rfl) (by rfl) (by rfl) (by rfl) (by rfl) (by rfl) (by rfl) ?_; rw [h6p]))
      |refine Z01 ?_|refine Z02 ?_|refine Z03 ?_|refine Z04 ?_|refine Z05 ?_|refine Z06 ?_|refine Z07 ?_|refine Z08 ?_|refine Z09 ?_|refine Z10 ?_|refine Z11 ?_
      |refine Z12 ?_|refine Z13 ?_|refine Z14 ?_|refine Z15 ?_|refine Z16 ?_|refine Z17 ?_|refine Z18 ?_|refine Z19 ?_|refine Z22 ?_|refine Z23 ?_|refine Z24 ?_
      |refine Z25 ?_|refine Z26 ?_|refine Z27 ?_|refine Z28 ?_|refine Z29 ?_|refine Z30 ?_|refine Z31 ?_|refine Z32 ?_|refine Z33 ?_|refine Z65 ?_|refine Z67 ?_
      |refine Z70 ?_|refine Z71 ?_|refine Z81 fun _ => ?_|refine Z82 fun _ => ?_)
    rename_i b17
    refine st_loop (ι := Nat) (fun j => j ≤ 6) (fun j => [(4, pt b4 0), (7, pt b7 0), (17, pt b17 0), (18, .int .i64 ((j : Int) - 1))])
      (fun j => [.blk b17 (LV .u64 (D 6 (T / W ^ j % p))) 24, .blk b7 (LV .u64 (D 12 T)) 106, .blk b4 (LV .u64 (List.replicate 6 0)) 24]) (fun j => j) 6 (Nat.le_refl _) (by repeat (first | apply subL.nil | refine subL.cons (by rfl) ?_)) (by repeat (first | apply SubW.nil | refine SubW.cons (by repeat (first | apply Find.here | apply Find.there)) ?_)) ?_
    intro j hj
    have hlj := hl0 (T / W ^ j % p)
    repeat (first
      |refine Z01 ?_|refine Z02 ?_|refine Z03 ?_|refine Z04 ?_|refine Z05 ?_|refine Z06 ?_|refine Z07 ?_|refine Z08 ?_|refine Z09 ?_|refine Z10 ?_|refine Z11 ?_
      |refine Z12 ?_|refine Z13 ?_|refine Z14 ?_|refine Z15 ?_|refine Z16 ?_|refine Z17 ?_|refine Z18 ?_|refine Z19 ?_|refine Z22 ?_|refine Z23 ?_|refine Z24 ?_
      |refine Z25 ?_|refine Z26 ?_|refine Z27 ?_|refine Z28 ?_|refine Z29 ?_|refine Z30 ?_|refine Z31 ?_|refine Z32 ?_|refine Z33 ?_|refine Z65 ?_|refine Z67 ?_
      |refine Z70 ?_|refine Z71 ?_|refine Z81 fun _ => ?_|refine Z82 fun _ => ?_)
    refine st_cond (by rfl) (fun h => ?_) (fun h => ?_)
    · have h0 : (0 : Int) ≤ (j : Int) - 1 := h
      obtain ⟨i, rfl⟩ : ∃ i, j = i + 1 := ⟨j - 1, by omega⟩
      rw [show ((i + 1 : Nat) : Int) - 1 = Int.ofNat i by simp]
      have hdb := (D_lt 12 T).getD (by decide) i
      have hgd := D_getD' hTW i
      have hnx : (T / W ^ (i + 1) % p * W + (D 12 T).getD i 0) % p = T / W ^ i % p := by
        rw [hgd, Nat.add_mod, Nat.mod_mul_mod, ← Nat.add_mod, ← div_next]
      repeat (first
        |refine Z01 ?_|refine Z02 ?_|refine Z03 ?_|refine Z04 ?_|refine Z05 ?_|refine Z06 ?_|refine Z07 ?_|refine Z08 ?_|refine Z09 ?_|refine Z10 ?_|refine Z11 ?_
        |refine Z12 ?_|refine Z13 ?_|refine Z14 ?_|refine Z15 ?_|refine Z16 ?_|refine Z17 ?_|refine Z18 ?_|refine Z19 ?_|refine Z22 ?_|refine Z23 ?_|refine Z24 ?_
        |refine Z25 ?_|refine Z26 ?_|refine Z27 ?_|refine Z28 ?_|refine Z29 ?_|refine Z30 ?_|refine Z31 ?_|refine Z32 ?_|refine Z33 ?_|refine Z65 ?_|refine Z67 ?_
        |refine Z70 ?_|refine Z71 ?_|refine Z81 fun _ => ?_|refine Z82 fun _ => ?_)
      refine st_draw1 (by rfl) ?_
      repeat (first
        |refine Zqf (by intro _ _ _;(first
          |refine Z01 ?_|refine Z02 ?_|refine Z15 ?_|refine Z16 ?_|refine Z17 ?_|refine Z18 ?_|refine Z19 ?_|refine Z22 ?_|refine Z23 ?_|refine Z33 ?_|refine Z65 ?_
          |refine Z70 ?_|refine Z71 ?_);exact Zq) ?_
        |refine Zqp (by intro _ _ _;(refine st_callV (by rfl) (by rfl) (by rfl) (qnext_spec (a := T / W ^ (i + 1) % p) (x := (D 12 T).getD i 0) (Nat.mod_lt _ p_pos) hdb) (fun _ _ => trivial) (by rfl) ?_; rw [hnx]);exact Zq) ?_
        |refine Zqp (by intro _ _ _;(first
          |refine Z24 ?_|refine Z25 ?_|refine Z26 ?_|refine Z27 ?_|refine Z28 ?_|refine Z67 ?_|refine Z23 ?_);exact Zq) ?_
        |refine Zqe (by intro _ _ _;(first
          |refine Z29 ?_|refine Z30 ?_|refine Z31 ?_|refine Z32 ?_);exact Zqq) ?_
        |refine Zqn ?_)
      refine Zq0 ?_ (by kernel_rfl)
      repeat (first
        |refine Z01 ?_|refine Z02 ?_|refine Z03 ?_|refine Z04 ?_|refine Z05 ?_|refine Z06 ?_|refine Z07 ?_|refine Z08 ?_|refine Z09 ?_|refine Z10 ?_|refine Z11 ?_
        |refine Z12 ?_|refine Z13 ?_|refine Z14 ?_|refine Z15 ?_|refine Z16 ?_|refine Z17 ?_|refine Z18 ?_|refine Z19 ?_|refine Z22 ?_|refine Z23 ?_|refine Z24 ?_
        |refine Z25 ?_|refine Z26 ?_|refine Z27 ?_|refine Z28 ?_|refine Z29 ?_|refine Z30 ?_|refine Z31 ?_|refine Z32 ?_|refine Z33 ?_|refine Z65 ?_|refine Z67 ?_
        |refine Z70 ?_|refine Z71 ?_|refine Z81 fun _ => ?_|refine Z82 fun _ => ?_)
      refine st_round i (by omega) (by omega) ?_ (by repeat (first | apply SubW.nil | refine SubW.cons (by repeat (first | apply Find.here | apply Find.there)) ?_))
      rw [show ((i : Int) - 1) = Int.ofNat i - Int.ofNat 1 from rfl]
      exact (by repeat (first | apply subL.nil | refine subL.cons (by rfl) ?_))
    · have hp0 : ¬ (0 : Int) ≤ (j : Int) - 1 := h
      have hj0 : j = 0 := by omega
      subst hj0
      rw [Nat.pow_zero, Nat.div_one] at *
      repeat (first
        |refine Z01 ?_|refine Z02 ?_|refine Z03 ?_|refine Z04 ?_|refine Z05 ?_|refine Z06 ?_|refine Z07 ?_|refine Z08 ?_|refine Z09 ?_|refine Z10 ?_|refine Z11 ?_
        |refine Z12 ?_|refine Z13 ?_|refine Z14 ?_|refine Z15 ?_|refine Z16 ?_|refine Z17 ?_|refine Z18 ?_|refine Z19 ?_|refine Z22 ?_|refine Z23 ?_|refine Z24 ?_
        |refine Z25 ?_|refine Z26 ?_|refine Z27 ?_|refine Z28 ?_|refine Z29 ?_|refine Z30 ?_|refine Z31 ?_|refine Z32 ?_|refine Z33 ?_|refine Z65 ?_|refine Z67 ?_
        |refine Z70 ?_|refine Z71 ?_|refine Z81 fun _ => ?_|refine Z82 fun _ => ?_)
      refine Zec fun _ hw => post_of hw SubW.nil ⟨?_, rfl⟩
      rfl
end Go.Proofs.Ytfhempgkdnecnaa.L
