/- The numbers modulo p: products, opposites, differences and powers, the program's walks. Conditions: as each statement says. -/
import Derived.Test.YtfhempgkdnecnaaAuto
import Derived.Test.YtfhempgkdnecnaaPerm
import Derived.Test.YtfhempgkdnecnaaMore
import Derived.Test.YtfhempgkdnecnaaProg
import Derived.Test.YtfhempgkdnecnaaNum
import Derived.Test.YtfhempgkdnecnaaLmb
import Derived.Test.YtfhempgkdnecnaaLmd
import Derived.Test.YtfhempgkdnecnaaLmk
import Derived.Test.YtfhempgkdnecnaaScope
import Derived.Test.YtfhempgkdnecnaaJoin
import Derived.Test.YtfhempgkdnecnaaLma
import Derived.Test.YtfhempgkdnecnaaGho
import Derived.Test.YtfhempgkdnecnaaBld
import Derived.Test.YtfhempgkdnecnaaArr
import Derived.Test.YtfhempgkdnecnaaClr
import Derived.Test.YtfhempgkdnecnaaPq
import Derived.Test.YtfhempgkdnecnaaFpa
import Derived.Test.YtfhempgkdnecnaaFpb
namespace Go.Proofs.Ytfhempgkdnecnaa.L
open Go Go.Proofs
set_option maxRecDepth 100000
attribute [local irreducible] Code.wp wpList Af bodyPost L.Go
open Num
attribute [local simp] D_len

theorem Ri_2 : Ri * (W ^ 12 % p) * Ri % p = 1 := by decide +kernel
theorem Ri_3 : (W ^ 12 % p) * Ri % p = W ^ 6 % p := by decide +kernel
theorem redv_mod (a b : Nat) : redv (a % p) (b % p) = redv a b := by
  unfold redv
  rw [Nat.mul_mod (a % p * (b % p)), ← Nat.mul_mod a b, ← Nat.mul_mod]
theorem redv_l (a b : Nat) : redv (a % p) b = redv a b := by
  unfold redv
  rw [Nat.mul_assoc, Nat.mod_mul_mod, ← Nat.mul_assoc]
theorem redv_two (a b : Nat) : redv (redv a b) (W ^ 12 % p) = a * b % p := by
  show redv (a * b * Ri % p) (W ^ 12 % p) = _
  rw [redv_l]
  unfold redv
  have e : a * b * Ri * (W ^ 12 % p) * Ri = a * b * (Ri * (W ^ 12 % p) * Ri) := by
    generalize W ^ 12 % p = s
    simp only [Nat.mul_assoc]
  rw [e, Nat.mul_mod, Ri_2, Nat.mul_one, Nat.mod_mod]
theorem redv_pt (a b : Nat) : redv a b < W ^ 6 := Nat.lt_trans (redv_lt a b) p_lt
theorem sq_lt : W ^ 12 % p < p := Nat.mod_lt _ p_pos

theorem pmul_spec {a b : Nat} (ha : a < W ^ 6) (hb : b < W ^ 6) : Spec Try.prog 25 [LV .u64 (D 6 a), LV .u64 (D 6 b)] NoPre [] (IsV (LV .u64 (D 6 (a * b % p)))) := by
  refine mk_spec Try.func25 rfl rfl rfl fun w _ => ?_
  have hl0 := fun x => D_len 6 x
  have e1 := redv_mod a b
  have e2 := redv_two a b
  repeat (first
    |(refine st_alloc (v := LV .u64 (List.replicate 6 0)) (by rfl) (by rfl) fun _ => ?_)|refine Z03 ?_|refine Z04 ?_|refine Z05 ?_|refine Z06 ?_|refine Z07 ?_
    |refine Z08 ?_|refine Z09 ?_|refine Z10 ?_|refine Z11 ?_|refine Z12 ?_|refine Z13 ?_|refine Z14 ?_|refine Z24 ?_|refine Z25 ?_|refine Z26 ?_|refine Z27 ?_
    |refine Z28 ?_|refine Z29 ?_|refine Z30 ?_|refine Z31 ?_|refine Z32 ?_|refine Z67 ?_|refine Z81 fun _ => ?_|refine Z82 fun _ => ?_)
  refine st_draw1 (by rfl) ?_
  repeat (first
    |refine Zqf (by intro _ _ _;(first
      |contradiction);exact Zq) ?_
    |refine Zqp (by intro _ _ _;refine st_callV (by rfl) (by rfl) (by rfl) (preduce_spec ha) (fun _ _ => trivial) (by rfl) ?_;exact Zq) ?_
    |refine Zqp (by intro _ _ _;refine st_callV (by rfl) (by rfl) (by rfl) (preduce_spec hb) (fun _ _ => trivial) (by rfl) ?_;exact Zq) ?_
    |refine Zqp (by intro _ _ _;(refine st_callV (by rfl) (by rfl) (by rfl) (predd_spec (mod_p a) (Nat.mod_lt b p_pos)) (fun _ _ => trivial) (by rfl) ?_; rw [e1]);exact Zq) ?_
    |refine Zqp (by intro _ _ _;refine st_callV (by rfl) (by rfl) (by rfl) (psq_spec) (fun _ _ => trivial) (by rfl) ?_;exact Zq) ?_
    |refine Zqp (by intro _ _ _;(refine st_callV (by rfl) (by rfl) (by rfl) (predd_spec (redv_pt a b) sq_lt) (fun _ _ => trivial) (by rfl) ?_; rw [e2]);exact Zq) ?_
    |refine Zqp (by intro _ _ _;(first
      |refine Z24 ?_|refine Z25 ?_|refine Z26 ?_|refine Z27 ?_|refine Z28 ?_|refine Z67 ?_);exact Zq) ?_
    |refine Zqe (by intro _ _ _;(first
      |refine Z29 ?_|refine Z30 ?_|refine Z31 ?_|refine Z32 ?_);exact Zqq) ?_
    |refine Zqn ?_)
  refine Zq0 ?_ (by kernel_rfl)
  repeat (first
    |refine Z03 ?_|refine Z04 ?_|refine Z05 ?_|refine Z06 ?_|refine Z07 ?_|refine Z08 ?_|refine Z09 ?_|refine Z10 ?_|refine Z11 ?_|refine Z12 ?_|refine Z13 ?_
    |refine Z14 ?_|refine Z24 ?_|refine Z25 ?_|refine Z26 ?_|refine Z27 ?_|refine Z28 ?_|refine Z29 ?_|refine Z30 ?_|refine Z31 ?_|refine Z32 ?_|refine Z67 ?_
    |refine Z81 fun _ => ?_|refine Z82 fun _ => ?_)
  refine Zec fun _ hw => post_of hw SubW.nil ⟨?_, rfl⟩
  rfl

set_option maxHeartbeats 2000000 in
theorem pneg_spec {a : Nat} (ha : a < W ^ 6) : Spec Try.prog 52 [LV .u64 (D 6 a)] NoPre [] (IsV (LV .u64 (D 6 ((p - a % p) % p)))) := by
  refine mk_spec Try.func52 rfl rfl rfl fun w _ => ?_
  have hl0 := fun x => D_len 6 x
  have hA := Nat.mod_lt a p_pos
  have hlp := hl0 p
  repeat (first
    |(refine st_alloc (v := LV .u64 (List.replicate 6 0)) (by rfl) (by rfl) fun _ => ?_)
    |(refine st_callV (by rfl) (by rfl) (by rfl) (preduce_spec ha) (fun _ _ => trivial) (by rfl) ?_)
    |(refine st_callV (by rfl) (by rfl) (by rfl) (pP_spec) (fun _ _ => trivial) (by rfl) ?_)|refine Z01 ?_|refine Z02 ?_|refine Z03 ?_|refine Z04 ?_|refine Z05 ?_
    |refine Z06 ?_|refine Z07 ?_|refine Z08 ?_|refine Z09 ?_|refine Z10 ?_|refine Z11 ?_|refine Z12 ?_|refine Z13 ?_|refine Z14 ?_|refine Z15 ?_|refine Z17 ?_
    |refine Z18 ?_|refine Z19 ?_|refine Z22 ?_|refine Z23 ?_|refine Z24 ?_|refine Z25 ?_|refine Z26 ?_|refine Z27 ?_|refine Z28 ?_|refine Z29 ?_|refine Z30 ?_
    |refine Z31 ?_|refine Z32 ?_|refine Z67 ?_|refine Z70 ?_|refine Z81 fun _ => ?_|refine Z82 fun _ => ?_)
  generalize a % p = A at *
  have hpl := p_lt
  have hAl : A < W ^ 6 := by omega
  have hla := hl0 A
  rename_i b1 b2 b3
  refine st_loop (ι := Nat) (fun i => i ≤ 6) (fun i => [(1, pt b1 0), (2, pt b2 0), (3, pt b3 0), (4, N .u64 (crun subg (D 6 p) (D 6 A) i).2), (9, N .i64 i)])
    (fun i => [.blk b3 (LV .u64 ((crun subg (D 6 p) (D 6 A) i).1 ++ (D 6 p).drop i)) 24, .blk b1 (LV .u64 (D 6 A)) 24, .blk b2 (LV .u64 (List.replicate 6 0)) 24]) (fun i => 6 - i) 0 (by omega) (by rw [crun_0]; exact (by repeat (first | apply subL.nil | refine subL.cons (by rfl) ?_))) (by rw [crun_0]; exact (by repeat (first | apply SubW.nil | refine SubW.cons (by repeat (first | apply Find.here | apply Find.there)) ?_))) ?_
  intro i hi
  have hc1 := crun_subD_le 6 p A i
  have hl := crun_len subg (D 6 p) (D 6 A) i
  have hol : ((crun subg (D 6 p) (D 6 A) i).1 ++ (D 6 p).drop i).length = 6 := by simp; omega
  have hdg := drop_get (xs := D 6 p) hl
  by_cases h : i < 6
  · repeat (first
      |(refine st_cmp (r := true) (by rfl) (by rfl) (cmpN_t (by first | (simp only [cmpP]; done) | (simp only [cmpP]; omega))) (by rfl) ?_)|refine Z01 ?_|refine Z02 ?_
      |refine Z03 ?_|refine Z04 ?_|refine Z05 ?_|refine Z06 ?_|refine Z07 ?_|refine Z08 ?_|refine Z09 ?_|refine Z10 ?_|refine Z11 ?_|refine Z12 ?_|refine Z13 ?_
      |refine Z14 ?_|refine Z15 ?_|refine Z17 ?_|refine Z18 ?_|refine Z19 ?_|refine Z22 ?_|refine Z23 ?_|refine Z24 ?_|refine Z25 ?_|refine Z26 ?_|refine Z27 ?_
      |refine Z28 ?_|refine Z29 ?_|refine Z30 ?_|refine Z31 ?_|refine Z32 ?_|refine Z67 ?_|refine Z70 ?_|refine Z81 fun _ => ?_|refine Z82 fun _ => ?_)
    refine st_draw1 (by rfl) ?_
    repeat (first
      |refine Zqf (by intro _ _ _;(first
        |(refine st_callX (by rfl) (by rfl) (by rfl) (sub64X _ _ _ hc1) (by rfl) ?_)|refine Z01 ?_|refine Z02 ?_|refine Z15 ?_|refine Z17 ?_|refine Z18 ?_|refine Z19 ?_
        |refine Z22 ?_|refine Z23 ?_|refine Z70 ?_);exact Zq) ?_
      |refine Zqp (by intro _ _ _;(first
        |refine Z24 ?_|refine Z25 ?_|refine Z26 ?_|refine Z27 ?_|refine Z28 ?_|refine Z67 ?_|refine Z23 ?_);exact Zq) ?_
      |refine Zqe (by intro _ _ _;(first
        |refine Z29 ?_|refine Z30 ?_|refine Z31 ?_|refine Z32 ?_);exact Zqq) ?_
      |refine Zqn ?_)
    refine Zq0 ?_ (by kernel_rfl)
    rw [hdg, ← subg_fst, ← subg_snd, ← crun_snd, crun_drop subg (D 6 p) (D 6 A) i (by omega)]
    repeat (first
      |refine Z01 ?_|refine Z02 ?_|refine Z03 ?_|refine Z04 ?_|refine Z05 ?_|refine Z06 ?_|refine Z07 ?_|refine Z08 ?_|refine Z09 ?_|refine Z10 ?_|refine Z11 ?_
      |refine Z12 ?_|refine Z13 ?_|refine Z14 ?_|refine Z15 ?_|refine Z17 ?_|refine Z18 ?_|refine Z19 ?_|refine Z22 ?_|refine Z23 ?_|refine Z24 ?_|refine Z25 ?_
      |refine Z26 ?_|refine Z27 ?_|refine Z28 ?_|refine Z29 ?_|refine Z30 ?_|refine Z31 ?_|refine Z32 ?_|refine Z67 ?_|refine Z70 ?_|refine Z81 fun _ => ?_
      |refine Z82 fun _ => ?_)
    exact st_round (i + 1) (by omega) (by omega) (by repeat (first | apply subL.nil | refine subL.cons (by rfl) ?_)) (by repeat (first | apply SubW.nil | refine SubW.cons (by repeat (first | apply Find.here | apply Find.there)) ?_))
  · have hie : i = 6 := by omega
    subst hie
    have hdr : (D 6 p).drop 6 = [] := List.drop_eq_nil_of_le (by omega)
    rw [crun_subD hpl hAl, hdr, List.append_nil, D_sbn (Nat.le_of_lt hA)] at *
    simp only at *
    have hv : lessv 6 p (p - A) 0 = (p - A) % p := by
      unfold lessv
      rw [Nat.zero_mul, Nat.add_zero]
      rcases Nat.eq_zero_or_pos A with h0 | h0
      · subst h0; rw [Nat.sub_zero, if_neg (by omega), Nat.sub_self, Nat.mod_self]
      · rw [if_pos (by omega), Nat.mod_eq_of_lt (by omega)]
    have hl3 := hl0 ((p - A) % p)
    repeat (first
      |(refine st_cmp (r := false) (by rfl) (by rfl) (cmpN_f (by first | (simp only [cmpQ]; done) | (simp only [cmpQ]; omega))) (by rfl) ?_)
      |((refine st_callV (by rfl) (by rfl) (by rfl) (pless_spec (a := p - A) (by omega) (Nat.zero_le 1)) (fun _ _ => trivial) (by rfl) ?_; rw [hv]))|refine Z01 ?_
      |refine Z02 ?_|refine Z03 ?_|refine Z04 ?_|refine Z05 ?_|refine Z06 ?_|refine Z07 ?_|refine Z08 ?_|refine Z09 ?_|refine Z10 ?_|refine Z11 ?_|refine Z12 ?_
      |refine Z13 ?_|refine Z14 ?_|refine Z15 ?_|refine Z17 ?_|refine Z18 ?_|refine Z19 ?_|refine Z22 ?_|refine Z23 ?_|refine Z24 ?_|refine Z25 ?_|refine Z26 ?_
      |refine Z27 ?_|refine Z28 ?_|refine Z29 ?_|refine Z30 ?_|refine Z31 ?_|refine Z32 ?_|refine Z67 ?_|refine Z70 ?_|refine Z81 fun _ => ?_|refine Z82 fun _ => ?_)
    refine Zec fun _ hw => post_of hw SubW.nil ⟨?_, rfl⟩
    rfl

theorem psub_spec {a b : Nat} (ha : a < W ^ 6) (hb : b < W ^ 6) : Spec Try.prog 54 [LV .u64 (D 6 a), LV .u64 (D 6 b)] NoPre [] (IsV (LV .u64 (D 6 ((a + (p - b % p) % p) % p)))) := by
  refine mk_spec Try.func54 rfl rfl rfl fun w _ => ?_
  have hl0 := fun x => D_len 6 x
  repeat (first
    |(refine st_alloc (v := LV .u64 (List.replicate 6 0)) (by rfl) (by rfl) fun _ => ?_)|refine Z03 ?_|refine Z04 ?_|refine Z05 ?_|refine Z06 ?_|refine Z07 ?_
    |refine Z08 ?_|refine Z09 ?_|refine Z10 ?_|refine Z11 ?_|refine Z12 ?_|refine Z13 ?_|refine Z14 ?_|refine Z24 ?_|refine Z25 ?_|refine Z26 ?_|refine Z27 ?_
    |refine Z28 ?_|refine Z29 ?_|refine Z30 ?_|refine Z31 ?_|refine Z32 ?_|refine Z67 ?_|refine Z81 fun _ => ?_|refine Z82 fun _ => ?_)
  refine st_draw1 (by rfl) ?_
  repeat (first
    |refine Zqf (by intro _ _ _;(first
      |contradiction);exact Zq) ?_
    |refine Zqp (by intro _ _ _;refine st_callV (by rfl) (by rfl) (by rfl) (pneg_spec hb) (fun _ _ => trivial) (by rfl) ?_;exact Zq) ?_
    |refine Zqp (by intro _ _ _;refine st_callV (by rfl) (by rfl) (by rfl) (padd_spec ha (mod_p (p - b % p))) (fun _ _ => trivial) (by rfl) ?_;exact Zq) ?_
    |refine Zqp (by intro _ _ _;(first
      |refine Z24 ?_|refine Z25 ?_|refine Z26 ?_|refine Z27 ?_|refine Z28 ?_|refine Z67 ?_);exact Zq) ?_
    |refine Zqe (by intro _ _ _;(first
      |refine Z29 ?_|refine Z30 ?_|refine Z31 ?_|refine Z32 ?_);exact Zqq) ?_
    |refine Zqn ?_)
  refine Zq0 ?_ (by kernel_rfl)
  repeat (first
    |refine Z03 ?_|refine Z04 ?_|refine Z05 ?_|refine Z06 ?_|refine Z07 ?_|refine Z08 ?_|refine Z09 ?_|refine Z10 ?_|refine Z11 ?_|refine Z12 ?_|refine Z13 ?_
    |refine Z14 ?_|refine Z24 ?_|refine Z25 ?_|refine Z26 ?_|refine Z27 ?_|refine Z28 ?_|refine Z29 ?_|refine Z30 ?_|refine Z31 ?_|refine Z32 ?_|refine Z67 ?_
    |refine Z81 fun _ => ?_|refine Z82 fun _ => ?_)
  refine Zec fun _ hw => post_of hw SubW.nil ⟨?_, rfl⟩
  rfl

set_option maxHeartbeats 2000000 in
theorem minusOf_spec {a b : Nat} (ha : a < W ^ 6) (hb : b ≤ a) : Spec Try.prog 101 [LV .u64 (D 6 a), LV .u64 (D 6 b)] NoPre [] (IsV (LV .u64 (D 6 (a - b)))) := by
  refine mk_spec Try.func101 rfl rfl rfl fun w _ => ?_
  have hl0 := fun x => D_len 6 x
  have hla := hl0 a
  repeat (first
    |(refine st_alloc (v := LV .u64 (List.replicate 6 0)) (by rfl) (by rfl) fun _ => ?_)|refine Z01 ?_|refine Z02 ?_|refine Z03 ?_|refine Z04 ?_|refine Z05 ?_
    |refine Z06 ?_|refine Z07 ?_|refine Z08 ?_|refine Z09 ?_|refine Z10 ?_|refine Z11 ?_|refine Z12 ?_|refine Z13 ?_|refine Z14 ?_|refine Z15 ?_|refine Z17 ?_
    |refine Z18 ?_|refine Z19 ?_|refine Z22 ?_|refine Z23 ?_|refine Z24 ?_|refine Z25 ?_|refine Z26 ?_|refine Z27 ?_|refine Z28 ?_|refine Z29 ?_|refine Z30 ?_
    |refine Z31 ?_|refine Z32 ?_|refine Z67 ?_|refine Z70 ?_|refine Z81 fun _ => ?_|refine Z82 fun _ => ?_)
  rename_i b2 b3 b4
  refine st_loop (ι := Nat) (fun i => i ≤ 6) (fun i => [(2, pt b2 0), (3, pt b3 0), (4, pt b4 0), (5, N .u64 (crun subg (D 6 a) (D 6 b) i).2), (7, N .i64 i)])
    (fun i => [.blk b2 (LV .u64 ((crun subg (D 6 a) (D 6 b) i).1 ++ (D 6 a).drop i)) 24, .blk b3 (LV .u64 (D 6 b)) 24, .blk b4 (LV .u64 (List.replicate 6 0)) 24]) (fun i => 6 - i) 0 (by omega) (by rw [crun_0]; exact (by repeat (first | apply subL.nil | refine subL.cons (by rfl) ?_))) (by rw [crun_0]; exact (by repeat (first | apply SubW.nil | refine SubW.cons (by repeat (first | apply Find.here | apply Find.there)) ?_))) ?_
  intro i hi
  have hc1 := crun_subD_le 6 a b i
  have hl := crun_len subg (D 6 a) (D 6 b) i
  have hol : ((crun subg (D 6 a) (D 6 b) i).1 ++ (D 6 a).drop i).length = 6 := by simp; omega
  have hdg := drop_get (xs := D 6 a) hl
  by_cases h : i < 6
  · repeat (first
      |(refine st_cmp (r := true) (by rfl) (by rfl) (cmpN_t (by first | (simp only [cmpP]; done) | (simp only [cmpP]; omega))) (by rfl) ?_)|refine Z01 ?_|refine Z02 ?_
      |refine Z03 ?_|refine Z04 ?_|refine Z05 ?_|refine Z06 ?_|refine Z07 ?_|refine Z08 ?_|refine Z09 ?_|refine Z10 ?_|refine Z11 ?_|refine Z12 ?_|refine Z13 ?_
      |refine Z14 ?_|refine Z15 ?_|refine Z17 ?_|refine Z18 ?_|refine Z19 ?_|refine Z22 ?_|refine Z23 ?_|refine Z24 ?_|refine Z25 ?_|refine Z26 ?_|refine Z27 ?_
      |refine Z28 ?_|refine Z29 ?_|refine Z30 ?_|refine Z31 ?_|refine Z32 ?_|refine Z67 ?_|refine Z70 ?_|refine Z81 fun _ => ?_|refine Z82 fun _ => ?_)
    refine st_draw1 (by rfl) ?_
    repeat (first
      |refine Zqf (by intro _ _ _;(first
        |(refine st_callX (by rfl) (by rfl) (by rfl) (sub64X _ _ _ hc1) (by rfl) ?_)|refine Z01 ?_|refine Z02 ?_|refine Z15 ?_|refine Z17 ?_|refine Z18 ?_|refine Z19 ?_
        |refine Z22 ?_|refine Z23 ?_|refine Z70 ?_);exact Zq) ?_
      |refine Zqp (by intro _ _ _;(first
        |refine Z24 ?_|refine Z25 ?_|refine Z26 ?_|refine Z27 ?_|refine Z28 ?_|refine Z67 ?_|refine Z23 ?_);exact Zq) ?_
      |refine Zqe (by intro _ _ _;(first
        |refine Z29 ?_|refine Z30 ?_|refine Z31 ?_|refine Z32 ?_);exact Zqq) ?_
      |refine Zqn ?_)
    refine Zq0 ?_ (by kernel_rfl)
    rw [hdg, ← subg_fst, ← subg_snd, ← crun_snd, crun_drop subg (D 6 a) (D 6 b) i (by omega)]
    repeat (first
      |refine Z01 ?_|refine Z02 ?_|refine Z03 ?_|refine Z04 ?_|refine Z05 ?_|refine Z06 ?_|refine Z07 ?_|refine Z08 ?_|refine Z09 ?_|refine Z10 ?_|refine Z11 ?_
      |refine Z12 ?_|refine Z13 ?_|refine Z14 ?_|refine Z15 ?_|refine Z17 ?_|refine Z18 ?_|refine Z19 ?_|refine Z22 ?_|refine Z23 ?_|refine Z24 ?_|refine Z25 ?_
      |refine Z26 ?_|refine Z27 ?_|refine Z28 ?_|refine Z29 ?_|refine Z30 ?_|refine Z31 ?_|refine Z32 ?_|refine Z67 ?_|refine Z70 ?_|refine Z81 fun _ => ?_
      |refine Z82 fun _ => ?_)
    exact st_round (i + 1) (by omega) (by omega) (by repeat (first | apply subL.nil | refine subL.cons (by rfl) ?_)) (by repeat (first | apply SubW.nil | refine SubW.cons (by repeat (first | apply Find.here | apply Find.there)) ?_))
  · have hie : i = 6 := by omega
    subst hie
    have hdr : (D 6 a).drop 6 = [] := List.drop_eq_nil_of_le (by omega)
    rw [crun_subD ha (Nat.lt_of_le_of_lt hb ha), hdr, List.append_nil, D_sbn hb] at *
    simp only at *
    have hl3 := hl0 (a - b)
    repeat (first
      |(refine st_cmp (r := false) (by rfl) (by rfl) (cmpN_f (by first | (simp only [cmpQ]; done) | (simp only [cmpQ]; omega))) (by rfl) ?_)|refine Z01 ?_|refine Z02 ?_
      |refine Z03 ?_|refine Z04 ?_|refine Z05 ?_|refine Z06 ?_|refine Z07 ?_|refine Z08 ?_|refine Z09 ?_|refine Z10 ?_|refine Z11 ?_|refine Z12 ?_|refine Z13 ?_
      |refine Z14 ?_|refine Z15 ?_|refine Z17 ?_|refine Z18 ?_|refine Z19 ?_|refine Z22 ?_|refine Z23 ?_|refine Z24 ?_|refine Z25 ?_|refine Z26 ?_|refine Z27 ?_
      |refine Z28 ?_|refine Z29 ?_|refine Z30 ?_|refine Z31 ?_|refine Z32 ?_|refine Z67 ?_|refine Z70 ?_|refine Z81 fun _ => ?_|refine Z82 fun _ => ?_)
    refine Zec fun _ hw => post_of hw SubW.nil ⟨?_, rfl⟩
    rfl

/-! ## Powers -/
theorem one6 : ([1] ++ List.replicate (6 - [1].length) 0 : List Nat) = D 6 1 := by decide +kernel
theorem zero6 : ([] ++ List.replicate (6 - ([] : List Nat).length) 0 : List Nat) = D 6 0 := by rw [D_zero]; rfl
theorem pw_sq (a x : Nat) : redv (a ^ x * W ^ 6 % p) (a ^ x * W ^ 6 % p) = a ^ (2 * x) * W ^ 6 % p := by
  rw [redv_mod]
  unfold redv
  have e : a ^ x * W ^ 6 * (a ^ x * W ^ 6) * Ri = a ^ (2 * x) * W ^ 6 * (W ^ 6 * Ri) := by
    rw [Nat.two_mul, Nat.pow_add]
    generalize a ^ x = y; generalize W ^ 6 = z
    simp only [Nat.mul_assoc, Nat.mul_left_comm]
  rw [e, Nat.mul_mod, Ri_1, Nat.mul_one, Nat.mod_mod]
theorem pw_mul (a x : Nat) : redv (a ^ x * W ^ 6 % p) (a * W ^ 6 % p) = a ^ (x + 1) * W ^ 6 % p := by
  rw [redv_mod]
  unfold redv
  have e : a ^ x * W ^ 6 * (a * W ^ 6) * Ri = a ^ (x + 1) * W ^ 6 * (W ^ 6 * Ri) := by
    rw [Nat.pow_succ a x]
    generalize a ^ x = y; generalize W ^ 6 = z
    simp only [Nat.mul_assoc, Nat.mul_left_comm]
  rw [e, Nat.mul_mod, Ri_1, Nat.mul_one, Nat.mod_mod]
theorem pw_base (a : Nat) : redv (a % p) (W ^ 12 % p) = a * W ^ 6 % p := by
  rw [redv_l]
  unfold redv
  rw [Nat.mul_assoc, Nat.mul_mod, Ri_3, ← Nat.mul_mod]
theorem pw_one' : redv 1 (W ^ 12 % p) = 1 * W ^ 6 % p := by decide +kernel
theorem pw_end (y : Nat) : redv (y * W ^ 6 % p) 1 = y % p := by
  rw [redv_l]
  unfold redv
  rw [Nat.mul_one, Nat.mul_assoc, Nat.mul_mod, Ri_1, Nat.mul_one, Nat.mod_mod]
theorem bit_and6 {ys : List Nat} (hy : Lt 18446744073709551616 ys) (i : Nat) : (ys.getD (i / 64) 0 >>> (i % 64) % 18446744073709551616 &&& 1 % 18446744073709551616) = V ys / 2 ^ i % 2 := by
  rw [show 1 % 18446744073709551616 = 1 from rfl, Nat.and_one_is_mod, Nat.mod_mod_of_dvd _ (by decide), V_getD hy]
  exact word_bit _ _

set_option maxHeartbeats 4000000 in
theorem ppow_spec {a : Nat} (ha : a < W ^ 6) (s : Value) (xs : List Nat) (hx : Lt 18446744073709551616 xs) (hl : xs.length < 65536) :
    Spec Try.prog 97 [LV .u64 (D 6 a), s] (fun w => Rd w s (xs.map (N .u64))) [] (IsV (LV .u64 (D 6 (a ^ V xs % p)))) := by
  refine mk_spec Try.func97 rfl rfl rfl fun w hr => ?_
  have hr := RdC.mk0 hr
  have hl0 := fun x => D_len 6 x
  have e1 := pw_base a
  have h1W : 1 < W ^ 6 := by decide
  have h1p : 1 < p := p_prime.1
  have hz : V xs / 2 ^ (64 * xs.length) = 0 := Nat.div_eq_of_lt (by rw [Nat.pow_mul, ← W_2]; exact V_lt hx)
  repeat (first
    |(refine st_alloc (v := LV .u64 (List.replicate 6 0)) (by rfl) (by rfl) fun _ => ?_)
    |(refine st_callV (by rfl) (by rfl) (by rfl) (preduce_spec ha) (fun _ _ => trivial) (by rfl) ?_)
    |(refine st_callV (by rfl) (by rfl) (by rfl) (psq_spec) (fun _ _ => trivial) (by rfl) ?_)
    |((refine st_callV (by rfl) (by rfl) (by rfl) (predd_spec (mod_p a) sq_lt) (fun _ _ => trivial) (by rfl) ?_; rw [e1]))
    |((refine st_buildP (kk := .u64) (vs := [1]) (by rfl) (by rfl) (by rfl) (by rfl) (by rfl) (by rfl) (by rfl) (by rfl) ?_; rw [one6]))
    |((refine st_callV (by rfl) (by rfl) (by rfl) (predd_spec h1W sq_lt) (fun _ _ => trivial) (by rfl) ?_; rw [pw_one']))|refine Z01 ?_|refine Z02 ?_|refine Z03 ?_
    |refine Z04 ?_|refine Z05 ?_|refine Z06 ?_|refine Z07 ?_|refine Z08 ?_|refine Z09 ?_|refine Z10 ?_|refine Z11 ?_|refine Z12 ?_|refine Z13 ?_|refine Z14 ?_
    |refine Z16 ?_|refine Z17 ?_|refine Z18 ?_|refine Z20 ?_|refine Z21 ?_|refine Z22 ?_|refine Z23 ?_|refine Z24 ?_|refine Z25 ?_|refine Z26 ?_|refine Z27 ?_
    |refine Z28 ?_|refine Z29 ?_|refine Z30 ?_|refine Z31 ?_|refine Z32 ?_|refine Z36 ?_|refine Z37 ?_|refine Z38 ?_|refine Z40 ?_|refine Z42 ?_|refine Z58 ?_
    |refine Z59 ?_|refine Z65 ?_|refine Z67 ?_|refine Z71 ?_|refine Z81 fun _ => ?_|refine Z82 fun _ => ?_)
  rename_i b2 b4 b5 b6
  refine st_loop (ι := Nat) (fun j => j ≤ 64 * xs.length) (fun j => [(1, s), (4, pt b4 0), (5, pt b5 0), (6, pt b6 0), (7, .int .i64 ((j : Int) - 1))])
    (fun j => [.blk b6 (LV .u64 (D 6 (a ^ (V xs / 2 ^ j) * W ^ 6 % p))) 24, .blk b5 (LV .u64 (D 6 (a * W ^ 6 % p))) 24, .blk b4 (LV .u64 (List.replicate 6 0)) 24]) (fun j => j) (64 * xs.length) (Nat.le_refl _) (by repeat (first | apply subL.nil | refine subL.cons (by rfl) ?_)) (by rw [hz, Nat.pow_zero]; exact (by repeat (first | apply SubW.nil | refine SubW.cons (by repeat (first | apply Find.here | apply Find.there)) ?_))) ?_
  intro j hj
  have hl6 := fun x => hl0 (a ^ x * W ^ 6 % p)
  have hlb := hl0 (a * W ^ 6 % p)
  repeat (first
    |refine Z01 ?_|refine Z02 ?_|refine Z03 ?_|refine Z04 ?_|refine Z05 ?_|refine Z06 ?_|refine Z07 ?_|refine Z08 ?_|refine Z09 ?_|refine Z10 ?_|refine Z11 ?_
    |refine Z12 ?_|refine Z13 ?_|refine Z14 ?_|refine Z16 ?_|refine Z17 ?_|refine Z18 ?_|refine Z20 ?_|refine Z21 ?_|refine Z22 ?_|refine Z23 ?_|refine Z24 ?_
    |refine Z25 ?_|refine Z26 ?_|refine Z27 ?_|refine Z28 ?_|refine Z29 ?_|refine Z30 ?_|refine Z31 ?_|refine Z32 ?_|refine Z36 ?_|refine Z37 ?_|refine Z38 ?_
    |refine Z40 ?_|refine Z42 ?_|refine Z58 ?_|refine Z59 ?_|refine Z65 ?_|refine Z67 ?_|refine Z71 ?_|refine Z81 fun _ => ?_|refine Z82 fun _ => ?_)
  refine st_cond (by rfl) (fun h => ?_) (fun h => ?_)
  · have h0 : (0 : Int) ≤ (j : Int) - 1 := h
    obtain ⟨i, rfl⟩ : ∃ i, j = i + 1 := ⟨j - 1, by omega⟩
    rw [show ((i + 1 : Nat) : Int) - 1 = Int.ofNat i by simp]
    have hst := bit_step (V xs) i
    have hbt := bit_and6 hx i
    generalize V xs / 2 ^ (i + 1) = x at hst ⊢
    have hla := hl6 x
    have hla2 := hl6 (2 * x)
    have hla3 := hl6 (2 * x + 1)
    have q1 := pw_sq a x
    have q2 := pw_mul a (2 * x)
    repeat (first
      
      |((refine st_callV (by rfl) (by rfl) (by rfl) (predd_spec (a := a ^ x * W ^ 6 % p) (b := a ^ x * W ^ 6 % p) (mod_p _) (Nat.mod_lt _ p_pos)) (fun _ _ => trivial) (by rfl) ?_; rw [q1]))
      |(refine st_shr (by rfl) (by rfl) (show i % 64 ≤ 64 by omega) (by rfl) ?_)|(rw [hbt])|refine Z01 ?_|refine Z02 ?_|refine Z03 ?_|refine Z04 ?_|refine Z05 ?_
      |refine Z06 ?_|refine Z07 ?_|refine Z08 ?_|refine Z09 ?_|refine Z10 ?_|refine Z11 ?_|refine Z12 ?_|refine Z13 ?_|refine Z14 ?_|refine Z16 ?_|refine Z17 ?_
      |refine Z18 ?_|refine Z20 ?_|refine Z21 ?_|refine Z22 ?_|refine Z23 ?_|refine Z24 ?_|refine Z25 ?_|refine Z26 ?_|refine Z27 ?_|refine Z28 ?_|refine Z29 ?_
      |refine Z30 ?_|refine Z31 ?_|refine Z32 ?_|refine Z36 ?_|refine Z37 ?_|refine Z38 ?_|refine Z40 ?_|refine Z42 ?_|refine Z58 ?_|refine Z59 ?_|refine Z65 ?_
      |refine Z67 ?_|refine Z71 ?_|refine Z81 fun _ => ?_|refine Z82 fun _ => ?_)
    refine st_cond (by rfl) (fun hb => ?_) (fun hb => ?_)
    · have hx1 : V xs / 2 ^ i = 2 * x + 1 := by omega
      repeat (first
        
        |((refine st_callV (by rfl) (by rfl) (by rfl) (predd_spec (a := a ^ (2 * x) * W ^ 6 % p) (b := a * W ^ 6 % p) (mod_p _) (Nat.mod_lt _ p_pos)) (fun _ _ => trivial) (by rfl) ?_; rw [q2]))
        |refine Z01 ?_|refine Z02 ?_|refine Z03 ?_|refine Z04 ?_|refine Z05 ?_|refine Z06 ?_|refine Z07 ?_|refine Z08 ?_|refine Z09 ?_|refine Z10 ?_|refine Z11 ?_
        |refine Z12 ?_|refine Z13 ?_|refine Z14 ?_|refine Z16 ?_|refine Z17 ?_|refine Z18 ?_|refine Z20 ?_|refine Z21 ?_|refine Z22 ?_|refine Z23 ?_|refine Z24 ?_
        |refine Z25 ?_|refine Z26 ?_|refine Z27 ?_|refine Z28 ?_|refine Z29 ?_|refine Z30 ?_|refine Z31 ?_|refine Z32 ?_|refine Z36 ?_|refine Z37 ?_|refine Z38 ?_
        |refine Z40 ?_|refine Z42 ?_|refine Z58 ?_|refine Z59 ?_|refine Z65 ?_|refine Z67 ?_|refine Z71 ?_|refine Z81 fun _ => ?_|refine Z82 fun _ => ?_)
      refine st_round i (by omega) (by omega) ?_ (by rw [hx1]; exact (by repeat (first | apply SubW.nil | refine SubW.cons (by repeat (first | apply Find.here | apply Find.there)) ?_)))
      rw [show ((i : Int) - 1) = Int.ofNat i - Int.ofNat 1 from rfl]
      exact (by repeat (first | apply subL.nil | refine subL.cons (by rfl) ?_))
    · have hx1 : V xs / 2 ^ i = 2 * x := by omega
      repeat (first
        |refine Z01 ?_|refine Z02 ?_|refine Z03 ?_|refine Z04 ?_|refine Z05 ?_|refine Z06 ?_|refine Z07 ?_|refine Z08 ?_|refine Z09 ?_|refine Z10 ?_|refine Z11 ?_
        |refine Z12 ?_|refine Z13 ?_|refine Z14 ?_|refine Z16 ?_|refine Z17 ?_|refine Z18 ?_|refine Z20 ?_|refine Z21 ?_|refine Z22 ?_|refine Z23 ?_|refine Z24 ?_
        |refine Z25 ?_|refine Z26 ?_|refine Z27 ?_|refine Z28 ?_|refine Z29 ?_|refine Z30 ?_|refine Z31 ?_|refine Z32 ?_|refine Z36 ?_|refine Z37 ?_|refine Z38 ?_
        |refine Z40 ?_|refine Z42 ?_|refine Z58 ?_|refine Z59 ?_|refine Z65 ?_|refine Z67 ?_|refine Z71 ?_|refine Z81 fun _ => ?_|refine Z82 fun _ => ?_)
      refine st_round i (by omega) (by omega) ?_ (by rw [hx1]; exact (by repeat (first | apply SubW.nil | refine SubW.cons (by repeat (first | apply Find.here | apply Find.there)) ?_)))
      rw [show ((i : Int) - 1) = Int.ofNat i - Int.ofNat 1 from rfl]
      exact (by repeat (first | apply subL.nil | refine subL.cons (by rfl) ?_))
  · have hp0 : ¬ (0 : Int) ≤ (j : Int) - 1 := h
    have hj0 : j = 0 := by omega
    subst hj0
    have hle := hl0 (a ^ V xs % p)
    have q3 := pw_end (a ^ V xs)
    rw [Nat.pow_zero, Nat.div_one]
    repeat (first
      |((refine st_buildP (kk := .u64) (vs := [1]) (by rfl) (by rfl) (by rfl) (by rfl) (by rfl) (by rfl) (by rfl) (by rfl) ?_; rw [one6]))
      |((refine st_callV (by rfl) (by rfl) (by rfl) (predd_spec (a := a ^ V xs * W ^ 6 % p) (mod_p _) h1p) (fun _ _ => trivial) (by rfl) ?_; rw [q3]))|refine Z01 ?_
      |refine Z02 ?_|refine Z03 ?_|refine Z04 ?_|refine Z05 ?_|refine Z06 ?_|refine Z07 ?_|refine Z08 ?_|refine Z09 ?_|refine Z10 ?_|refine Z11 ?_|refine Z12 ?_
      |refine Z13 ?_|refine Z14 ?_|refine Z16 ?_|refine Z17 ?_|refine Z18 ?_|refine Z20 ?_|refine Z21 ?_|refine Z22 ?_|refine Z23 ?_|refine Z24 ?_|refine Z25 ?_
      |refine Z26 ?_|refine Z27 ?_|refine Z28 ?_|refine Z29 ?_|refine Z30 ?_|refine Z31 ?_|refine Z32 ?_|refine Z36 ?_|refine Z37 ?_|refine Z38 ?_|refine Z40 ?_
      |refine Z42 ?_|refine Z58 ?_|refine Z59 ?_|refine Z65 ?_|refine Z67 ?_|refine Z71 ?_|refine Z81 fun _ => ?_|refine Z82 fun _ => ?_)
    refine Zec fun _ hw => post_of hw SubW.nil ⟨?_, rfl⟩
    rfl
end Go.Proofs.Ytfhempgkdnecnaa.L
