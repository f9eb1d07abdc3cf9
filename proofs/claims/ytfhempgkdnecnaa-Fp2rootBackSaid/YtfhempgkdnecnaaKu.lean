/- A root's try, case by case. No condition. -/
import Derived.Test.YtfhempgkdnecnaaKt
namespace Go.Proofs.Ytfhempgkdnecnaa.L.Kf.K2
open Pr
variable {n : Nat} [NeZero n]
theorem tryP_0 {a : K2 n} {m : Fin n} {s : Fin n × Bool} {o : K2 n} (hs : s = fsq ((a.re + m) * hv n)) (h : s.1 = 0) (ho : o = ⟨s.1, (fsq (-a.re)).1⟩) :
    tryP a m = (evn2 o, (fsq (-a.re)).2 && decide (mul (evn2 o) (evn2 o) = a)) := by
  subst hs
  subst ho
  rw [h, tryP, if_pos h]
theorem tryP_1 {a : K2 n} {m : Fin n} {s : Fin n × Bool} {o : K2 n} (hs : s = fsq ((a.re + m) * hv n)) (h : ¬ s.1 = 0) (ho : o = ⟨s.1, a.im * hv n * Kf.inv s.1⟩) :
    tryP a m = (evn2 o, s.2 && decide (mul (evn2 o) (evn2 o) = a)) := by
  subst hs
  subst ho
  rw [tryP, if_neg h]
theorem evn2_1 {a : K2 n} {g : Nat} (hg : g = sgn a) (h : g = 1) : evn2 a = neg a := if_pos (hg.symm.trans h)
theorem evn2_0 {a : K2 n} {g : Nat} (hg : g = sgn a) (h : ¬ g = 1) : evn2 a = a := if_neg fun e => h (hg.trans e)
theorem pw_2k (a : K2 n) (k : Nat) : mul (pw a k) (pw a k) = pw a (2 * k) := by rw [← pw_add, Nat.two_mul]
theorem rootR_0 {a b z c m : K2 n} (hb : b = pw a ((n - 3) / 4)) (hz : z = mul b a) (hc : c = mul b z) (hm : m = neg one) (h : c = m) : rootR a = mul z ⟨0, 1⟩ := by
  subst hm
  rw [hc, hz] at h
  rw [hz]
  subst hb
  rw [rootR, if_pos h]
theorem rootR_1 {a b z c m d e : K2 n} (hb : b = pw a ((n - 3) / 4)) (hz : z = mul b a) (hc : c = mul b z) (hm : m = neg one) (h : ¬ c = m) (hd : d = add one c) (he : e = pw d ((n - 1) / 2)) : rootR a = mul e z := by
  subst hm
  subst he
  subst hd
  rw [hc, hz] at h ⊢
  subst hb
  rw [rootR, if_neg h]
theorem sqrtR_1 {a r : K2 n} (hr : r = rootR a) (h : mul r r = a) : sqrtR a = (evn2 r, true) := by
  subst hr
  rw [sqrtR, if_pos h]
theorem sqrtR_0 {a r : K2 n} (hr : r = rootR a) (h : ¬ mul r r = a) : sqrtR a = (zero, false) := by
  subst hr
  rw [sqrtR, if_neg h]
theorem sqrtP_0 {a : K2 n} {s : Fin n × Bool} (hs : s = fsq (norm a)) (h : s.2 = false) : sqrtP a = (zero, false) := by
  subst hs
  rw [sqrtP, if_neg (by rw [h]; decide)]
theorem sqrtP_1 {a : K2 n} {s : Fin n × Bool} {t : K2 n × Bool} (hs : s = fsq (norm a)) (h : s.2 = true) (ht : t = tryP a s.1) (h1 : t.2 = true) : sqrtP a = (t.1, true) := by
  subst hs
  subst ht
  rw [sqrtP, if_pos h, if_pos h1]
theorem sqrtP_2 {a : K2 n} {s : Fin n × Bool} {t v : K2 n × Bool} (hs : s = fsq (norm a)) (h : s.2 = true) (ht : t = tryP a s.1) (h1 : t.2 = false) (hv : v = tryP a (-s.1)) (h2 : v.2 = true) : sqrtP a = (v.1, true) := by
  subst hs
  subst ht
  subst hv
  rw [sqrtP, if_pos h, if_neg (by rw [h1]; decide), if_pos h2]
theorem sqrtP_3 {a : K2 n} {s : Fin n × Bool} {t v : K2 n × Bool} (hs : s = fsq (norm a)) (h : s.2 = true) (ht : t = tryP a s.1) (h1 : t.2 = false) (hv : v = tryP a (-s.1)) (h2 : v.2 = false) : sqrtP a = (zero, false) := by
  subst hs
  subst ht
  subst hv
  rw [sqrtP, if_pos h, if_neg (by rw [h1]; decide), if_neg (by rw [h2]; decide)]
theorem isq2_def (a : K2 n) : isq2 a = (sqrtP a).2 := rfl
end Go.Proofs.Ytfhempgkdnecnaa.L.Kf.K2
