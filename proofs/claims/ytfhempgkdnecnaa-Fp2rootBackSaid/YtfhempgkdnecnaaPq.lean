/- That p and r are prime. No condition. -/
import Derived.Test.YtfhempgkdnecnaaPri
namespace Go.Proofs.Ytfhempgkdnecnaa.L.Pr
set_option maxRecDepth 100000
theorem prime_2 : Prime 2 := ⟨by decide, fun d hd => by
  have h1 := Nat.le_of_dvd (by decide) hd
  have h2 : d ≠ 0 := by rintro rfl; exact absurd (Nat.eq_zero_of_zero_dvd hd) (by decide)
  omega⟩
theorem prime_421987 : Prime 421987 := small 10 (by decide +kernel)
theorem prime_q4 : Prime 13090036741 := pock (f := 34) [(421987, 0, 2)] (by
  intro x hx
  simp only [List.mem_cons, List.not_mem_nil, or_false] at hx
  rcases hx with rfl
  · exact prime_421987) (by decide +kernel)
theorem prime_755057 : Prime 755057 := small 10 (by decide +kernel)
theorem prime_q3 : Prime 3819663927398918131021 := pock (f := 72) [(13090036741, 0, 2), (755057, 0, 2)] (by
  intro x hx
  simp only [List.mem_cons, List.not_mem_nil, or_false] at hx
  rcases hx with rfl | rfl
  · exact prime_q4
  · exact prime_755057) (by decide +kernel)
theorem prime_q2 : Prime 1125266252156850182658904441386709967 := pock (f := 120) [(3819663927398918131021, 0, 2)] (by
  intro x hx
  simp only [List.mem_cons, List.not_mem_nil, or_false] at hx
  rcases hx with rfl
  · exact prime_q3) (by decide +kernel)
theorem prime_q1 : Prime 15778400344354997994418419698270088123916926905054652752758194827714659 := pock (f := 234) [(1125266252156850182658904441386709967, 0, 2)] (by
  intro x hx
  simp only [List.mem_cons, List.not_mem_nil, or_false] at hx
  rcases hx with rfl
  · exact prime_q2) (by decide +kernel)
theorem prime_p : Prime 4002409555221667393417789825735904156556882819939007885332058136124031650490837864442687629129015664037894272559787 := pock (f := 381) [(15778400344354997994418419698270088123916926905054652752758194827714659, 0, 2)] (by
  intro x hx
  simp only [List.mem_cons, List.not_mem_nil, or_false] at hx
  rcases hx with rfl
  · exact prime_q1) (by decide +kernel)
theorem prime_254760293 : Prime 254760293 := small 14 (by decide +kernel)
theorem prime_52437899 : Prime 52437899 := small 13 (by decide +kernel)
theorem prime_2529403 : Prime 2529403 := small 11 (by decide +kernel)
theorem prime_r : Prime 52435875175126190479447740508185965837690552500527637822603658699938581184513 := pock (f := 255) [(2, 31, 5), (254760293, 1, 2), (52437899, 0, 2), (2529403, 0, 2)] (by
  intro x hx
  simp only [List.mem_cons, List.not_mem_nil, or_false] at hx
  rcases hx with rfl | rfl | rfl | rfl
  · exact prime_2
  · exact prime_254760293
  · exact prime_52437899
  · exact prime_2529403) (by decide +kernel)
end Go.Proofs.Ytfhempgkdnecnaa.L.Pr
