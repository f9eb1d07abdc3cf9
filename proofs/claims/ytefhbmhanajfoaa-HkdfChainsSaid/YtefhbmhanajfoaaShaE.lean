/- SHA-256 at two inputs. No condition. -/
import Derived.Test.YtefhbmhanajfoaaSha
namespace Go.Proofs.Ytefhbmhanajfoaa.Sha
theorem pad_nil : pad [] = 128 :: List.replicate 63 0 := by decide +kernel
theorem sum_nil : sum [] = [227, 176, 196, 66, 152, 252, 28, 20, 154, 251, 244, 200, 153, 111, 185, 36, 39, 174, 65, 228, 100, 155, 147, 76, 164, 149, 153, 27, 120, 82, 184, 85] := by decide +kernel
theorem sum_abc0 : (sum [97, 98, 99]).getD 0 0 = 186 := by decide +kernel
theorem sum_abc31 : (sum [97, 98, 99]).getD 31 0 = 173 := by decide +kernel
end Go.Proofs.Ytefhbmhanajfoaa.Sha
