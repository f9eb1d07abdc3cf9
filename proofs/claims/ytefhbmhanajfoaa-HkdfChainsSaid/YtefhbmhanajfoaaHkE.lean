/- Keyed sums at two inputs. No condition. -/
import Derived.Test.YtefhbmhanajfoaaHk
namespace Go.Proofs.Ytefhbmhanajfoaa.L
theorem mac_n0 : (mac [] []).getD 0 0 = 182 := by decide +kernel
theorem mac_n1 : (mac [] []).getD 1 0 = 19 := by decide +kernel
theorem mac_k0 : (mac [107, 101, 121] [84, 104, 101, 32, 113, 117, 105, 99, 107, 32, 98, 114, 111, 119, 110, 32, 102, 111, 120, 32, 106, 117, 109, 112, 115, 32, 111, 118, 101, 114, 32, 116, 104, 101, 32, 108, 97, 122, 121, 32, 100, 111, 103]).getD 0 0 = 247 := by decide +kernel
theorem mac_k1 : (mac [107, 101, 121] [84, 104, 101, 32, 113, 117, 105, 99, 107, 32, 98, 114, 111, 119, 110, 32, 102, 111, 120, 32, 106, 117, 109, 112, 115, 32, 111, 118, 101, 114, 32, 116, 104, 101, 32, 108, 97, 122, 121, 32, 100, 111, 103]).getD 1 0 = 188 := by decide +kernel
end Go.Proofs.Ytefhbmhanajfoaa.L
