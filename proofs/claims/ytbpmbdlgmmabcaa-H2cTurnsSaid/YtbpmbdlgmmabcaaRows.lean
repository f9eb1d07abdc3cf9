/-
  No cell of these rows narrows 'for every input' (looked for: loops, veiled, ifaces, maps, wideKeys, modest, calm, conditions, laid).
  DERIVED. THE GIVEN ROWS OF THIS SEAT. 14 by the template 'for every input the law returns true; each argument reads behind the call as it read before'; 0 by the template 'total and deterministic' (their statements: YtbpmbdlgmmabcaaTotals.lean).
  GIVEN WITH THE SEED: the statements are not yours to turn. If you find one false, say at which input.
  Laid BY PROGRAM, IN A SANDBOX (cutbox-rows.mjs): the forced cells as the released guide's own fill.sh prints them over the translation e79b00038c655bc1… (all of the seat's roots in one cut). By AI agents, Wed Nov 11 2026. No macro, syntax, notation, axiom, sorry.
-/
import Derived.Test.YtbpmbdlgmmabcaaChecked
import GoSem.Claim
import GoSem.ClaimJoined
import GoSem.ClaimMapViews
import Derived.JoinedTies
import Derived.KernelRfl
namespace Go.Proofs.Ytbpmbdlgmmabcaa
/- THE CELL 'sum', in the pinned program and in every row, IS THE sha256 OF THE DUMP (.gsa) THAT YtbpmbdlgmmabcaaProg.lean LOADS. Nothing in Lean hashes anything: it is a label: what it is worth is what the hold of that sum in a sandbox is worth. -/
noncomputable def Try.pinned : Pinned := { name := "ytbpmbdlgmmabcaa", sum := "e79b00038c655bc158c700f7ebb0d034a7bb3dd77b211978c8c6039cd8b42b24", checked := Try.checked }
namespace Rows
def none {H : Type} : Left H := { results := [], args := [] }

/-- 'sigillaw08.Fp2rootBack': WHATEVER THE INPUT: true; the input reads as it did. -/
def fp2rootBackSpec : ChangeSpec := { name := "fp2rootBack", fn := fun _ => fun
  | [d] => { results := [.lit (.bool true)], args := [d] }
  | _ => none }
def fp2rootBackRow : OpenClaim := { program := "ytbpmbdlgmmabcaa", sum := "e79b00038c655bc158c700f7ebb0d034a7bb3dd77b211978c8c6039cd8b42b24", func := "sigil/sigillaw08.Fp2rootBack", spec := "fp2rootBack", inPlace := ["math/bits.Sub64", "math/bits.Add64"], unfollowed := true, recurses := true, apart := false }
def Fp2rootBackSaid : Prop := fp2rootBackRow.holds Try.pinned (OpenSpec.ofChange fp2rootBackSpec)

/-- ITS FALSE NEIGHBOUR: 'it returns false'. Refute it at one input. -/
def fp2rootBackWrong : ChangeSpec := { name := "fp2rootBack", fn := fun _ => fun
  | [d] => { results := [.lit (.bool false)], args := [d] }
  | _ => none }
def Fp2rootBackWrongFalsely : Prop := fp2rootBackRow.holds Try.pinned (OpenSpec.ofChange fp2rootBackWrong)

/-- 'sigillaw08.Fp2rootProducts': WHATEVER THE INPUT: true; the input reads as it did. -/
def fp2rootProductsSpec : ChangeSpec := { name := "fp2rootProducts", fn := fun _ => fun
  | [d1, d2] => { results := [.lit (.bool true)], args := [d1, d2] }
  | _ => none }
def fp2rootProductsRow : OpenClaim := { program := "ytbpmbdlgmmabcaa", sum := "e79b00038c655bc158c700f7ebb0d034a7bb3dd77b211978c8c6039cd8b42b24", func := "sigil/sigillaw08.Fp2rootProducts", spec := "fp2rootProducts", inPlace := ["math/bits.Sub64", "math/bits.Add64"], unfollowed := true, recurses := true, apart := false }
def Fp2rootProductsSaid : Prop := fp2rootProductsRow.holds Try.pinned (OpenSpec.ofChange fp2rootProductsSpec)

/-- ITS FALSE NEIGHBOUR: 'it returns false'. Refute it at one input. -/
def fp2rootProductsWrong : ChangeSpec := { name := "fp2rootProducts", fn := fun _ => fun
  | [d1, d2] => { results := [.lit (.bool false)], args := [d1, d2] }
  | _ => none }
def Fp2rootProductsWrongFalsely : Prop := fp2rootProductsRow.holds Try.pinned (OpenSpec.ofChange fp2rootProductsWrong)

/-- 'sigillaw08.Fp2rootNorms': WHATEVER THE INPUT: true; the input reads as it did. -/
def fp2rootNormsSpec : ChangeSpec := { name := "fp2rootNorms", fn := fun _ => fun
  | [d] => { results := [.lit (.bool true)], args := [d] }
  | _ => none }
def fp2rootNormsRow : OpenClaim := { program := "ytbpmbdlgmmabcaa", sum := "e79b00038c655bc158c700f7ebb0d034a7bb3dd77b211978c8c6039cd8b42b24", func := "sigil/sigillaw08.Fp2rootNorms", spec := "fp2rootNorms", inPlace := ["math/bits.Sub64", "math/bits.Add64"], unfollowed := true, recurses := true, apart := false }
def Fp2rootNormsSaid : Prop := fp2rootNormsRow.holds Try.pinned (OpenSpec.ofChange fp2rootNormsSpec)

/-- ITS FALSE NEIGHBOUR: 'it returns false'. Refute it at one input. -/
def fp2rootNormsWrong : ChangeSpec := { name := "fp2rootNorms", fn := fun _ => fun
  | [d] => { results := [.lit (.bool false)], args := [d] }
  | _ => none }
def Fp2rootNormsWrongFalsely : Prop := fp2rootNormsRow.holds Try.pinned (OpenSpec.ofChange fp2rootNormsWrong)

/-- 'sigillaw08.Fp2rootSides': WHATEVER THE INPUT: true; the input reads as it did. -/
def fp2rootSidesSpec : ChangeSpec := { name := "fp2rootSides", fn := fun _ => fun
  | [d] => { results := [.lit (.bool true)], args := [d] }
  | _ => none }
def fp2rootSidesRow : OpenClaim := { program := "ytbpmbdlgmmabcaa", sum := "e79b00038c655bc158c700f7ebb0d034a7bb3dd77b211978c8c6039cd8b42b24", func := "sigil/sigillaw08.Fp2rootSides", spec := "fp2rootSides", inPlace := ["math/bits.Sub64", "math/bits.Add64"], unfollowed := true, recurses := true, apart := false }
def Fp2rootSidesSaid : Prop := fp2rootSidesRow.holds Try.pinned (OpenSpec.ofChange fp2rootSidesSpec)

/-- ITS FALSE NEIGHBOUR: 'it returns false'. Refute it at one input. -/
def fp2rootSidesWrong : ChangeSpec := { name := "fp2rootSides", fn := fun _ => fun
  | [d] => { results := [.lit (.bool false)], args := [d] }
  | _ => none }
def Fp2rootSidesWrongFalsely : Prop := fp2rootSidesRow.holds Try.pinned (OpenSpec.ofChange fp2rootSidesWrong)

/-- 'sigillaw18.SswuLinear': WHATEVER THE INPUT: true; the input reads as it did. -/
def sswuLinearSpec : ChangeSpec := { name := "sswuLinear", fn := fun _ => fun
  | [d1, d2, d3] => { results := [.lit (.bool true)], args := [d1, d2, d3] }
  | _ => none }
def sswuLinearRow : OpenClaim := { program := "ytbpmbdlgmmabcaa", sum := "e79b00038c655bc158c700f7ebb0d034a7bb3dd77b211978c8c6039cd8b42b24", func := "sigil/sigillaw18.SswuLinear", spec := "sswuLinear", inPlace := ["math/bits.Sub64", "math/bits.Add64"], unfollowed := true, recurses := true, apart := false }
def SswuLinearSaid : Prop := sswuLinearRow.holds Try.pinned (OpenSpec.ofChange sswuLinearSpec)

/-- ITS FALSE NEIGHBOUR: 'it returns false'. Refute it at one input. -/
def sswuLinearWrong : ChangeSpec := { name := "sswuLinear", fn := fun _ => fun
  | [d1, d2, d3] => { results := [.lit (.bool false)], args := [d1, d2, d3] }
  | _ => none }
def SswuLinearWrongFalsely : Prop := sswuLinearRow.holds Try.pinned (OpenSpec.ofChange sswuLinearWrong)

/-- 'sigillaw08.Fp2rootTells': WHATEVER THE INPUT: true; the input reads as it did. -/
def fp2rootTellsSpec : ChangeSpec := { name := "fp2rootTells", fn := fun _ => fun
  | [d] => { results := [.lit (.bool true)], args := [d] }
  | _ => none }
def fp2rootTellsRow : OpenClaim := { program := "ytbpmbdlgmmabcaa", sum := "e79b00038c655bc158c700f7ebb0d034a7bb3dd77b211978c8c6039cd8b42b24", func := "sigil/sigillaw08.Fp2rootTells", spec := "fp2rootTells", inPlace := ["math/bits.Sub64", "math/bits.Add64"], unfollowed := true, recurses := true, named := ["math/bits.divideError", "math/bits.overflowError"], apart := false }
def Fp2rootTellsSaid : Prop := fp2rootTellsRow.holds Try.pinned (OpenSpec.ofChange fp2rootTellsSpec)

/-- ITS FALSE NEIGHBOUR: 'it returns false'. Refute it at one input. -/
def fp2rootTellsWrong : ChangeSpec := { name := "fp2rootTells", fn := fun _ => fun
  | [d] => { results := [.lit (.bool false)], args := [d] }
  | _ => none }
def Fp2rootTellsWrongFalsely : Prop := fp2rootTellsRow.holds Try.pinned (OpenSpec.ofChange fp2rootTellsWrong)

/-- 'sigillaw18.SswuCurves': WHATEVER THE INPUT: true; the input reads as it did. -/
def sswuCurvesSpec : ChangeSpec := { name := "sswuCurves", fn := fun _ => fun
  | [d] => { results := [.lit (.bool true)], args := [d] }
  | _ => none }
def sswuCurvesRow : OpenClaim := { program := "ytbpmbdlgmmabcaa", sum := "e79b00038c655bc158c700f7ebb0d034a7bb3dd77b211978c8c6039cd8b42b24", func := "sigil/sigillaw18.SswuCurves", spec := "sswuCurves", inPlace := ["math/bits.Sub64", "math/bits.Add64"], unfollowed := true, recurses := true, apart := false }
def SswuCurvesSaid : Prop := sswuCurvesRow.holds Try.pinned (OpenSpec.ofChange sswuCurvesSpec)

/-- ITS FALSE NEIGHBOUR: 'it returns false'. Refute it at one input. -/
def sswuCurvesWrong : ChangeSpec := { name := "sswuCurves", fn := fun _ => fun
  | [d] => { results := [.lit (.bool false)], args := [d] }
  | _ => none }
def SswuCurvesWrongFalsely : Prop := sswuCurvesRow.holds Try.pinned (OpenSpec.ofChange sswuCurvesWrong)

/-- 'sigillaw18.SswuTurns': WHATEVER THE INPUT: true; the input reads as it did. -/
def sswuTurnsSpec : ChangeSpec := { name := "sswuTurns", fn := fun _ => fun
  | [d] => { results := [.lit (.bool true)], args := [d] }
  | _ => none }
def sswuTurnsRow : OpenClaim := { program := "ytbpmbdlgmmabcaa", sum := "e79b00038c655bc158c700f7ebb0d034a7bb3dd77b211978c8c6039cd8b42b24", func := "sigil/sigillaw18.SswuTurns", spec := "sswuTurns", inPlace := ["math/bits.Sub64", "math/bits.Add64"], unfollowed := true, recurses := true, apart := false }
def SswuTurnsSaid : Prop := sswuTurnsRow.holds Try.pinned (OpenSpec.ofChange sswuTurnsSpec)

/-- ITS FALSE NEIGHBOUR: 'it returns false'. Refute it at one input. -/
def sswuTurnsWrong : ChangeSpec := { name := "sswuTurns", fn := fun _ => fun
  | [d] => { results := [.lit (.bool false)], args := [d] }
  | _ => none }
def SswuTurnsWrongFalsely : Prop := sswuTurnsRow.holds Try.pinned (OpenSpec.ofChange sswuTurnsWrong)

/-- 'sigillaw18.SswuSums': WHATEVER THE INPUT: true; the input reads as it did. -/
def sswuSumsSpec : ChangeSpec := { name := "sswuSums", fn := fun _ => fun
  | [d1, d2] => { results := [.lit (.bool true)], args := [d1, d2] }
  | _ => none }
def sswuSumsRow : OpenClaim := { program := "ytbpmbdlgmmabcaa", sum := "e79b00038c655bc158c700f7ebb0d034a7bb3dd77b211978c8c6039cd8b42b24", func := "sigil/sigillaw18.SswuSums", spec := "sswuSums", inPlace := ["math/bits.Sub64", "math/bits.Add64"], unfollowed := true, recurses := true, apart := false }
def SswuSumsSaid : Prop := sswuSumsRow.holds Try.pinned (OpenSpec.ofChange sswuSumsSpec)

/-- ITS FALSE NEIGHBOUR: 'it returns false'. Refute it at one input. -/
def sswuSumsWrong : ChangeSpec := { name := "sswuSums", fn := fun _ => fun
  | [d1, d2] => { results := [.lit (.bool false)], args := [d1, d2] }
  | _ => none }
def SswuSumsWrongFalsely : Prop := sswuSumsRow.holds Try.pinned (OpenSpec.ofChange sswuSumsWrong)

/-- 'sigillaw18.SswuMaps': WHATEVER THE INPUT: true; the input reads as it did. -/
def sswuMapsSpec : ChangeSpec := { name := "sswuMaps", fn := fun _ => fun
  | [d] => { results := [.lit (.bool true)], args := [d] }
  | _ => none }
def sswuMapsRow : OpenClaim := { program := "ytbpmbdlgmmabcaa", sum := "e79b00038c655bc158c700f7ebb0d034a7bb3dd77b211978c8c6039cd8b42b24", func := "sigil/sigillaw18.SswuMaps", spec := "sswuMaps", inPlace := ["math/bits.Sub64", "math/bits.Add64"], unfollowed := true, recurses := true, named := ["math/bits.divideError", "math/bits.overflowError"], apart := false }
def SswuMapsSaid : Prop := sswuMapsRow.holds Try.pinned (OpenSpec.ofChange sswuMapsSpec)

/-- ITS FALSE NEIGHBOUR: 'it returns false'. Refute it at one input. -/
def sswuMapsWrong : ChangeSpec := { name := "sswuMaps", fn := fun _ => fun
  | [d] => { results := [.lit (.bool false)], args := [d] }
  | _ => none }
def SswuMapsWrongFalsely : Prop := sswuMapsRow.holds Try.pinned (OpenSpec.ofChange sswuMapsWrong)

/-- 'sigillaw18.SswuIsos': WHATEVER THE INPUT: true; the input reads as it did. -/
def sswuIsosSpec : ChangeSpec := { name := "sswuIsos", fn := fun _ => fun
  | [d1, d2] => { results := [.lit (.bool true)], args := [d1, d2] }
  | _ => none }
def sswuIsosRow : OpenClaim := { program := "ytbpmbdlgmmabcaa", sum := "e79b00038c655bc158c700f7ebb0d034a7bb3dd77b211978c8c6039cd8b42b24", func := "sigil/sigillaw18.SswuIsos", spec := "sswuIsos", inPlace := ["math/bits.Sub64", "math/bits.Add64"], unfollowed := true, recurses := true, named := ["math/bits.divideError", "math/bits.overflowError"], apart := false }
def SswuIsosSaid : Prop := sswuIsosRow.holds Try.pinned (OpenSpec.ofChange sswuIsosSpec)

/-- ITS FALSE NEIGHBOUR: 'it returns false'. Refute it at one input. -/
def sswuIsosWrong : ChangeSpec := { name := "sswuIsos", fn := fun _ => fun
  | [d1, d2] => { results := [.lit (.bool false)], args := [d1, d2] }
  | _ => none }
def SswuIsosWrongFalsely : Prop := sswuIsosRow.holds Try.pinned (OpenSpec.ofChange sswuIsosWrong)

/-- 'sigillaw19.H2cParts': WHATEVER THE INPUT: true; the input reads as it did. -/
def h2cPartsSpec : ChangeSpec := { name := "h2cParts", fn := fun _ => fun
  | [d1, d2] => { results := [.lit (.bool true)], args := [d1, d2] }
  | _ => none }
def h2cPartsRow : OpenClaim := { program := "ytbpmbdlgmmabcaa", sum := "e79b00038c655bc158c700f7ebb0d034a7bb3dd77b211978c8c6039cd8b42b24", func := "sigil/sigillaw19.H2cParts", spec := "h2cParts", inPlace := ["math/bits.Add64", "math/bits.Sub64"], unfollowed := true, recurses := true, named := ["math/bits.divideError", "math/bits.overflowError"], apart := false }
def H2cPartsSaid : Prop := h2cPartsRow.holds Try.pinned (OpenSpec.ofChange h2cPartsSpec)

/-- ITS FALSE NEIGHBOUR: 'it returns false'. Refute it at one input. -/
def h2cPartsWrong : ChangeSpec := { name := "h2cParts", fn := fun _ => fun
  | [d1, d2] => { results := [.lit (.bool false)], args := [d1, d2] }
  | _ => none }
def H2cPartsWrongFalsely : Prop := h2cPartsRow.holds Try.pinned (OpenSpec.ofChange h2cPartsWrong)

/-- 'sigillaw19.H2cOrders': WHATEVER THE INPUT: true; the input reads as it did. -/
def h2cOrdersSpec : ChangeSpec := { name := "h2cOrders", fn := fun _ => fun
  | [d1, d2] => { results := [.lit (.bool true)], args := [d1, d2] }
  | _ => none }
def h2cOrdersRow : OpenClaim := { program := "ytbpmbdlgmmabcaa", sum := "e79b00038c655bc158c700f7ebb0d034a7bb3dd77b211978c8c6039cd8b42b24", func := "sigil/sigillaw19.H2cOrders", spec := "h2cOrders", inPlace := ["math/bits.Add64", "math/bits.Sub64"], unfollowed := true, recurses := true, named := ["math/bits.divideError", "math/bits.overflowError"], apart := false }
def H2cOrdersSaid : Prop := h2cOrdersRow.holds Try.pinned (OpenSpec.ofChange h2cOrdersSpec)

/-- ITS FALSE NEIGHBOUR: 'it returns false'. Refute it at one input. -/
def h2cOrdersWrong : ChangeSpec := { name := "h2cOrders", fn := fun _ => fun
  | [d1, d2] => { results := [.lit (.bool false)], args := [d1, d2] }
  | _ => none }
def H2cOrdersWrongFalsely : Prop := h2cOrdersRow.holds Try.pinned (OpenSpec.ofChange h2cOrdersWrong)

/-- 'sigillaw19.H2cTurns': WHATEVER THE INPUT: true; the input reads as it did. -/
def h2cTurnsSpec : ChangeSpec := { name := "h2cTurns", fn := fun _ => fun
  | [d1, d2] => { results := [.lit (.bool true)], args := [d1, d2] }
  | _ => none }
def h2cTurnsRow : OpenClaim := { program := "ytbpmbdlgmmabcaa", sum := "e79b00038c655bc158c700f7ebb0d034a7bb3dd77b211978c8c6039cd8b42b24", func := "sigil/sigillaw19.H2cTurns", spec := "h2cTurns", inPlace := ["math/bits.Add64", "math/bits.Sub64"], unfollowed := true, recurses := true, named := ["math/bits.divideError", "math/bits.overflowError"], apart := false }
def H2cTurnsSaid : Prop := h2cTurnsRow.holds Try.pinned (OpenSpec.ofChange h2cTurnsSpec)

/-- ITS FALSE NEIGHBOUR: 'it returns false'. Refute it at one input. -/
def h2cTurnsWrong : ChangeSpec := { name := "h2cTurns", fn := fun _ => fun
  | [d1, d2] => { results := [.lit (.bool false)], args := [d1, d2] }
  | _ => none }
def H2cTurnsWrongFalsely : Prop := h2cTurnsRow.holds Try.pinned (OpenSpec.ofChange h2cTurnsWrong)

/- THE SECOND FORM. 'bulk': how many values and letters a reading holds, each counted each time it is reached (what is shared counts as often as it is met; a slice's spare places count too). A statement '..UptoSaid' is the law's where the arguments, and the package variables that the reading takes, are together of bulk at most 1048576: NARROWER than '..Said'. Prove '..Said' where nothing that the law and all that it calls make is longer than what came in: it says more and counts as full. Else prove '..UptoSaid'. A law counts once. -/
mutual
def uptoBulk {H : Type} : DataW H → Nat
  | .lit (.string bytes) => bytes.length + 1
  | .lit _ => 1
  | .nil => 1
  | .ptr d => uptoBulk d + 1
  | .slice elems spare => uptoBulkAll elems + uptoBulkAll spare + 1
  | .agg parts => uptoBulkAll parts + 1
  | .iface _ d => uptoBulk d + 1
  | .map entries => uptoBulkEntries entries + 1
  | .held _ => 1
def uptoBulkAll {H : Type} : List (DataW H) → Nat
  | [] => 0
  | d :: r => uptoBulk d + uptoBulkAll r
def uptoBulkEntries {H : Type} : List (Lit × DataW H) → Nat
  | [] => 0
  | x :: r => uptoBulkEntry x + uptoBulkEntries r
def uptoBulkEntry {H : Type} : Lit × DataW H → Nat
  | (.string bytes, d) => bytes.length + uptoBulk d + 1
  | (_, d) => uptoBulk d + 1
 end
def uptoSmall : (H : Type) → List (DataW H) → Bool := fun _ ds => decide (uptoBulkAll ds ≤ 1048576)
def OpenSpec.upto (s : _root_.Go.ChangeSpec) : _root_.Go.OpenSpec := { _root_.Go.OpenSpec.ofChange s with cond := some uptoSmall }

/-- 'sigillaw08.Fp2rootBack', WHERE WHAT IT READS IS OF BULK AT MOST 1048576: true; the input reads as it did. -/
def fp2rootBackUptoRow : OpenClaim := { program := "ytbpmbdlgmmabcaa", sum := "e79b00038c655bc158c700f7ebb0d034a7bb3dd77b211978c8c6039cd8b42b24", func := "sigil/sigillaw08.Fp2rootBack", spec := "fp2rootBack", inPlace := ["math/bits.Sub64", "math/bits.Add64"], unfollowed := true, recurses := true, apart := false, narrowed := true }
def Fp2rootBackUptoSaid : Prop := fp2rootBackUptoRow.holds Try.pinned (OpenSpec.upto fp2rootBackSpec)

/-- 'sigillaw08.Fp2rootProducts', WHERE WHAT IT READS IS OF BULK AT MOST 1048576: true; the input reads as it did. -/
def fp2rootProductsUptoRow : OpenClaim := { program := "ytbpmbdlgmmabcaa", sum := "e79b00038c655bc158c700f7ebb0d034a7bb3dd77b211978c8c6039cd8b42b24", func := "sigil/sigillaw08.Fp2rootProducts", spec := "fp2rootProducts", inPlace := ["math/bits.Sub64", "math/bits.Add64"], unfollowed := true, recurses := true, apart := false, narrowed := true }
def Fp2rootProductsUptoSaid : Prop := fp2rootProductsUptoRow.holds Try.pinned (OpenSpec.upto fp2rootProductsSpec)

/-- 'sigillaw08.Fp2rootNorms', WHERE WHAT IT READS IS OF BULK AT MOST 1048576: true; the input reads as it did. -/
def fp2rootNormsUptoRow : OpenClaim := { program := "ytbpmbdlgmmabcaa", sum := "e79b00038c655bc158c700f7ebb0d034a7bb3dd77b211978c8c6039cd8b42b24", func := "sigil/sigillaw08.Fp2rootNorms", spec := "fp2rootNorms", inPlace := ["math/bits.Sub64", "math/bits.Add64"], unfollowed := true, recurses := true, apart := false, narrowed := true }
def Fp2rootNormsUptoSaid : Prop := fp2rootNormsUptoRow.holds Try.pinned (OpenSpec.upto fp2rootNormsSpec)

/-- 'sigillaw08.Fp2rootSides', WHERE WHAT IT READS IS OF BULK AT MOST 1048576: true; the input reads as it did. -/
def fp2rootSidesUptoRow : OpenClaim := { program := "ytbpmbdlgmmabcaa", sum := "e79b00038c655bc158c700f7ebb0d034a7bb3dd77b211978c8c6039cd8b42b24", func := "sigil/sigillaw08.Fp2rootSides", spec := "fp2rootSides", inPlace := ["math/bits.Sub64", "math/bits.Add64"], unfollowed := true, recurses := true, apart := false, narrowed := true }
def Fp2rootSidesUptoSaid : Prop := fp2rootSidesUptoRow.holds Try.pinned (OpenSpec.upto fp2rootSidesSpec)

/-- 'sigillaw18.SswuLinear', WHERE WHAT IT READS IS OF BULK AT MOST 1048576: true; the input reads as it did. -/
def sswuLinearUptoRow : OpenClaim := { program := "ytbpmbdlgmmabcaa", sum := "e79b00038c655bc158c700f7ebb0d034a7bb3dd77b211978c8c6039cd8b42b24", func := "sigil/sigillaw18.SswuLinear", spec := "sswuLinear", inPlace := ["math/bits.Sub64", "math/bits.Add64"], unfollowed := true, recurses := true, apart := false, narrowed := true }
def SswuLinearUptoSaid : Prop := sswuLinearUptoRow.holds Try.pinned (OpenSpec.upto sswuLinearSpec)

/-- 'sigillaw08.Fp2rootTells', WHERE WHAT IT READS IS OF BULK AT MOST 1048576: true; the input reads as it did. -/
def fp2rootTellsUptoRow : OpenClaim := { program := "ytbpmbdlgmmabcaa", sum := "e79b00038c655bc158c700f7ebb0d034a7bb3dd77b211978c8c6039cd8b42b24", func := "sigil/sigillaw08.Fp2rootTells", spec := "fp2rootTells", inPlace := ["math/bits.Sub64", "math/bits.Add64"], unfollowed := true, recurses := true, named := ["math/bits.divideError", "math/bits.overflowError"], apart := false, narrowed := true }
def Fp2rootTellsUptoSaid : Prop := fp2rootTellsUptoRow.holds Try.pinned (OpenSpec.upto fp2rootTellsSpec)

/-- 'sigillaw18.SswuCurves', WHERE WHAT IT READS IS OF BULK AT MOST 1048576: true; the input reads as it did. -/
def sswuCurvesUptoRow : OpenClaim := { program := "ytbpmbdlgmmabcaa", sum := "e79b00038c655bc158c700f7ebb0d034a7bb3dd77b211978c8c6039cd8b42b24", func := "sigil/sigillaw18.SswuCurves", spec := "sswuCurves", inPlace := ["math/bits.Sub64", "math/bits.Add64"], unfollowed := true, recurses := true, apart := false, narrowed := true }
def SswuCurvesUptoSaid : Prop := sswuCurvesUptoRow.holds Try.pinned (OpenSpec.upto sswuCurvesSpec)

/-- 'sigillaw18.SswuTurns', WHERE WHAT IT READS IS OF BULK AT MOST 1048576: true; the input reads as it did. -/
def sswuTurnsUptoRow : OpenClaim := { program := "ytbpmbdlgmmabcaa", sum := "e79b00038c655bc158c700f7ebb0d034a7bb3dd77b211978c8c6039cd8b42b24", func := "sigil/sigillaw18.SswuTurns", spec := "sswuTurns", inPlace := ["math/bits.Sub64", "math/bits.Add64"], unfollowed := true, recurses := true, apart := false, narrowed := true }
def SswuTurnsUptoSaid : Prop := sswuTurnsUptoRow.holds Try.pinned (OpenSpec.upto sswuTurnsSpec)

/-- 'sigillaw18.SswuSums', WHERE WHAT IT READS IS OF BULK AT MOST 1048576: true; the input reads as it did. -/
def sswuSumsUptoRow : OpenClaim := { program := "ytbpmbdlgmmabcaa", sum := "e79b00038c655bc158c700f7ebb0d034a7bb3dd77b211978c8c6039cd8b42b24", func := "sigil/sigillaw18.SswuSums", spec := "sswuSums", inPlace := ["math/bits.Sub64", "math/bits.Add64"], unfollowed := true, recurses := true, apart := false, narrowed := true }
def SswuSumsUptoSaid : Prop := sswuSumsUptoRow.holds Try.pinned (OpenSpec.upto sswuSumsSpec)

/-- 'sigillaw18.SswuMaps', WHERE WHAT IT READS IS OF BULK AT MOST 1048576: true; the input reads as it did. -/
def sswuMapsUptoRow : OpenClaim := { program := "ytbpmbdlgmmabcaa", sum := "e79b00038c655bc158c700f7ebb0d034a7bb3dd77b211978c8c6039cd8b42b24", func := "sigil/sigillaw18.SswuMaps", spec := "sswuMaps", inPlace := ["math/bits.Sub64", "math/bits.Add64"], unfollowed := true, recurses := true, named := ["math/bits.divideError", "math/bits.overflowError"], apart := false, narrowed := true }
def SswuMapsUptoSaid : Prop := sswuMapsUptoRow.holds Try.pinned (OpenSpec.upto sswuMapsSpec)

/-- 'sigillaw18.SswuIsos', WHERE WHAT IT READS IS OF BULK AT MOST 1048576: true; the input reads as it did. -/
def sswuIsosUptoRow : OpenClaim := { program := "ytbpmbdlgmmabcaa", sum := "e79b00038c655bc158c700f7ebb0d034a7bb3dd77b211978c8c6039cd8b42b24", func := "sigil/sigillaw18.SswuIsos", spec := "sswuIsos", inPlace := ["math/bits.Sub64", "math/bits.Add64"], unfollowed := true, recurses := true, named := ["math/bits.divideError", "math/bits.overflowError"], apart := false, narrowed := true }
def SswuIsosUptoSaid : Prop := sswuIsosUptoRow.holds Try.pinned (OpenSpec.upto sswuIsosSpec)

/-- 'sigillaw19.H2cParts', WHERE WHAT IT READS IS OF BULK AT MOST 1048576: true; the input reads as it did. -/
def h2cPartsUptoRow : OpenClaim := { program := "ytbpmbdlgmmabcaa", sum := "e79b00038c655bc158c700f7ebb0d034a7bb3dd77b211978c8c6039cd8b42b24", func := "sigil/sigillaw19.H2cParts", spec := "h2cParts", inPlace := ["math/bits.Add64", "math/bits.Sub64"], unfollowed := true, recurses := true, named := ["math/bits.divideError", "math/bits.overflowError"], apart := false, narrowed := true }
def H2cPartsUptoSaid : Prop := h2cPartsUptoRow.holds Try.pinned (OpenSpec.upto h2cPartsSpec)

/-- 'sigillaw19.H2cOrders', WHERE WHAT IT READS IS OF BULK AT MOST 1048576: true; the input reads as it did. -/
def h2cOrdersUptoRow : OpenClaim := { program := "ytbpmbdlgmmabcaa", sum := "e79b00038c655bc158c700f7ebb0d034a7bb3dd77b211978c8c6039cd8b42b24", func := "sigil/sigillaw19.H2cOrders", spec := "h2cOrders", inPlace := ["math/bits.Add64", "math/bits.Sub64"], unfollowed := true, recurses := true, named := ["math/bits.divideError", "math/bits.overflowError"], apart := false, narrowed := true }
def H2cOrdersUptoSaid : Prop := h2cOrdersUptoRow.holds Try.pinned (OpenSpec.upto h2cOrdersSpec)

/-- 'sigillaw19.H2cTurns', WHERE WHAT IT READS IS OF BULK AT MOST 1048576: true; the input reads as it did. -/
def h2cTurnsUptoRow : OpenClaim := { program := "ytbpmbdlgmmabcaa", sum := "e79b00038c655bc158c700f7ebb0d034a7bb3dd77b211978c8c6039cd8b42b24", func := "sigil/sigillaw19.H2cTurns", spec := "h2cTurns", inPlace := ["math/bits.Add64", "math/bits.Sub64"], unfollowed := true, recurses := true, named := ["math/bits.divideError", "math/bits.overflowError"], apart := false, narrowed := true }
def H2cTurnsUptoSaid : Prop := h2cTurnsUptoRow.holds Try.pinned (OpenSpec.upto h2cTurnsSpec)

end Rows
end Go.Proofs.Ytbpmbdlgmmabcaa
