/-
  No cell of these rows narrows 'for every input' (looked for: loops, veiled, ifaces, maps, wideKeys, modest, calm, conditions, laid).
  DERIVED. THE GIVEN ROWS OF THIS SEAT. 17 by the template 'for every input the law returns true; each argument reads behind the call as it read before'; 0 by the template 'total and deterministic' (their statements: YtefhbmhanajfoaaTotals.lean).
  GIVEN WITH THE SEED: the statements are not yours to turn. If you find one false, say at which input.
  Laid BY PROGRAM, IN A SANDBOX (cutbox-rows.mjs): the forced cells as the released guide's own fill.sh prints them over the translation 6cca1a7025d5d087… (all of the seat's roots in one cut). By AI agents, Wed Nov 11 2026. No macro, syntax, notation, axiom, sorry.
-/
import Derived.Test.YtefhbmhanajfoaaChecked
import GoSem.Claim
import GoSem.ClaimJoined
import GoSem.ClaimMapViews
import Derived.JoinedTies
import Derived.KernelRfl
namespace Go.Proofs.Ytefhbmhanajfoaa
/- THE CELL 'sum', in the pinned program and in every row, IS THE sha256 OF THE DUMP (.gsa) THAT YtefhbmhanajfoaaProg.lean LOADS. Nothing in Lean hashes anything: it is a label: what it is worth is what the hold of that sum in a sandbox is worth. -/
noncomputable def Try.pinned : Pinned := { name := "ytefhbmhanajfoaa", sum := "6cca1a7025d5d087015ea9a489a3ec9b120ec022a5da415b67ffc9b8c628909e", checked := Try.checked }
namespace Rows
def none {H : Type} : Left H := { results := [], args := [] }

/-- 'sigillaw01.ShaSums': WHATEVER THE INPUT: true; the input reads as it did. -/
def shaSumsSpec : ChangeSpec := { name := "shaSums", fn := fun _ => fun
  | [d] => { results := [.lit (.bool true)], args := [d] }
  | _ => none }
def shaSumsRow : OpenClaim := { program := "ytefhbmhanajfoaa", sum := "6cca1a7025d5d087015ea9a489a3ec9b120ec022a5da415b67ffc9b8c628909e", func := "sigil/sigillaw01.ShaSums", spec := "shaSums", unfollowed := true, recurses := true, apart := false }
def ShaSumsSaid : Prop := shaSumsRow.holds Try.pinned (OpenSpec.ofChange shaSumsSpec)

/-- ITS FALSE NEIGHBOUR: 'it returns false'. Refute it at one input. -/
def shaSumsWrong : ChangeSpec := { name := "shaSums", fn := fun _ => fun
  | [d] => { results := [.lit (.bool false)], args := [d] }
  | _ => none }
def ShaSumsWrongFalsely : Prop := shaSumsRow.holds Try.pinned (OpenSpec.ofChange shaSumsWrong)

/-- 'sigillaw01.ShaSteps': WHATEVER THE INPUT: true; the input reads as it did. -/
def shaStepsSpec : ChangeSpec := { name := "shaSteps", fn := fun _ => fun
  | [d1, d2] => { results := [.lit (.bool true)], args := [d1, d2] }
  | _ => none }
def shaStepsRow : OpenClaim := { program := "ytefhbmhanajfoaa", sum := "6cca1a7025d5d087015ea9a489a3ec9b120ec022a5da415b67ffc9b8c628909e", func := "sigil/sigillaw01.ShaSteps", spec := "shaSteps", unfollowed := true, recurses := true, apart := false }
def ShaStepsSaid : Prop := shaStepsRow.holds Try.pinned (OpenSpec.ofChange shaStepsSpec)

/-- ITS FALSE NEIGHBOUR: 'it returns false'. Refute it at one input. -/
def shaStepsWrong : ChangeSpec := { name := "shaSteps", fn := fun _ => fun
  | [d1, d2] => { results := [.lit (.bool false)], args := [d1, d2] }
  | _ => none }
def ShaStepsWrongFalsely : Prop := shaStepsRow.holds Try.pinned (OpenSpec.ofChange shaStepsWrong)

/-- 'sigillaw01.ShaPads': WHATEVER THE INPUT: true; the input reads as it did. -/
def shaPadsSpec : ChangeSpec := { name := "shaPads", fn := fun _ => fun
  | [d] => { results := [.lit (.bool true)], args := [d] }
  | _ => none }
def shaPadsRow : OpenClaim := { program := "ytefhbmhanajfoaa", sum := "6cca1a7025d5d087015ea9a489a3ec9b120ec022a5da415b67ffc9b8c628909e", func := "sigil/sigillaw01.ShaPads", spec := "shaPads", unfollowed := true, recurses := true, apart := false }
def ShaPadsSaid : Prop := shaPadsRow.holds Try.pinned (OpenSpec.ofChange shaPadsSpec)

/-- ITS FALSE NEIGHBOUR: 'it returns false'. Refute it at one input. -/
def shaPadsWrong : ChangeSpec := { name := "shaPads", fn := fun _ => fun
  | [d] => { results := [.lit (.bool false)], args := [d] }
  | _ => none }
def ShaPadsWrongFalsely : Prop := shaPadsRow.holds Try.pinned (OpenSpec.ofChange shaPadsWrong)

/-- 'sigillaw01.ShaFolds': WHATEVER THE INPUT: true; the input reads as it did. -/
def shaFoldsSpec : ChangeSpec := { name := "shaFolds", fn := fun _ => fun
  | [d] => { results := [.lit (.bool true)], args := [d] }
  | _ => none }
def shaFoldsRow : OpenClaim := { program := "ytefhbmhanajfoaa", sum := "6cca1a7025d5d087015ea9a489a3ec9b120ec022a5da415b67ffc9b8c628909e", func := "sigil/sigillaw01.ShaFolds", spec := "shaFolds", unfollowed := true, recurses := true, apart := false }
def ShaFoldsSaid : Prop := shaFoldsRow.holds Try.pinned (OpenSpec.ofChange shaFoldsSpec)

/-- ITS FALSE NEIGHBOUR: 'it returns false'. Refute it at one input. -/
def shaFoldsWrong : ChangeSpec := { name := "shaFolds", fn := fun _ => fun
  | [d] => { results := [.lit (.bool false)], args := [d] }
  | _ => none }
def ShaFoldsWrongFalsely : Prop := shaFoldsRow.holds Try.pinned (OpenSpec.ofChange shaFoldsWrong)

/-- 'sigillaw01.ShaOwn': WHATEVER THE INPUT: true; the input reads as it did. -/
def shaOwnSpec : ChangeSpec := { name := "shaOwn", fn := fun _ => fun
  | [d] => { results := [.lit (.bool true)], args := [d] }
  | _ => none }
def shaOwnRow : OpenClaim := { program := "ytefhbmhanajfoaa", sum := "6cca1a7025d5d087015ea9a489a3ec9b120ec022a5da415b67ffc9b8c628909e", func := "sigil/sigillaw01.ShaOwn", spec := "shaOwn", unfollowed := true, recurses := true, apart := false }
def ShaOwnSaid : Prop := shaOwnRow.holds Try.pinned (OpenSpec.ofChange shaOwnSpec)

/-- ITS FALSE NEIGHBOUR: 'it returns false'. Refute it at one input. -/
def shaOwnWrong : ChangeSpec := { name := "shaOwn", fn := fun _ => fun
  | [d] => { results := [.lit (.bool false)], args := [d] }
  | _ => none }
def ShaOwnWrongFalsely : Prop := shaOwnRow.holds Try.pinned (OpenSpec.ofChange shaOwnWrong)

/-- 'sigillaw02.HkdfNames': WHATEVER THE INPUT: true; the input reads as it did. -/
def hkdfNamesSpec : ChangeSpec := { name := "hkdfNames", fn := fun _ => fun
  | [] => { results := [.lit (.bool true)], args := [] }
  | _ => none }
def hkdfNamesRow : OpenClaim := { program := "ytefhbmhanajfoaa", sum := "6cca1a7025d5d087015ea9a489a3ec9b120ec022a5da415b67ffc9b8c628909e", func := "sigil/sigillaw02.HkdfNames", spec := "hkdfNames", unfollowed := true, recurses := true, apart := false }
def HkdfNamesSaid : Prop := hkdfNamesRow.holds Try.pinned (OpenSpec.ofChange hkdfNamesSpec)

/-- ITS FALSE NEIGHBOUR: 'it returns false'. Refute it at one input. -/
def hkdfNamesWrong : ChangeSpec := { name := "hkdfNames", fn := fun _ => fun
  | [] => { results := [.lit (.bool false)], args := [] }
  | _ => none }
def HkdfNamesWrongFalsely : Prop := hkdfNamesRow.holds Try.pinned (OpenSpec.ofChange hkdfNamesWrong)

/-- 'sigillaw02.HkdfKeys': WHATEVER THE INPUT: true; the input reads as it did. -/
def hkdfKeysSpec : ChangeSpec := { name := "hkdfKeys", fn := fun _ => fun
  | [d1, d2, d3] => { results := [.lit (.bool true)], args := [d1, d2, d3] }
  | _ => none }
def hkdfKeysRow : OpenClaim := { program := "ytefhbmhanajfoaa", sum := "6cca1a7025d5d087015ea9a489a3ec9b120ec022a5da415b67ffc9b8c628909e", func := "sigil/sigillaw02.HkdfKeys", spec := "hkdfKeys", unfollowed := true, recurses := true, apart := false }
def HkdfKeysSaid : Prop := hkdfKeysRow.holds Try.pinned (OpenSpec.ofChange hkdfKeysSpec)

/-- ITS FALSE NEIGHBOUR: 'it returns false'. Refute it at one input. -/
def hkdfKeysWrong : ChangeSpec := { name := "hkdfKeys", fn := fun _ => fun
  | [d1, d2, d3] => { results := [.lit (.bool false)], args := [d1, d2, d3] }
  | _ => none }
def HkdfKeysWrongFalsely : Prop := hkdfKeysRow.holds Try.pinned (OpenSpec.ofChange hkdfKeysWrong)

/-- 'sigillaw02.HkdfBegins': WHATEVER THE INPUT: true; the input reads as it did. -/
def hkdfBeginsSpec : ChangeSpec := { name := "hkdfBegins", fn := fun _ => fun
  | [d1, d2, d3, d4] => { results := [.lit (.bool true)], args := [d1, d2, d3, d4] }
  | _ => none }
def hkdfBeginsRow : OpenClaim := { program := "ytefhbmhanajfoaa", sum := "6cca1a7025d5d087015ea9a489a3ec9b120ec022a5da415b67ffc9b8c628909e", func := "sigil/sigillaw02.HkdfBegins", spec := "hkdfBegins", unfollowed := true, recurses := true, apart := false }
def HkdfBeginsSaid : Prop := hkdfBeginsRow.holds Try.pinned (OpenSpec.ofChange hkdfBeginsSpec)

/-- ITS FALSE NEIGHBOUR: 'it returns false'. Refute it at one input. -/
def hkdfBeginsWrong : ChangeSpec := { name := "hkdfBegins", fn := fun _ => fun
  | [d1, d2, d3, d4] => { results := [.lit (.bool false)], args := [d1, d2, d3, d4] }
  | _ => none }
def HkdfBeginsWrongFalsely : Prop := hkdfBeginsRow.holds Try.pinned (OpenSpec.ofChange hkdfBeginsWrong)

/-- 'sigillaw02.HkdfChains': WHATEVER THE INPUT: true; the input reads as it did. -/
def hkdfChainsSpec : ChangeSpec := { name := "hkdfChains", fn := fun _ => fun
  | [d1, d2, d3] => { results := [.lit (.bool true)], args := [d1, d2, d3] }
  | _ => none }
def hkdfChainsRow : OpenClaim := { program := "ytefhbmhanajfoaa", sum := "6cca1a7025d5d087015ea9a489a3ec9b120ec022a5da415b67ffc9b8c628909e", func := "sigil/sigillaw02.HkdfChains", spec := "hkdfChains", unfollowed := true, recurses := true, apart := false }
def HkdfChainsSaid : Prop := hkdfChainsRow.holds Try.pinned (OpenSpec.ofChange hkdfChainsSpec)

/-- ITS FALSE NEIGHBOUR: 'it returns false'. Refute it at one input. -/
def hkdfChainsWrong : ChangeSpec := { name := "hkdfChains", fn := fun _ => fun
  | [d1, d2, d3] => { results := [.lit (.bool false)], args := [d1, d2, d3] }
  | _ => none }
def HkdfChainsWrongFalsely : Prop := hkdfChainsRow.holds Try.pinned (OpenSpec.ofChange hkdfChainsWrong)

/-- 'sigillaw02.HkdfTells': WHATEVER THE INPUT: true; the input reads as it did. -/
def hkdfTellsSpec : ChangeSpec := { name := "hkdfTells", fn := fun _ => fun
  | [d1, d2, d3] => { results := [.lit (.bool true)], args := [d1, d2, d3] }
  | _ => none }
def hkdfTellsRow : OpenClaim := { program := "ytefhbmhanajfoaa", sum := "6cca1a7025d5d087015ea9a489a3ec9b120ec022a5da415b67ffc9b8c628909e", func := "sigil/sigillaw02.HkdfTells", spec := "hkdfTells", unfollowed := true, recurses := true, apart := false }
def HkdfTellsSaid : Prop := hkdfTellsRow.holds Try.pinned (OpenSpec.ofChange hkdfTellsSpec)

/-- ITS FALSE NEIGHBOUR: 'it returns false'. Refute it at one input. -/
def hkdfTellsWrong : ChangeSpec := { name := "hkdfTells", fn := fun _ => fun
  | [d1, d2, d3] => { results := [.lit (.bool false)], args := [d1, d2, d3] }
  | _ => none }
def HkdfTellsWrongFalsely : Prop := hkdfTellsRow.holds Try.pinned (OpenSpec.ofChange hkdfTellsWrong)

/-- 'sigillaw03.LimbNames': WHATEVER THE INPUT: true; the input reads as it did. -/
def limbNamesSpec : ChangeSpec := { name := "limbNames", fn := fun _ => fun
  | [] => { results := [.lit (.bool true)], args := [] }
  | _ => none }
def limbNamesRow : OpenClaim := { program := "ytefhbmhanajfoaa", sum := "6cca1a7025d5d087015ea9a489a3ec9b120ec022a5da415b67ffc9b8c628909e", func := "sigil/sigillaw03.LimbNames", spec := "limbNames", inPlace := ["math/bits.Add64", "math/bits.Sub64"], unfollowed := true, recurses := true, named := ["math/bits.divideError", "math/bits.overflowError"], apart := false }
def LimbNamesSaid : Prop := limbNamesRow.holds Try.pinned (OpenSpec.ofChange limbNamesSpec)

/-- ITS FALSE NEIGHBOUR: 'it returns false'. Refute it at one input. -/
def limbNamesWrong : ChangeSpec := { name := "limbNames", fn := fun _ => fun
  | [] => { results := [.lit (.bool false)], args := [] }
  | _ => none }
def LimbNamesWrongFalsely : Prop := limbNamesRow.holds Try.pinned (OpenSpec.ofChange limbNamesWrong)

/-- 'sigillaw03.LimbOctets': WHATEVER THE INPUT: true; the input reads as it did. -/
def limbOctetsSpec : ChangeSpec := { name := "limbOctets", fn := fun _ => fun
  | [d1, d2, d3] => { results := [.lit (.bool true)], args := [d1, d2, d3] }
  | _ => none }
def limbOctetsRow : OpenClaim := { program := "ytefhbmhanajfoaa", sum := "6cca1a7025d5d087015ea9a489a3ec9b120ec022a5da415b67ffc9b8c628909e", func := "sigil/sigillaw03.LimbOctets", spec := "limbOctets", inPlace := ["math/bits.Add64", "math/bits.Sub64"], unfollowed := true, recurses := true, named := ["math/bits.divideError", "math/bits.overflowError"], apart := false }
def LimbOctetsSaid : Prop := limbOctetsRow.holds Try.pinned (OpenSpec.ofChange limbOctetsSpec)

/-- ITS FALSE NEIGHBOUR: 'it returns false'. Refute it at one input. -/
def limbOctetsWrong : ChangeSpec := { name := "limbOctets", fn := fun _ => fun
  | [d1, d2, d3] => { results := [.lit (.bool false)], args := [d1, d2, d3] }
  | _ => none }
def LimbOctetsWrongFalsely : Prop := limbOctetsRow.holds Try.pinned (OpenSpec.ofChange limbOctetsWrong)

/-- 'sigillaw03.LimbProducts': WHATEVER THE INPUT: true; the input reads as it did. -/
def limbProductsSpec : ChangeSpec := { name := "limbProducts", fn := fun _ => fun
  | [d1, d2, d3] => { results := [.lit (.bool true)], args := [d1, d2, d3] }
  | _ => none }
def limbProductsRow : OpenClaim := { program := "ytefhbmhanajfoaa", sum := "6cca1a7025d5d087015ea9a489a3ec9b120ec022a5da415b67ffc9b8c628909e", func := "sigil/sigillaw03.LimbProducts", spec := "limbProducts", inPlace := ["math/bits.Add64", "math/bits.Sub64"], unfollowed := true, recurses := true, named := ["math/bits.divideError", "math/bits.overflowError"], apart := false }
def LimbProductsSaid : Prop := limbProductsRow.holds Try.pinned (OpenSpec.ofChange limbProductsSpec)

/-- ITS FALSE NEIGHBOUR: 'it returns false'. Refute it at one input. -/
def limbProductsWrong : ChangeSpec := { name := "limbProducts", fn := fun _ => fun
  | [d1, d2, d3] => { results := [.lit (.bool false)], args := [d1, d2, d3] }
  | _ => none }
def LimbProductsWrongFalsely : Prop := limbProductsRow.holds Try.pinned (OpenSpec.ofChange limbProductsWrong)

/-- 'sigillaw03.LimbLeft': WHATEVER THE INPUT: true; the input reads as it did. -/
def limbLeftSpec : ChangeSpec := { name := "limbLeft", fn := fun _ => fun
  | [d1, d2, d3] => { results := [.lit (.bool true)], args := [d1, d2, d3] }
  | _ => none }
def limbLeftRow : OpenClaim := { program := "ytefhbmhanajfoaa", sum := "6cca1a7025d5d087015ea9a489a3ec9b120ec022a5da415b67ffc9b8c628909e", func := "sigil/sigillaw03.LimbLeft", spec := "limbLeft", inPlace := ["math/bits.Add64", "math/bits.Sub64"], unfollowed := true, recurses := true, named := ["math/bits.divideError", "math/bits.overflowError"], apart := false }
def LimbLeftSaid : Prop := limbLeftRow.holds Try.pinned (OpenSpec.ofChange limbLeftSpec)

/-- ITS FALSE NEIGHBOUR: 'it returns false'. Refute it at one input. -/
def limbLeftWrong : ChangeSpec := { name := "limbLeft", fn := fun _ => fun
  | [d1, d2, d3] => { results := [.lit (.bool false)], args := [d1, d2, d3] }
  | _ => none }
def LimbLeftWrongFalsely : Prop := limbLeftRow.holds Try.pinned (OpenSpec.ofChange limbLeftWrong)

/-- 'sigillaw03.LimbTells': WHATEVER THE INPUT: true; the input reads as it did. -/
def limbTellsSpec : ChangeSpec := { name := "limbTells", fn := fun _ => fun
  | [d1, d2] => { results := [.lit (.bool true)], args := [d1, d2] }
  | _ => none }
def limbTellsRow : OpenClaim := { program := "ytefhbmhanajfoaa", sum := "6cca1a7025d5d087015ea9a489a3ec9b120ec022a5da415b67ffc9b8c628909e", func := "sigil/sigillaw03.LimbTells", spec := "limbTells", inPlace := ["math/bits.Add64", "math/bits.Sub64"], unfollowed := true, recurses := true, named := ["math/bits.divideError", "math/bits.overflowError"], apart := false }
def LimbTellsSaid : Prop := limbTellsRow.holds Try.pinned (OpenSpec.ofChange limbTellsSpec)

/-- ITS FALSE NEIGHBOUR: 'it returns false'. Refute it at one input. -/
def limbTellsWrong : ChangeSpec := { name := "limbTells", fn := fun _ => fun
  | [d1, d2] => { results := [.lit (.bool false)], args := [d1, d2] }
  | _ => none }
def LimbTellsWrongFalsely : Prop := limbTellsRow.holds Try.pinned (OpenSpec.ofChange limbTellsWrong)

/-- 'sigillaw03.LimbBack': WHATEVER THE INPUT: true; the input reads as it did. -/
def limbBackSpec : ChangeSpec := { name := "limbBack", fn := fun _ => fun
  | [d1, d2] => { results := [.lit (.bool true)], args := [d1, d2] }
  | _ => none }
def limbBackRow : OpenClaim := { program := "ytefhbmhanajfoaa", sum := "6cca1a7025d5d087015ea9a489a3ec9b120ec022a5da415b67ffc9b8c628909e", func := "sigil/sigillaw03.LimbBack", spec := "limbBack", inPlace := ["math/bits.Add64", "math/bits.Sub64"], unfollowed := true, recurses := true, named := ["math/bits.divideError", "math/bits.overflowError"], apart := false }
def LimbBackSaid : Prop := limbBackRow.holds Try.pinned (OpenSpec.ofChange limbBackSpec)

/-- ITS FALSE NEIGHBOUR: 'it returns false'. Refute it at one input. -/
def limbBackWrong : ChangeSpec := { name := "limbBack", fn := fun _ => fun
  | [d1, d2] => { results := [.lit (.bool false)], args := [d1, d2] }
  | _ => none }
def LimbBackWrongFalsely : Prop := limbBackRow.holds Try.pinned (OpenSpec.ofChange limbBackWrong)

/-- 'sigillaw03.LimbOwn': WHATEVER THE INPUT: true; the input reads as it did. -/
def limbOwnSpec : ChangeSpec := { name := "limbOwn", fn := fun _ => fun
  | [d1, d2] => { results := [.lit (.bool true)], args := [d1, d2] }
  | _ => none }
def limbOwnRow : OpenClaim := { program := "ytefhbmhanajfoaa", sum := "6cca1a7025d5d087015ea9a489a3ec9b120ec022a5da415b67ffc9b8c628909e", func := "sigil/sigillaw03.LimbOwn", spec := "limbOwn", inPlace := ["math/bits.Add64", "math/bits.Sub64"], unfollowed := true, recurses := true, named := ["math/bits.divideError", "math/bits.overflowError"], apart := false }
def LimbOwnSaid : Prop := limbOwnRow.holds Try.pinned (OpenSpec.ofChange limbOwnSpec)

/-- ITS FALSE NEIGHBOUR: 'it returns false'. Refute it at one input. -/
def limbOwnWrong : ChangeSpec := { name := "limbOwn", fn := fun _ => fun
  | [d1, d2] => { results := [.lit (.bool false)], args := [d1, d2] }
  | _ => none }
def LimbOwnWrongFalsely : Prop := limbOwnRow.holds Try.pinned (OpenSpec.ofChange limbOwnWrong)

/- THE SECOND FORM. 'bulk': how many values and letters a reading holds, each counted each time it is reached (what is shared counts as often as it is met; a slice's spare places count too). A statement '..UptoSaid' is the law's where the arguments, and the package variables that the reading takes, are together of bulk at most 1048576: NARROWER than '..Said'. Prove '..Said' where nothing that the law and all that it calls make is longer than what came in: it says more and counts as full. Else prove '..UptoSaid'. A law counts once. -/
mutual
def uptoBulk {H : Type} : DataW H → Nat
  | .lit (.string bytes) => bytes.length + 1
  | .lit _ => 1
  | .nil => 1
  | .ptr d => uptoBulk d + 1
  | .slice elems spare => uptoBulkAll elems + uptoBulkAll spare + 1
  | .agg parts => uptoBulkAll parts + 1
  | .iface _ d => uptoBulk d + 1
  | .map entries => uptoBulkEntries entries + 1
  | .held _ => 1
def uptoBulkAll {H : Type} : List (DataW H) → Nat
  | [] => 0
  | d :: r => uptoBulk d + uptoBulkAll r
def uptoBulkEntries {H : Type} : List (Lit × DataW H) → Nat
  | [] => 0
  | x :: r => uptoBulkEntry x + uptoBulkEntries r
def uptoBulkEntry {H : Type} : Lit × DataW H → Nat
  | (.string bytes, d) => bytes.length + uptoBulk d + 1
  | (_, d) => uptoBulk d + 1
 end
def uptoSmall : (H : Type) → List (DataW H) → Bool := fun _ ds => decide (uptoBulkAll ds ≤ 1048576)
def OpenSpec.upto (s : _root_.Go.ChangeSpec) : _root_.Go.OpenSpec := { _root_.Go.OpenSpec.ofChange s with cond := some uptoSmall }

/-- 'sigillaw01.ShaSums', WHERE WHAT IT READS IS OF BULK AT MOST 1048576: true; the input reads as it did. -/
def shaSumsUptoRow : OpenClaim := { program := "ytefhbmhanajfoaa", sum := "6cca1a7025d5d087015ea9a489a3ec9b120ec022a5da415b67ffc9b8c628909e", func := "sigil/sigillaw01.ShaSums", spec := "shaSums", unfollowed := true, recurses := true, apart := false, narrowed := true }
def ShaSumsUptoSaid : Prop := shaSumsUptoRow.holds Try.pinned (OpenSpec.upto shaSumsSpec)

/-- 'sigillaw01.ShaSteps', WHERE WHAT IT READS IS OF BULK AT MOST 1048576: true; the input reads as it did. -/
def shaStepsUptoRow : OpenClaim := { program := "ytefhbmhanajfoaa", sum := "6cca1a7025d5d087015ea9a489a3ec9b120ec022a5da415b67ffc9b8c628909e", func := "sigil/sigillaw01.ShaSteps", spec := "shaSteps", unfollowed := true, recurses := true, apart := false, narrowed := true }
def ShaStepsUptoSaid : Prop := shaStepsUptoRow.holds Try.pinned (OpenSpec.upto shaStepsSpec)

/-- 'sigillaw01.ShaPads', WHERE WHAT IT READS IS OF BULK AT MOST 1048576: true; the input reads as it did. -/
def shaPadsUptoRow : OpenClaim := { program := "ytefhbmhanajfoaa", sum := "6cca1a7025d5d087015ea9a489a3ec9b120ec022a5da415b67ffc9b8c628909e", func := "sigil/sigillaw01.ShaPads", spec := "shaPads", unfollowed := true, recurses := true, apart := false, narrowed := true }
def ShaPadsUptoSaid : Prop := shaPadsUptoRow.holds Try.pinned (OpenSpec.upto shaPadsSpec)

/-- 'sigillaw01.ShaFolds', WHERE WHAT IT READS IS OF BULK AT MOST 1048576: true; the input reads as it did. -/
def shaFoldsUptoRow : OpenClaim := { program := "ytefhbmhanajfoaa", sum := "6cca1a7025d5d087015ea9a489a3ec9b120ec022a5da415b67ffc9b8c628909e", func := "sigil/sigillaw01.ShaFolds", spec := "shaFolds", unfollowed := true, recurses := true, apart := false, narrowed := true }
def ShaFoldsUptoSaid : Prop := shaFoldsUptoRow.holds Try.pinned (OpenSpec.upto shaFoldsSpec)

/-- 'sigillaw01.ShaOwn', WHERE WHAT IT READS IS OF BULK AT MOST 1048576: true; the input reads as it did. -/
def shaOwnUptoRow : OpenClaim := { program := "ytefhbmhanajfoaa", sum := "6cca1a7025d5d087015ea9a489a3ec9b120ec022a5da415b67ffc9b8c628909e", func := "sigil/sigillaw01.ShaOwn", spec := "shaOwn", unfollowed := true, recurses := true, apart := false, narrowed := true }
def ShaOwnUptoSaid : Prop := shaOwnUptoRow.holds Try.pinned (OpenSpec.upto shaOwnSpec)

/-- 'sigillaw02.HkdfNames', WHERE WHAT IT READS IS OF BULK AT MOST 1048576: true; the input reads as it did. -/
def hkdfNamesUptoRow : OpenClaim := { program := "ytefhbmhanajfoaa", sum := "6cca1a7025d5d087015ea9a489a3ec9b120ec022a5da415b67ffc9b8c628909e", func := "sigil/sigillaw02.HkdfNames", spec := "hkdfNames", unfollowed := true, recurses := true, apart := false, narrowed := true }
def HkdfNamesUptoSaid : Prop := hkdfNamesUptoRow.holds Try.pinned (OpenSpec.upto hkdfNamesSpec)

/-- 'sigillaw02.HkdfKeys', WHERE WHAT IT READS IS OF BULK AT MOST 1048576: true; the input reads as it did. -/
def hkdfKeysUptoRow : OpenClaim := { program := "ytefhbmhanajfoaa", sum := "6cca1a7025d5d087015ea9a489a3ec9b120ec022a5da415b67ffc9b8c628909e", func := "sigil/sigillaw02.HkdfKeys", spec := "hkdfKeys", unfollowed := true, recurses := true, apart := false, narrowed := true }
def HkdfKeysUptoSaid : Prop := hkdfKeysUptoRow.holds Try.pinned (OpenSpec.upto hkdfKeysSpec)

/-- 'sigillaw02.HkdfBegins', WHERE WHAT IT READS IS OF BULK AT MOST 1048576: true; the input reads as it did. -/
def hkdfBeginsUptoRow : OpenClaim := { program := "ytefhbmhanajfoaa", sum := "6cca1a7025d5d087015ea9a489a3ec9b120ec022a5da415b67ffc9b8c628909e", func := "sigil/sigillaw02.HkdfBegins", spec := "hkdfBegins", unfollowed := true, recurses := true, apart := false, narrowed := true }
def HkdfBeginsUptoSaid : Prop := hkdfBeginsUptoRow.holds Try.pinned (OpenSpec.upto hkdfBeginsSpec)

/-- 'sigillaw02.HkdfChains', WHERE WHAT IT READS IS OF BULK AT MOST 1048576: true; the input reads as it did. -/
def hkdfChainsUptoRow : OpenClaim := { program := "ytefhbmhanajfoaa", sum := "6cca1a7025d5d087015ea9a489a3ec9b120ec022a5da415b67ffc9b8c628909e", func := "sigil/sigillaw02.HkdfChains", spec := "hkdfChains", unfollowed := true, recurses := true, apart := false, narrowed := true }
def HkdfChainsUptoSaid : Prop := hkdfChainsUptoRow.holds Try.pinned (OpenSpec.upto hkdfChainsSpec)

/-- 'sigillaw02.HkdfTells', WHERE WHAT IT READS IS OF BULK AT MOST 1048576: true; the input reads as it did. -/
def hkdfTellsUptoRow : OpenClaim := { program := "ytefhbmhanajfoaa", sum := "6cca1a7025d5d087015ea9a489a3ec9b120ec022a5da415b67ffc9b8c628909e", func := "sigil/sigillaw02.HkdfTells", spec := "hkdfTells", unfollowed := true, recurses := true, apart := false, narrowed := true }
def HkdfTellsUptoSaid : Prop := hkdfTellsUptoRow.holds Try.pinned (OpenSpec.upto hkdfTellsSpec)

/-- 'sigillaw03.LimbNames', WHERE WHAT IT READS IS OF BULK AT MOST 1048576: true; the input reads as it did. -/
def limbNamesUptoRow : OpenClaim := { program := "ytefhbmhanajfoaa", sum := "6cca1a7025d5d087015ea9a489a3ec9b120ec022a5da415b67ffc9b8c628909e", func := "sigil/sigillaw03.LimbNames", spec := "limbNames", inPlace := ["math/bits.Add64", "math/bits.Sub64"], unfollowed := true, recurses := true, named := ["math/bits.divideError", "math/bits.overflowError"], apart := false, narrowed := true }
def LimbNamesUptoSaid : Prop := limbNamesUptoRow.holds Try.pinned (OpenSpec.upto limbNamesSpec)

/-- 'sigillaw03.LimbOctets', WHERE WHAT IT READS IS OF BULK AT MOST 1048576: true; the input reads as it did. -/
def limbOctetsUptoRow : OpenClaim := { program := "ytefhbmhanajfoaa", sum := "6cca1a7025d5d087015ea9a489a3ec9b120ec022a5da415b67ffc9b8c628909e", func := "sigil/sigillaw03.LimbOctets", spec := "limbOctets", inPlace := ["math/bits.Add64", "math/bits.Sub64"], unfollowed := true, recurses := true, named := ["math/bits.divideError", "math/bits.overflowError"], apart := false, narrowed := true }
def LimbOctetsUptoSaid : Prop := limbOctetsUptoRow.holds Try.pinned (OpenSpec.upto limbOctetsSpec)

/-- 'sigillaw03.LimbProducts', WHERE WHAT IT READS IS OF BULK AT MOST 1048576: true; the input reads as it did. -/
def limbProductsUptoRow : OpenClaim := { program := "ytefhbmhanajfoaa", sum := "6cca1a7025d5d087015ea9a489a3ec9b120ec022a5da415b67ffc9b8c628909e", func := "sigil/sigillaw03.LimbProducts", spec := "limbProducts", inPlace := ["math/bits.Add64", "math/bits.Sub64"], unfollowed := true, recurses := true, named := ["math/bits.divideError", "math/bits.overflowError"], apart := false, narrowed := true }
def LimbProductsUptoSaid : Prop := limbProductsUptoRow.holds Try.pinned (OpenSpec.upto limbProductsSpec)

/-- 'sigillaw03.LimbLeft', WHERE WHAT IT READS IS OF BULK AT MOST 1048576: true; the input reads as it did. -/
def limbLeftUptoRow : OpenClaim := { program := "ytefhbmhanajfoaa", sum := "6cca1a7025d5d087015ea9a489a3ec9b120ec022a5da415b67ffc9b8c628909e", func := "sigil/sigillaw03.LimbLeft", spec := "limbLeft", inPlace := ["math/bits.Add64", "math/bits.Sub64"], unfollowed := true, recurses := true, named := ["math/bits.divideError", "math/bits.overflowError"], apart := false, narrowed := true }
def LimbLeftUptoSaid : Prop := limbLeftUptoRow.holds Try.pinned (OpenSpec.upto limbLeftSpec)

/-- 'sigillaw03.LimbTells', WHERE WHAT IT READS IS OF BULK AT MOST 1048576: true; the input reads as it did. -/
def limbTellsUptoRow : OpenClaim := { program := "ytefhbmhanajfoaa", sum := "6cca1a7025d5d087015ea9a489a3ec9b120ec022a5da415b67ffc9b8c628909e", func := "sigil/sigillaw03.LimbTells", spec := "limbTells", inPlace := ["math/bits.Add64", "math/bits.Sub64"], unfollowed := true, recurses := true, named := ["math/bits.divideError", "math/bits.overflowError"], apart := false, narrowed := true }
def LimbTellsUptoSaid : Prop := limbTellsUptoRow.holds Try.pinned (OpenSpec.upto limbTellsSpec)

/-- 'sigillaw03.LimbBack', WHERE WHAT IT READS IS OF BULK AT MOST 1048576: true; the input reads as it did. -/
def limbBackUptoRow : OpenClaim := { program := "ytefhbmhanajfoaa", sum := "6cca1a7025d5d087015ea9a489a3ec9b120ec022a5da415b67ffc9b8c628909e", func := "sigil/sigillaw03.LimbBack", spec := "limbBack", inPlace := ["math/bits.Add64", "math/bits.Sub64"], unfollowed := true, recurses := true, named := ["math/bits.divideError", "math/bits.overflowError"], apart := false, narrowed := true }
def LimbBackUptoSaid : Prop := limbBackUptoRow.holds Try.pinned (OpenSpec.upto limbBackSpec)

/-- 'sigillaw03.LimbOwn', WHERE WHAT IT READS IS OF BULK AT MOST 1048576: true; the input reads as it did. -/
def limbOwnUptoRow : OpenClaim := { program := "ytefhbmhanajfoaa", sum := "6cca1a7025d5d087015ea9a489a3ec9b120ec022a5da415b67ffc9b8c628909e", func := "sigil/sigillaw03.LimbOwn", spec := "limbOwn", inPlace := ["math/bits.Add64", "math/bits.Sub64"], unfollowed := true, recurses := true, named := ["math/bits.divideError", "math/bits.overflowError"], apart := false, narrowed := true }
def LimbOwnUptoSaid : Prop := limbOwnUptoRow.holds Try.pinned (OpenSpec.upto limbOwnSpec)

end Rows
end Go.Proofs.Ytefhbmhanajfoaa
