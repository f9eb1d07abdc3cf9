/-
  No cell of these rows narrows 'for every input' (looked for: loops, veiled, ifaces, maps, wideKeys, modest, calm, conditions, laid).
  DERIVED. THE GIVEN ROWS OF THIS SEAT. 16 by the template 'for every input the law returns true; each argument reads behind the call as it read before'; 0 by the template 'total and deterministic' (their statements: YtbjfjkmidhfgcaaTotals.lean).
  GIVEN WITH THE SEED: the statements are not yours to turn. If you find one false, say at which input.
  Laid BY PROGRAM, IN A SANDBOX (cutbox-rows.mjs): the forced cells as the released guide's own fill.sh prints them over the translation 92b7608b2bff8fa9… (all of the seat's roots in one cut). By AI agents, Wed Nov 11 2026. No macro, syntax, notation, axiom, sorry.
-/
import Derived.Test.YtbjfjkmidhfgcaaChecked
import GoSem.Claim
import GoSem.ClaimJoined
import GoSem.ClaimMapViews
import Derived.JoinedTies
import Derived.KernelRfl
namespace Go.Proofs.Ytbjfjkmidhfgcaa
/- THE CELL 'sum', in the pinned program and in every row, IS THE sha256 OF THE DUMP (.gsa) THAT YtbjfjkmidhfgcaaProg.lean LOADS. Nothing in Lean hashes anything: it is a label: what it is worth is what the hold of that sum in a sandbox is worth. -/
noncomputable def Try.pinned : Pinned := { name := "ytbjfjkmidhfgcaa", sum := "92b7608b2bff8fa9aa89d4b6d00f883235ac5fef0332b7cbb5fc8f02173cbc43", checked := Try.checked }
namespace Rows
def none {H : Type} : Left H := { results := [], args := [] }

/-- 'sigillaw03.LimbOctets': WHATEVER THE INPUT: true; the input reads as it did. -/
def limbOctetsSpec : ChangeSpec := { name := "limbOctets", fn := fun _ => fun
  | [d1, d2, d3] => { results := [.lit (.bool true)], args := [d1, d2, d3] }
  | _ => none }
def limbOctetsRow : OpenClaim := { program := "ytbjfjkmidhfgcaa", sum := "92b7608b2bff8fa9aa89d4b6d00f883235ac5fef0332b7cbb5fc8f02173cbc43", func := "sigil/sigillaw03.LimbOctets", spec := "limbOctets", inPlace := ["math/bits.Add64", "math/bits.Sub64"], unfollowed := true, recurses := true, named := ["math/bits.divideError", "math/bits.overflowError"], apart := false }
def LimbOctetsSaid : Prop := limbOctetsRow.holds Try.pinned (OpenSpec.ofChange limbOctetsSpec)

/-- ITS FALSE NEIGHBOUR: 'it returns false'. Refute it at one input. -/
def limbOctetsWrong : ChangeSpec := { name := "limbOctets", fn := fun _ => fun
  | [d1, d2, d3] => { results := [.lit (.bool false)], args := [d1, d2, d3] }
  | _ => none }
def LimbOctetsWrongFalsely : Prop := limbOctetsRow.holds Try.pinned (OpenSpec.ofChange limbOctetsWrong)

/-- 'sigillaw03.LimbTells': WHATEVER THE INPUT: true; the input reads as it did. -/
def limbTellsSpec : ChangeSpec := { name := "limbTells", fn := fun _ => fun
  | [d1, d2] => { results := [.lit (.bool true)], args := [d1, d2] }
  | _ => none }
def limbTellsRow : OpenClaim := { program := "ytbjfjkmidhfgcaa", sum := "92b7608b2bff8fa9aa89d4b6d00f883235ac5fef0332b7cbb5fc8f02173cbc43", func := "sigil/sigillaw03.LimbTells", spec := "limbTells", inPlace := ["math/bits.Add64", "math/bits.Sub64"], unfollowed := true, recurses := true, named := ["math/bits.divideError", "math/bits.overflowError"], apart := false }
def LimbTellsSaid : Prop := limbTellsRow.holds Try.pinned (OpenSpec.ofChange limbTellsSpec)

/-- ITS FALSE NEIGHBOUR: 'it returns false'. Refute it at one input. -/
def limbTellsWrong : ChangeSpec := { name := "limbTells", fn := fun _ => fun
  | [d1, d2] => { results := [.lit (.bool false)], args := [d1, d2] }
  | _ => none }
def LimbTellsWrongFalsely : Prop := limbTellsRow.holds Try.pinned (OpenSpec.ofChange limbTellsWrong)

/-- 'sigillaw06.FrNames': WHATEVER THE INPUT: true; the input reads as it did. -/
def frNamesSpec : ChangeSpec := { name := "frNames", fn := fun _ => fun
  | [] => { results := [.lit (.bool true)], args := [] }
  | _ => none }
def frNamesRow : OpenClaim := { program := "ytbjfjkmidhfgcaa", sum := "92b7608b2bff8fa9aa89d4b6d00f883235ac5fef0332b7cbb5fc8f02173cbc43", func := "sigil/sigillaw06.FrNames", spec := "frNames", inPlace := ["math/bits.Add64", "math/bits.Sub64"], unfollowed := true, recurses := true, named := ["math/bits.divideError", "math/bits.overflowError"], apart := false }
def FrNamesSaid : Prop := frNamesRow.holds Try.pinned (OpenSpec.ofChange frNamesSpec)

/-- ITS FALSE NEIGHBOUR: 'it returns false'. Refute it at one input. -/
def frNamesWrong : ChangeSpec := { name := "frNames", fn := fun _ => fun
  | [] => { results := [.lit (.bool false)], args := [] }
  | _ => none }
def FrNamesWrongFalsely : Prop := frNamesRow.holds Try.pinned (OpenSpec.ofChange frNamesWrong)

/-- 'sigillaw06.FrTells': WHATEVER THE INPUT: true; the input reads as it did. -/
def frTellsSpec : ChangeSpec := { name := "frTells", fn := fun _ => fun
  | [d1, d2] => { results := [.lit (.bool true)], args := [d1, d2] }
  | _ => none }
def frTellsRow : OpenClaim := { program := "ytbjfjkmidhfgcaa", sum := "92b7608b2bff8fa9aa89d4b6d00f883235ac5fef0332b7cbb5fc8f02173cbc43", func := "sigil/sigillaw06.FrTells", spec := "frTells", inPlace := ["math/bits.Add64", "math/bits.Sub64"], unfollowed := true, recurses := true, named := ["math/bits.divideError", "math/bits.overflowError"], apart := false }
def FrTellsSaid : Prop := frTellsRow.holds Try.pinned (OpenSpec.ofChange frTellsSpec)

/-- ITS FALSE NEIGHBOUR: 'it returns false'. Refute it at one input. -/
def frTellsWrong : ChangeSpec := { name := "frTells", fn := fun _ => fun
  | [d1, d2] => { results := [.lit (.bool false)], args := [d1, d2] }
  | _ => none }
def FrTellsWrongFalsely : Prop := frTellsRow.holds Try.pinned (OpenSpec.ofChange frTellsWrong)

/-- 'sigillaw06.FrWindows': WHATEVER THE INPUT: true; the input reads as it did. -/
def frWindowsSpec : ChangeSpec := { name := "frWindows", fn := fun _ => fun
  | [d1, d2] => { results := [.lit (.bool true)], args := [d1, d2] }
  | _ => none }
def frWindowsRow : OpenClaim := { program := "ytbjfjkmidhfgcaa", sum := "92b7608b2bff8fa9aa89d4b6d00f883235ac5fef0332b7cbb5fc8f02173cbc43", func := "sigil/sigillaw06.FrWindows", spec := "frWindows", inPlace := ["math/bits.Add64", "math/bits.Sub64"], unfollowed := true, recurses := true, named := ["math/bits.divideError", "math/bits.overflowError"], apart := false }
def FrWindowsSaid : Prop := frWindowsRow.holds Try.pinned (OpenSpec.ofChange frWindowsSpec)

/-- ITS FALSE NEIGHBOUR: 'it returns false'. Refute it at one input. -/
def frWindowsWrong : ChangeSpec := { name := "frWindows", fn := fun _ => fun
  | [d1, d2] => { results := [.lit (.bool false)], args := [d1, d2] }
  | _ => none }
def FrWindowsWrongFalsely : Prop := frWindowsRow.holds Try.pinned (OpenSpec.ofChange frWindowsWrong)

/-- 'sigillaw06.FrDigits': WHATEVER THE INPUT: true; the input reads as it did. -/
def frDigitsSpec : ChangeSpec := { name := "frDigits", fn := fun _ => fun
  | [d1, d2] => { results := [.lit (.bool true)], args := [d1, d2] }
  | _ => none }
def frDigitsRow : OpenClaim := { program := "ytbjfjkmidhfgcaa", sum := "92b7608b2bff8fa9aa89d4b6d00f883235ac5fef0332b7cbb5fc8f02173cbc43", func := "sigil/sigillaw06.FrDigits", spec := "frDigits", inPlace := ["math/bits.Add64", "math/bits.Sub64"], unfollowed := true, recurses := true, named := ["math/bits.divideError", "math/bits.overflowError"], apart := false }
def FrDigitsSaid : Prop := frDigitsRow.holds Try.pinned (OpenSpec.ofChange frDigitsSpec)

/-- ITS FALSE NEIGHBOUR: 'it returns false'. Refute it at one input. -/
def frDigitsWrong : ChangeSpec := { name := "frDigits", fn := fun _ => fun
  | [d1, d2] => { results := [.lit (.bool false)], args := [d1, d2] }
  | _ => none }
def FrDigitsWrongFalsely : Prop := frDigitsRow.holds Try.pinned (OpenSpec.ofChange frDigitsWrong)

/-- 'sigillaw06.FrOctets': WHATEVER THE INPUT: true; the input reads as it did. -/
def frOctetsSpec : ChangeSpec := { name := "frOctets", fn := fun _ => fun
  | [d1, d2] => { results := [.lit (.bool true)], args := [d1, d2] }
  | _ => none }
def frOctetsRow : OpenClaim := { program := "ytbjfjkmidhfgcaa", sum := "92b7608b2bff8fa9aa89d4b6d00f883235ac5fef0332b7cbb5fc8f02173cbc43", func := "sigil/sigillaw06.FrOctets", spec := "frOctets", inPlace := ["math/bits.Add64", "math/bits.Sub64"], unfollowed := true, recurses := true, named := ["math/bits.divideError", "math/bits.overflowError"], apart := false }
def FrOctetsSaid : Prop := frOctetsRow.holds Try.pinned (OpenSpec.ofChange frOctetsSpec)

/-- ITS FALSE NEIGHBOUR: 'it returns false'. Refute it at one input. -/
def frOctetsWrong : ChangeSpec := { name := "frOctets", fn := fun _ => fun
  | [d1, d2] => { results := [.lit (.bool false)], args := [d1, d2] }
  | _ => none }
def FrOctetsWrongFalsely : Prop := frOctetsRow.holds Try.pinned (OpenSpec.ofChange frOctetsWrong)

/-- 'sigillaw06.FrBack': WHATEVER THE INPUT: true; the input reads as it did. -/
def frBackSpec : ChangeSpec := { name := "frBack", fn := fun _ => fun
  | [d1, d2] => { results := [.lit (.bool true)], args := [d1, d2] }
  | _ => none }
def frBackRow : OpenClaim := { program := "ytbjfjkmidhfgcaa", sum := "92b7608b2bff8fa9aa89d4b6d00f883235ac5fef0332b7cbb5fc8f02173cbc43", func := "sigil/sigillaw06.FrBack", spec := "frBack", inPlace := ["math/bits.Add64", "math/bits.Sub64"], unfollowed := true, recurses := true, named := ["math/bits.divideError", "math/bits.overflowError"], apart := false }
def FrBackSaid : Prop := frBackRow.holds Try.pinned (OpenSpec.ofChange frBackSpec)

/-- ITS FALSE NEIGHBOUR: 'it returns false'. Refute it at one input. -/
def frBackWrong : ChangeSpec := { name := "frBack", fn := fun _ => fun
  | [d1, d2] => { results := [.lit (.bool false)], args := [d1, d2] }
  | _ => none }
def FrBackWrongFalsely : Prop := frBackRow.holds Try.pinned (OpenSpec.ofChange frBackWrong)

/-- 'sigillaw06.FrInverts': WHATEVER THE INPUT: true; the input reads as it did. -/
def frInvertsSpec : ChangeSpec := { name := "frInverts", fn := fun _ => fun
  | [d] => { results := [.lit (.bool true)], args := [d] }
  | _ => none }
def frInvertsRow : OpenClaim := { program := "ytbjfjkmidhfgcaa", sum := "92b7608b2bff8fa9aa89d4b6d00f883235ac5fef0332b7cbb5fc8f02173cbc43", func := "sigil/sigillaw06.FrInverts", spec := "frInverts", inPlace := ["math/bits.Add64", "math/bits.Sub64"], unfollowed := true, recurses := true, named := ["math/bits.divideError", "math/bits.overflowError"], apart := false }
def FrInvertsSaid : Prop := frInvertsRow.holds Try.pinned (OpenSpec.ofChange frInvertsSpec)

/-- ITS FALSE NEIGHBOUR: 'it returns false'. Refute it at one input. -/
def frInvertsWrong : ChangeSpec := { name := "frInverts", fn := fun _ => fun
  | [d] => { results := [.lit (.bool false)], args := [d] }
  | _ => none }
def FrInvertsWrongFalsely : Prop := frInvertsRow.holds Try.pinned (OpenSpec.ofChange frInvertsWrong)

/-- 'sigillaw06.FrField': WHATEVER THE INPUT: true; the input reads as it did. -/
def frFieldSpec : ChangeSpec := { name := "frField", fn := fun _ => fun
  | [d1, d2, d3] => { results := [.lit (.bool true)], args := [d1, d2, d3] }
  | _ => none }
def frFieldRow : OpenClaim := { program := "ytbjfjkmidhfgcaa", sum := "92b7608b2bff8fa9aa89d4b6d00f883235ac5fef0332b7cbb5fc8f02173cbc43", func := "sigil/sigillaw06.FrField", spec := "frField", inPlace := ["math/bits.Add64", "math/bits.Sub64"], unfollowed := true, recurses := true, named := ["math/bits.divideError", "math/bits.overflowError"], apart := false }
def FrFieldSaid : Prop := frFieldRow.holds Try.pinned (OpenSpec.ofChange frFieldSpec)

/-- ITS FALSE NEIGHBOUR: 'it returns false'. Refute it at one input. -/
def frFieldWrong : ChangeSpec := { name := "frField", fn := fun _ => fun
  | [d1, d2, d3] => { results := [.lit (.bool false)], args := [d1, d2, d3] }
  | _ => none }
def FrFieldWrongFalsely : Prop := frFieldRow.holds Try.pinned (OpenSpec.ofChange frFieldWrong)

/-- 'sigillaw17.XmdNames': WHATEVER THE INPUT: true; the input reads as it did. -/
def xmdNamesSpec : ChangeSpec := { name := "xmdNames", fn := fun _ => fun
  | [] => { results := [.lit (.bool true)], args := [] }
  | _ => none }
def xmdNamesRow : OpenClaim := { program := "ytbjfjkmidhfgcaa", sum := "92b7608b2bff8fa9aa89d4b6d00f883235ac5fef0332b7cbb5fc8f02173cbc43", func := "sigil/sigillaw17.XmdNames", spec := "xmdNames", inPlace := ["math/bits.Add64", "math/bits.Sub64"], unfollowed := true, recurses := true, named := ["math/bits.divideError", "math/bits.overflowError"], apart := false }
def XmdNamesSaid : Prop := xmdNamesRow.holds Try.pinned (OpenSpec.ofChange xmdNamesSpec)

/-- ITS FALSE NEIGHBOUR: 'it returns false'. Refute it at one input. -/
def xmdNamesWrong : ChangeSpec := { name := "xmdNames", fn := fun _ => fun
  | [] => { results := [.lit (.bool false)], args := [] }
  | _ => none }
def XmdNamesWrongFalsely : Prop := xmdNamesRow.holds Try.pinned (OpenSpec.ofChange xmdNamesWrong)

/-- 'sigillaw17.XmdExpands': WHATEVER THE INPUT: true; the input reads as it did. -/
def xmdExpandsSpec : ChangeSpec := { name := "xmdExpands", fn := fun _ => fun
  | [d1, d2, d3] => { results := [.lit (.bool true)], args := [d1, d2, d3] }
  | _ => none }
def xmdExpandsRow : OpenClaim := { program := "ytbjfjkmidhfgcaa", sum := "92b7608b2bff8fa9aa89d4b6d00f883235ac5fef0332b7cbb5fc8f02173cbc43", func := "sigil/sigillaw17.XmdExpands", spec := "xmdExpands", inPlace := ["math/bits.Add64", "math/bits.Sub64"], unfollowed := true, recurses := true, named := ["math/bits.divideError", "math/bits.overflowError"], apart := false }
def XmdExpandsSaid : Prop := xmdExpandsRow.holds Try.pinned (OpenSpec.ofChange xmdExpandsSpec)

/-- ITS FALSE NEIGHBOUR: 'it returns false'. Refute it at one input. -/
def xmdExpandsWrong : ChangeSpec := { name := "xmdExpands", fn := fun _ => fun
  | [d1, d2, d3] => { results := [.lit (.bool false)], args := [d1, d2, d3] }
  | _ => none }
def XmdExpandsWrongFalsely : Prop := xmdExpandsRow.holds Try.pinned (OpenSpec.ofChange xmdExpandsWrong)

/-- 'sigillaw17.XmdFields': WHATEVER THE INPUT: true; the input reads as it did. -/
def xmdFieldsSpec : ChangeSpec := { name := "xmdFields", fn := fun _ => fun
  | [d1, d2, d3] => { results := [.lit (.bool true)], args := [d1, d2, d3] }
  | _ => none }
def xmdFieldsRow : OpenClaim := { program := "ytbjfjkmidhfgcaa", sum := "92b7608b2bff8fa9aa89d4b6d00f883235ac5fef0332b7cbb5fc8f02173cbc43", func := "sigil/sigillaw17.XmdFields", spec := "xmdFields", inPlace := ["math/bits.Add64", "math/bits.Sub64"], unfollowed := true, recurses := true, named := ["math/bits.divideError", "math/bits.overflowError"], apart := false }
def XmdFieldsSaid : Prop := xmdFieldsRow.holds Try.pinned (OpenSpec.ofChange xmdFieldsSpec)

/-- ITS FALSE NEIGHBOUR: 'it returns false'. Refute it at one input. -/
def xmdFieldsWrong : ChangeSpec := { name := "xmdFields", fn := fun _ => fun
  | [d1, d2, d3] => { results := [.lit (.bool false)], args := [d1, d2, d3] }
  | _ => none }
def XmdFieldsWrongFalsely : Prop := xmdFieldsRow.holds Try.pinned (OpenSpec.ofChange xmdFieldsWrong)

/-- 'sigillaw17.XmdSizes': WHATEVER THE INPUT: true; the input reads as it did. -/
def xmdSizesSpec : ChangeSpec := { name := "xmdSizes", fn := fun _ => fun
  | [d1, d2, d3] => { results := [.lit (.bool true)], args := [d1, d2, d3] }
  | _ => none }
def xmdSizesRow : OpenClaim := { program := "ytbjfjkmidhfgcaa", sum := "92b7608b2bff8fa9aa89d4b6d00f883235ac5fef0332b7cbb5fc8f02173cbc43", func := "sigil/sigillaw17.XmdSizes", spec := "xmdSizes", inPlace := ["math/bits.Add64", "math/bits.Sub64"], unfollowed := true, recurses := true, named := ["math/bits.divideError", "math/bits.overflowError"], apart := false }
def XmdSizesSaid : Prop := xmdSizesRow.holds Try.pinned (OpenSpec.ofChange xmdSizesSpec)

/-- ITS FALSE NEIGHBOUR: 'it returns false'. Refute it at one input. -/
def xmdSizesWrong : ChangeSpec := { name := "xmdSizes", fn := fun _ => fun
  | [d1, d2, d3] => { results := [.lit (.bool false)], args := [d1, d2, d3] }
  | _ => none }
def XmdSizesWrongFalsely : Prop := xmdSizesRow.holds Try.pinned (OpenSpec.ofChange xmdSizesWrong)

/-- 'sigillaw17.XmdChains': WHATEVER THE INPUT: true; the input reads as it did. -/
def xmdChainsSpec : ChangeSpec := { name := "xmdChains", fn := fun _ => fun
  | [d1, d2, d3] => { results := [.lit (.bool true)], args := [d1, d2, d3] }
  | _ => none }
def xmdChainsRow : OpenClaim := { program := "ytbjfjkmidhfgcaa", sum := "92b7608b2bff8fa9aa89d4b6d00f883235ac5fef0332b7cbb5fc8f02173cbc43", func := "sigil/sigillaw17.XmdChains", spec := "xmdChains", inPlace := ["math/bits.Add64", "math/bits.Sub64"], unfollowed := true, recurses := true, named := ["math/bits.divideError", "math/bits.overflowError"], apart := false }
def XmdChainsSaid : Prop := xmdChainsRow.holds Try.pinned (OpenSpec.ofChange xmdChainsSpec)

/-- ITS FALSE NEIGHBOUR: 'it returns false'. Refute it at one input. -/
def xmdChainsWrong : ChangeSpec := { name := "xmdChains", fn := fun _ => fun
  | [d1, d2, d3] => { results := [.lit (.bool false)], args := [d1, d2, d3] }
  | _ => none }
def XmdChainsWrongFalsely : Prop := xmdChainsRow.holds Try.pinned (OpenSpec.ofChange xmdChainsWrong)

/-- 'sigillaw17.XmdNumbers': WHATEVER THE INPUT: true; the input reads as it did. -/
def xmdNumbersSpec : ChangeSpec := { name := "xmdNumbers", fn := fun _ => fun
  | [d1, d2, d3] => { results := [.lit (.bool true)], args := [d1, d2, d3] }
  | _ => none }
def xmdNumbersRow : OpenClaim := { program := "ytbjfjkmidhfgcaa", sum := "92b7608b2bff8fa9aa89d4b6d00f883235ac5fef0332b7cbb5fc8f02173cbc43", func := "sigil/sigillaw17.XmdNumbers", spec := "xmdNumbers", inPlace := ["math/bits.Add64", "math/bits.Sub64"], unfollowed := true, recurses := true, named := ["math/bits.divideError", "math/bits.overflowError"], apart := false }
def XmdNumbersSaid : Prop := xmdNumbersRow.holds Try.pinned (OpenSpec.ofChange xmdNumbersSpec)

/-- ITS FALSE NEIGHBOUR: 'it returns false'. Refute it at one input. -/
def xmdNumbersWrong : ChangeSpec := { name := "xmdNumbers", fn := fun _ => fun
  | [d1, d2, d3] => { results := [.lit (.bool false)], args := [d1, d2, d3] }
  | _ => none }
def XmdNumbersWrongFalsely : Prop := xmdNumbersRow.holds Try.pinned (OpenSpec.ofChange xmdNumbersWrong)

/- THE SECOND FORM. 'bulk': how many values and letters a reading holds, each counted each time it is reached (what is shared counts as often as it is met; a slice's spare places count too). A statement '..UptoSaid' is the law's where the arguments, and the package variables that the reading takes, are together of bulk at most 1048576: NARROWER than '..Said'. Prove '..Said' where nothing that the law and all that it calls make is longer than what came in: it says more and counts as full. Else prove '..UptoSaid'. A law counts once. -/
mutual
def uptoBulk {H : Type} : DataW H → Nat
  | .lit (.string bytes) => bytes.length + 1
  | .lit _ => 1
  | .nil => 1
  | .ptr d => uptoBulk d + 1
  | .slice elems spare => uptoBulkAll elems + uptoBulkAll spare + 1
  | .agg parts => uptoBulkAll parts + 1
  | .iface _ d => uptoBulk d + 1
  | .map entries => uptoBulkEntries entries + 1
  | .held _ => 1
def uptoBulkAll {H : Type} : List (DataW H) → Nat
  | [] => 0
  | d :: r => uptoBulk d + uptoBulkAll r
def uptoBulkEntries {H : Type} : List (Lit × DataW H) → Nat
  | [] => 0
  | x :: r => uptoBulkEntry x + uptoBulkEntries r
def uptoBulkEntry {H : Type} : Lit × DataW H → Nat
  | (.string bytes, d) => bytes.length + uptoBulk d + 1
  | (_, d) => uptoBulk d + 1
 end
def uptoSmall : (H : Type) → List (DataW H) → Bool := fun _ ds => decide (uptoBulkAll ds ≤ 1048576)
def OpenSpec.upto (s : _root_.Go.ChangeSpec) : _root_.Go.OpenSpec := { _root_.Go.OpenSpec.ofChange s with cond := some uptoSmall }

/-- 'sigillaw03.LimbOctets', WHERE WHAT IT READS IS OF BULK AT MOST 1048576: true; the input reads as it did. -/
def limbOctetsUptoRow : OpenClaim := { program := "ytbjfjkmidhfgcaa", sum := "92b7608b2bff8fa9aa89d4b6d00f883235ac5fef0332b7cbb5fc8f02173cbc43", func := "sigil/sigillaw03.LimbOctets", spec := "limbOctets", inPlace := ["math/bits.Add64", "math/bits.Sub64"], unfollowed := true, recurses := true, named := ["math/bits.divideError", "math/bits.overflowError"], apart := false, narrowed := true }
def LimbOctetsUptoSaid : Prop := limbOctetsUptoRow.holds Try.pinned (OpenSpec.upto limbOctetsSpec)

/-- 'sigillaw03.LimbTells', WHERE WHAT IT READS IS OF BULK AT MOST 1048576: true; the input reads as it did. -/
def limbTellsUptoRow : OpenClaim := { program := "ytbjfjkmidhfgcaa", sum := "92b7608b2bff8fa9aa89d4b6d00f883235ac5fef0332b7cbb5fc8f02173cbc43", func := "sigil/sigillaw03.LimbTells", spec := "limbTells", inPlace := ["math/bits.Add64", "math/bits.Sub64"], unfollowed := true, recurses := true, named := ["math/bits.divideError", "math/bits.overflowError"], apart := false, narrowed := true }
def LimbTellsUptoSaid : Prop := limbTellsUptoRow.holds Try.pinned (OpenSpec.upto limbTellsSpec)

/-- 'sigillaw06.FrNames', WHERE WHAT IT READS IS OF BULK AT MOST 1048576: true; the input reads as it did. -/
def frNamesUptoRow : OpenClaim := { program := "ytbjfjkmidhfgcaa", sum := "92b7608b2bff8fa9aa89d4b6d00f883235ac5fef0332b7cbb5fc8f02173cbc43", func := "sigil/sigillaw06.FrNames", spec := "frNames", inPlace := ["math/bits.Add64", "math/bits.Sub64"], unfollowed := true, recurses := true, named := ["math/bits.divideError", "math/bits.overflowError"], apart := false, narrowed := true }
def FrNamesUptoSaid : Prop := frNamesUptoRow.holds Try.pinned (OpenSpec.upto frNamesSpec)

/-- 'sigillaw06.FrTells', WHERE WHAT IT READS IS OF BULK AT MOST 1048576: true; the input reads as it did. -/
def frTellsUptoRow : OpenClaim := { program := "ytbjfjkmidhfgcaa", sum := "92b7608b2bff8fa9aa89d4b6d00f883235ac5fef0332b7cbb5fc8f02173cbc43", func := "sigil/sigillaw06.FrTells", spec := "frTells", inPlace := ["math/bits.Add64", "math/bits.Sub64"], unfollowed := true, recurses := true, named := ["math/bits.divideError", "math/bits.overflowError"], apart := false, narrowed := true }
def FrTellsUptoSaid : Prop := frTellsUptoRow.holds Try.pinned (OpenSpec.upto frTellsSpec)

/-- 'sigillaw06.FrWindows', WHERE WHAT IT READS IS OF BULK AT MOST 1048576: true; the input reads as it did. -/
def frWindowsUptoRow : OpenClaim := { program := "ytbjfjkmidhfgcaa", sum := "92b7608b2bff8fa9aa89d4b6d00f883235ac5fef0332b7cbb5fc8f02173cbc43", func := "sigil/sigillaw06.FrWindows", spec := "frWindows", inPlace := ["math/bits.Add64", "math/bits.Sub64"], unfollowed := true, recurses := true, named := ["math/bits.divideError", "math/bits.overflowError"], apart := false, narrowed := true }
def FrWindowsUptoSaid : Prop := frWindowsUptoRow.holds Try.pinned (OpenSpec.upto frWindowsSpec)

/-- 'sigillaw06.FrDigits', WHERE WHAT IT READS IS OF BULK AT MOST 1048576: true; the input reads as it did. -/
def frDigitsUptoRow : OpenClaim := { program := "ytbjfjkmidhfgcaa", sum := "92b7608b2bff8fa9aa89d4b6d00f883235ac5fef0332b7cbb5fc8f02173cbc43", func := "sigil/sigillaw06.FrDigits", spec := "frDigits", inPlace := ["math/bits.Add64", "math/bits.Sub64"], unfollowed := true, recurses := true, named := ["math/bits.divideError", "math/bits.overflowError"], apart := false, narrowed := true }
def FrDigitsUptoSaid : Prop := frDigitsUptoRow.holds Try.pinned (OpenSpec.upto frDigitsSpec)

/-- 'sigillaw06.FrOctets', WHERE WHAT IT READS IS OF BULK AT MOST 1048576: true; the input reads as it did. -/
def frOctetsUptoRow : OpenClaim := { program := "ytbjfjkmidhfgcaa", sum := "92b7608b2bff8fa9aa89d4b6d00f883235ac5fef0332b7cbb5fc8f02173cbc43", func := "sigil/sigillaw06.FrOctets", spec := "frOctets", inPlace := ["math/bits.Add64", "math/bits.Sub64"], unfollowed := true, recurses := true, named := ["math/bits.divideError", "math/bits.overflowError"], apart := false, narrowed := true }
def FrOctetsUptoSaid : Prop := frOctetsUptoRow.holds Try.pinned (OpenSpec.upto frOctetsSpec)

/-- 'sigillaw06.FrBack', WHERE WHAT IT READS IS OF BULK AT MOST 1048576: true; the input reads as it did. -/
def frBackUptoRow : OpenClaim := { program := "ytbjfjkmidhfgcaa", sum := "92b7608b2bff8fa9aa89d4b6d00f883235ac5fef0332b7cbb5fc8f02173cbc43", func := "sigil/sigillaw06.FrBack", spec := "frBack", inPlace := ["math/bits.Add64", "math/bits.Sub64"], unfollowed := true, recurses := true, named := ["math/bits.divideError", "math/bits.overflowError"], apart := false, narrowed := true }
def FrBackUptoSaid : Prop := frBackUptoRow.holds Try.pinned (OpenSpec.upto frBackSpec)

/-- 'sigillaw06.FrInverts', WHERE WHAT IT READS IS OF BULK AT MOST 1048576: true; the input reads as it did. -/
def frInvertsUptoRow : OpenClaim := { program := "ytbjfjkmidhfgcaa", sum := "92b7608b2bff8fa9aa89d4b6d00f883235ac5fef0332b7cbb5fc8f02173cbc43", func := "sigil/sigillaw06.FrInverts", spec := "frInverts", inPlace := ["math/bits.Add64", "math/bits.Sub64"], unfollowed := true, recurses := true, named := ["math/bits.divideError", "math/bits.overflowError"], apart := false, narrowed := true }
def FrInvertsUptoSaid : Prop := frInvertsUptoRow.holds Try.pinned (OpenSpec.upto frInvertsSpec)

/-- 'sigillaw06.FrField', WHERE WHAT IT READS IS OF BULK AT MOST 1048576: true; the input reads as it did. -/
def frFieldUptoRow : OpenClaim := { program := "ytbjfjkmidhfgcaa", sum := "92b7608b2bff8fa9aa89d4b6d00f883235ac5fef0332b7cbb5fc8f02173cbc43", func := "sigil/sigillaw06.FrField", spec := "frField", inPlace := ["math/bits.Add64", "math/bits.Sub64"], unfollowed := true, recurses := true, named := ["math/bits.divideError", "math/bits.overflowError"], apart := false, narrowed := true }
def FrFieldUptoSaid : Prop := frFieldUptoRow.holds Try.pinned (OpenSpec.upto frFieldSpec)

/-- 'sigillaw17.XmdNames', WHERE WHAT IT READS IS OF BULK AT MOST 1048576: true; the input reads as it did. -/
def xmdNamesUptoRow : OpenClaim := { program := "ytbjfjkmidhfgcaa", sum := "92b7608b2bff8fa9aa89d4b6d00f883235ac5fef0332b7cbb5fc8f02173cbc43", func := "sigil/sigillaw17.XmdNames", spec := "xmdNames", inPlace := ["math/bits.Add64", "math/bits.Sub64"], unfollowed := true, recurses := true, named := ["math/bits.divideError", "math/bits.overflowError"], apart := false, narrowed := true }
def XmdNamesUptoSaid : Prop := xmdNamesUptoRow.holds Try.pinned (OpenSpec.upto xmdNamesSpec)

/-- 'sigillaw17.XmdExpands', WHERE WHAT IT READS IS OF BULK AT MOST 1048576: true; the input reads as it did. -/
def xmdExpandsUptoRow : OpenClaim := { program := "ytbjfjkmidhfgcaa", sum := "92b7608b2bff8fa9aa89d4b6d00f883235ac5fef0332b7cbb5fc8f02173cbc43", func := "sigil/sigillaw17.XmdExpands", spec := "xmdExpands", inPlace := ["math/bits.Add64", "math/bits.Sub64"], unfollowed := true, recurses := true, named := ["math/bits.divideError", "math/bits.overflowError"], apart := false, narrowed := true }
def XmdExpandsUptoSaid : Prop := xmdExpandsUptoRow.holds Try.pinned (OpenSpec.upto xmdExpandsSpec)

/-- 'sigillaw17.XmdFields', WHERE WHAT IT READS IS OF BULK AT MOST 1048576: true; the input reads as it did. -/
def xmdFieldsUptoRow : OpenClaim := { program := "ytbjfjkmidhfgcaa", sum := "92b7608b2bff8fa9aa89d4b6d00f883235ac5fef0332b7cbb5fc8f02173cbc43", func := "sigil/sigillaw17.XmdFields", spec := "xmdFields", inPlace := ["math/bits.Add64", "math/bits.Sub64"], unfollowed := true, recurses := true, named := ["math/bits.divideError", "math/bits.overflowError"], apart := false, narrowed := true }
def XmdFieldsUptoSaid : Prop := xmdFieldsUptoRow.holds Try.pinned (OpenSpec.upto xmdFieldsSpec)

/-- 'sigillaw17.XmdSizes', WHERE WHAT IT READS IS OF BULK AT MOST 1048576: true; the input reads as it did. -/
def xmdSizesUptoRow : OpenClaim := { program := "ytbjfjkmidhfgcaa", sum := "92b7608b2bff8fa9aa89d4b6d00f883235ac5fef0332b7cbb5fc8f02173cbc43", func := "sigil/sigillaw17.XmdSizes", spec := "xmdSizes", inPlace := ["math/bits.Add64", "math/bits.Sub64"], unfollowed := true, recurses := true, named := ["math/bits.divideError", "math/bits.overflowError"], apart := false, narrowed := true }
def XmdSizesUptoSaid : Prop := xmdSizesUptoRow.holds Try.pinned (OpenSpec.upto xmdSizesSpec)

/-- 'sigillaw17.XmdChains', WHERE WHAT IT READS IS OF BULK AT MOST 1048576: true; the input reads as it did. -/
def xmdChainsUptoRow : OpenClaim := { program := "ytbjfjkmidhfgcaa", sum := "92b7608b2bff8fa9aa89d4b6d00f883235ac5fef0332b7cbb5fc8f02173cbc43", func := "sigil/sigillaw17.XmdChains", spec := "xmdChains", inPlace := ["math/bits.Add64", "math/bits.Sub64"], unfollowed := true, recurses := true, named := ["math/bits.divideError", "math/bits.overflowError"], apart := false, narrowed := true }
def XmdChainsUptoSaid : Prop := xmdChainsUptoRow.holds Try.pinned (OpenSpec.upto xmdChainsSpec)

/-- 'sigillaw17.XmdNumbers', WHERE WHAT IT READS IS OF BULK AT MOST 1048576: true; the input reads as it did. -/
def xmdNumbersUptoRow : OpenClaim := { program := "ytbjfjkmidhfgcaa", sum := "92b7608b2bff8fa9aa89d4b6d00f883235ac5fef0332b7cbb5fc8f02173cbc43", func := "sigil/sigillaw17.XmdNumbers", spec := "xmdNumbers", inPlace := ["math/bits.Add64", "math/bits.Sub64"], unfollowed := true, recurses := true, named := ["math/bits.divideError", "math/bits.overflowError"], apart := false, narrowed := true }
def XmdNumbersUptoSaid : Prop := xmdNumbersUptoRow.holds Try.pinned (OpenSpec.upto xmdNumbersSpec)

end Rows
end Go.Proofs.Ytbjfjkmidhfgcaa
