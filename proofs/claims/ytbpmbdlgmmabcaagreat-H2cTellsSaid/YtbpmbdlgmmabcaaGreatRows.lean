/-
  No cell of these rows narrows 'for every input' (looked for: loops, veiled, ifaces, maps, wideKeys, modest, calm, conditions, laid).
  DERIVED. THE GIVEN ROWS OF THIS SEAT. 2 by the template 'for every input the law returns true; each argument reads behind the call as it read before'; 0 by the template 'total and deterministic' (their statements: YtbpmbdlgmmabcaaGreatTotals.lean).
  GIVEN WITH THE SEED: the statements are not yours to turn. If you find one false, say at which input.
  Laid BY PROGRAM, IN A SANDBOX (cutbox-rows.mjs): the forced cells as the released guide's own fill.sh prints them over the translation ebd8520b0ecdb2e1… (all of the seat's roots in one cut). By AI agents, Wed Nov 11 2026. No macro, syntax, notation, axiom, sorry.
-/
import Derived.Test.YtbpmbdlgmmabcaaGreatChecked
import GoSem.Claim
import GoSem.ClaimJoined
import GoSem.ClaimMapViews
import Derived.JoinedTies
import Derived.KernelRfl
namespace Go.Proofs.YtbpmbdlgmmabcaaGreat
/- THE CELL 'sum', in the pinned program and in every row, IS THE sha256 OF THE DUMP (.gsa) THAT YtbpmbdlgmmabcaaGreatProg.lean LOADS. Nothing in Lean hashes anything: it is a label: what it is worth is what the hold of that sum in a sandbox is worth. -/
noncomputable def Tryz.pinned : Pinned := { name := "ytbpmbdlgmmabcaagreat", sum := "ebd8520b0ecdb2e1e797e3d160c52e151f60d69a128203692c0b7c23c6ea8d00", checked := Tryz.checked }
namespace Rows
def none {H : Type} : Left H := { results := [], args := [] }

/-- 'sigillaw19.H2cTells': WHATEVER THE INPUT: true; the input reads as it did. -/
def h2cTellsSpec : ChangeSpec := { name := "h2cTells", fn := fun _ => fun
  | [d1, d2] => { results := [.lit (.bool true)], args := [d1, d2] }
  | _ => none }
def h2cTellsRow : OpenClaim := { program := "ytbpmbdlgmmabcaagreat", sum := "ebd8520b0ecdb2e1e797e3d160c52e151f60d69a128203692c0b7c23c6ea8d00", func := "sigil/sigillaw19.H2cTells", spec := "h2cTells", inPlace := ["math/bits.Add64", "math/bits.Sub64"], unfollowed := true, recurses := true, named := ["math/bits.divideError", "math/bits.overflowError"], apart := false }
def H2cTellsSaid : Prop := h2cTellsRow.holds Tryz.pinned (OpenSpec.ofChange h2cTellsSpec)

/-- ITS FALSE NEIGHBOUR: 'it returns false'. Refute it at one input. -/
def h2cTellsWrong : ChangeSpec := { name := "h2cTells", fn := fun _ => fun
  | [d1, d2] => { results := [.lit (.bool false)], args := [d1, d2] }
  | _ => none }
def H2cTellsWrongFalsely : Prop := h2cTellsRow.holds Tryz.pinned (OpenSpec.ofChange h2cTellsWrong)

/-- 'sigillaw19.H2cSends': WHATEVER THE INPUT: true; the input reads as it did. -/
def h2cSendsSpec : ChangeSpec := { name := "h2cSends", fn := fun _ => fun
  | [d1, d2] => { results := [.lit (.bool true)], args := [d1, d2] }
  | _ => none }
def h2cSendsRow : OpenClaim := { program := "ytbpmbdlgmmabcaagreat", sum := "ebd8520b0ecdb2e1e797e3d160c52e151f60d69a128203692c0b7c23c6ea8d00", func := "sigil/sigillaw19.H2cSends", spec := "h2cSends", inPlace := ["math/bits.Add64", "math/bits.Sub64"], unfollowed := true, recurses := true, named := ["math/bits.divideError", "math/bits.overflowError"], apart := false }
def H2cSendsSaid : Prop := h2cSendsRow.holds Tryz.pinned (OpenSpec.ofChange h2cSendsSpec)

/-- ITS FALSE NEIGHBOUR: 'it returns false'. Refute it at one input. -/
def h2cSendsWrong : ChangeSpec := { name := "h2cSends", fn := fun _ => fun
  | [d1, d2] => { results := [.lit (.bool false)], args := [d1, d2] }
  | _ => none }
def H2cSendsWrongFalsely : Prop := h2cSendsRow.holds Tryz.pinned (OpenSpec.ofChange h2cSendsWrong)

/- THE SECOND FORM. 'bulk': how many values and letters a reading holds, each counted each time it is reached (what is shared counts as often as it is met; a slice's spare places count too). A statement '..UptoSaid' is the law's where the arguments, and the package variables that the reading takes, are together of bulk at most 1048576: NARROWER than '..Said'. Prove '..Said' where nothing that the law and all that it calls make is longer than what came in: it says more and counts as full. Else prove '..UptoSaid'. A law counts once. -/
mutual
def uptoBulk {H : Type} : DataW H → Nat
  | .lit (.string bytes) => bytes.length + 1
  | .lit _ => 1
  | .nil => 1
  | .ptr d => uptoBulk d + 1
  | .slice elems spare => uptoBulkAll elems + uptoBulkAll spare + 1
  | .agg parts => uptoBulkAll parts + 1
  | .iface _ d => uptoBulk d + 1
  | .map entries => uptoBulkEntries entries + 1
  | .held _ => 1
def uptoBulkAll {H : Type} : List (DataW H) → Nat
  | [] => 0
  | d :: r => uptoBulk d + uptoBulkAll r
def uptoBulkEntries {H : Type} : List (Lit × DataW H) → Nat
  | [] => 0
  | x :: r => uptoBulkEntry x + uptoBulkEntries r
def uptoBulkEntry {H : Type} : Lit × DataW H → Nat
  | (.string bytes, d) => bytes.length + uptoBulk d + 1
  | (_, d) => uptoBulk d + 1
 end
def uptoSmall : (H : Type) → List (DataW H) → Bool := fun _ ds => decide (uptoBulkAll ds ≤ 1048576)
def OpenSpec.upto (s : _root_.Go.ChangeSpec) : _root_.Go.OpenSpec := { _root_.Go.OpenSpec.ofChange s with cond := some uptoSmall }

/-- 'sigillaw19.H2cTells', WHERE WHAT IT READS IS OF BULK AT MOST 1048576: true; the input reads as it did. -/
def h2cTellsUptoRow : OpenClaim := { program := "ytbpmbdlgmmabcaagreat", sum := "ebd8520b0ecdb2e1e797e3d160c52e151f60d69a128203692c0b7c23c6ea8d00", func := "sigil/sigillaw19.H2cTells", spec := "h2cTells", inPlace := ["math/bits.Add64", "math/bits.Sub64"], unfollowed := true, recurses := true, named := ["math/bits.divideError", "math/bits.overflowError"], apart := false, narrowed := true }
def H2cTellsUptoSaid : Prop := h2cTellsUptoRow.holds Tryz.pinned (OpenSpec.upto h2cTellsSpec)

/-- 'sigillaw19.H2cSends', WHERE WHAT IT READS IS OF BULK AT MOST 1048576: true; the input reads as it did. -/
def h2cSendsUptoRow : OpenClaim := { program := "ytbpmbdlgmmabcaagreat", sum := "ebd8520b0ecdb2e1e797e3d160c52e151f60d69a128203692c0b7c23c6ea8d00", func := "sigil/sigillaw19.H2cSends", spec := "h2cSends", inPlace := ["math/bits.Add64", "math/bits.Sub64"], unfollowed := true, recurses := true, named := ["math/bits.divideError", "math/bits.overflowError"], apart := false, narrowed := true }
def H2cSendsUptoSaid : Prop := h2cSendsUptoRow.holds Tryz.pinned (OpenSpec.upto h2cSendsSpec)

end Rows
end Go.Proofs.YtbpmbdlgmmabcaaGreat
