/-
  No cell of these rows narrows 'for every input' (looked for: loops, veiled, ifaces, maps, wideKeys, modest, calm, conditions, laid).
  DERIVED. THE GIVEN ROWS OF THIS SEAT. 4 by the template 'for every input the law returns true; each argument reads behind the call as it read before'; 0 by the template 'total and deterministic' (their statements: YtefpgecinlekpaaGreatTotals.lean).
  GIVEN WITH THE SEED: the statements are not yours to turn. If you find one false, say at which input.
  Laid BY PROGRAM, IN A SANDBOX (cutbox-rows.mjs): the forced cells as the released guide's own fill.sh prints them over the translation b6645a4cbdcf9461… (all of the seat's roots in one cut). By AI agents, Wed Nov 11 2026. No macro, syntax, notation, axiom, sorry.
-/
import Derived.Test.YtefpgecinlekpaaGreatChecked
import GoSem.Claim
import GoSem.ClaimJoined
import GoSem.ClaimMapViews
import Derived.JoinedTies
import Derived.KernelRfl
namespace Go.Proofs.YtefpgecinlekpaaGreat
/- THE CELL 'sum', in the pinned program and in every row, IS THE sha256 OF THE DUMP (.gsa) THAT YtefpgecinlekpaaGreatProg.lean LOADS. Nothing in Lean hashes anything: it is a label: what it is worth is what the hold of that sum in a sandbox is worth. -/
noncomputable def Tryz.pinned : Pinned := { name := "ytefpgecinlekpaagreat", sum := "b6645a4cbdcf946159e426fa41d06ec2a61e1f314ffadb2b243bd963b67b2319", checked := Tryz.checked }
namespace Rows
def none {H : Type} : Left H := { results := [], args := [] }

/-- 'eliminantlaw12.DivisionMatchesReference': WHATEVER THE INPUT: true; the input reads as it did. -/
def divisionMatchesReferenceSpec : ChangeSpec := { name := "divisionMatchesReference", fn := fun _ => fun
  | [d1, d2, d3] => { results := [.lit (.bool true)], args := [d1, d2, d3] }
  | _ => none }
def divisionMatchesReferenceRow : OpenClaim := { program := "ytefpgecinlekpaagreat", sum := "b6645a4cbdcf946159e426fa41d06ec2a61e1f314ffadb2b243bd963b67b2319", func := "eliminant/eliminantlaw12.DivisionMatchesReference", spec := "divisionMatchesReference", unfollowed := true, recurses := true, plainKeys := false, apart := false }
def DivisionMatchesReferenceSaid : Prop := divisionMatchesReferenceRow.holds Tryz.pinned (OpenSpec.ofChange divisionMatchesReferenceSpec)

/-- ITS FALSE NEIGHBOUR: 'it returns false'. Refute it at one input. -/
def divisionMatchesReferenceWrong : ChangeSpec := { name := "divisionMatchesReference", fn := fun _ => fun
  | [d1, d2, d3] => { results := [.lit (.bool false)], args := [d1, d2, d3] }
  | _ => none }
def DivisionMatchesReferenceWrongFalsely : Prop := divisionMatchesReferenceRow.holds Tryz.pinned (OpenSpec.ofChange divisionMatchesReferenceWrong)

/-- 'eliminantlaw12.DivisionPairs': WHATEVER THE INPUT: true; the input reads as it did. -/
def divisionPairsSpec : ChangeSpec := { name := "divisionPairs", fn := fun _ => fun
  | [d1, d2, d3] => { results := [.lit (.bool true)], args := [d1, d2, d3] }
  | _ => none }
def divisionPairsRow : OpenClaim := { program := "ytefpgecinlekpaagreat", sum := "b6645a4cbdcf946159e426fa41d06ec2a61e1f314ffadb2b243bd963b67b2319", func := "eliminant/eliminantlaw12.DivisionPairs", spec := "divisionPairs", unfollowed := true, recurses := true, plainKeys := false, apart := false }
def DivisionPairsSaid : Prop := divisionPairsRow.holds Tryz.pinned (OpenSpec.ofChange divisionPairsSpec)

/-- ITS FALSE NEIGHBOUR: 'it returns false'. Refute it at one input. -/
def divisionPairsWrong : ChangeSpec := { name := "divisionPairs", fn := fun _ => fun
  | [d1, d2, d3] => { results := [.lit (.bool false)], args := [d1, d2, d3] }
  | _ => none }
def DivisionPairsWrongFalsely : Prop := divisionPairsRow.holds Tryz.pinned (OpenSpec.ofChange divisionPairsWrong)

/-- 'eliminantlaw12.DivisionBases': WHATEVER THE INPUT: true; the input reads as it did. -/
def divisionBasesSpec : ChangeSpec := { name := "divisionBases", fn := fun _ => fun
  | [d1, d2, d3] => { results := [.lit (.bool true)], args := [d1, d2, d3] }
  | _ => none }
def divisionBasesRow : OpenClaim := { program := "ytefpgecinlekpaagreat", sum := "b6645a4cbdcf946159e426fa41d06ec2a61e1f314ffadb2b243bd963b67b2319", func := "eliminant/eliminantlaw12.DivisionBases", spec := "divisionBases", unfollowed := true, recurses := true, plainKeys := false, apart := false }
def DivisionBasesSaid : Prop := divisionBasesRow.holds Tryz.pinned (OpenSpec.ofChange divisionBasesSpec)

/-- ITS FALSE NEIGHBOUR: 'it returns false'. Refute it at one input. -/
def divisionBasesWrong : ChangeSpec := { name := "divisionBases", fn := fun _ => fun
  | [d1, d2, d3] => { results := [.lit (.bool false)], args := [d1, d2, d3] }
  | _ => none }
def DivisionBasesWrongFalsely : Prop := divisionBasesRow.holds Tryz.pinned (OpenSpec.ofChange divisionBasesWrong)

/-- 'eliminantlaw12.DivisionErrors': WHATEVER THE INPUT: true; the input reads as it did. -/
def divisionErrorsSpec : ChangeSpec := { name := "divisionErrors", fn := fun _ => fun
  | [d1, d2] => { results := [.lit (.bool true)], args := [d1, d2] }
  | _ => none }
def divisionErrorsRow : OpenClaim := { program := "ytefpgecinlekpaagreat", sum := "b6645a4cbdcf946159e426fa41d06ec2a61e1f314ffadb2b243bd963b67b2319", func := "eliminant/eliminantlaw12.DivisionErrors", spec := "divisionErrors", unfollowed := true, recurses := true, plainKeys := false, apart := false }
def DivisionErrorsSaid : Prop := divisionErrorsRow.holds Tryz.pinned (OpenSpec.ofChange divisionErrorsSpec)

/-- ITS FALSE NEIGHBOUR: 'it returns false'. Refute it at one input. -/
def divisionErrorsWrong : ChangeSpec := { name := "divisionErrors", fn := fun _ => fun
  | [d1, d2] => { results := [.lit (.bool false)], args := [d1, d2] }
  | _ => none }
def DivisionErrorsWrongFalsely : Prop := divisionErrorsRow.holds Tryz.pinned (OpenSpec.ofChange divisionErrorsWrong)

/- THE SECOND FORM. 'bulk': how many values and letters a reading holds, each counted each time it is reached (what is shared counts as often as it is met; a slice's spare places count too). A statement '..UptoSaid' is the law's where the arguments, and the package variables that the reading takes, are together of bulk at most 1048576: NARROWER than '..Said'. Prove '..Said' where nothing that the law and all that it calls make is longer than what came in: it says more and counts as full. Else prove '..UptoSaid'. A law counts once. -/
mutual
def uptoBulk {H : Type} : DataW H → Nat
  | .lit (.string bytes) => bytes.length + 1
  | .lit _ => 1
  | .nil => 1
  | .ptr d => uptoBulk d + 1
  | .slice elems spare => uptoBulkAll elems + uptoBulkAll spare + 1
  | .agg parts => uptoBulkAll parts + 1
  | .iface _ d => uptoBulk d + 1
  | .map entries => uptoBulkEntries entries + 1
  | .held _ => 1
def uptoBulkAll {H : Type} : List (DataW H) → Nat
  | [] => 0
  | d :: r => uptoBulk d + uptoBulkAll r
def uptoBulkEntries {H : Type} : List (Lit × DataW H) → Nat
  | [] => 0
  | x :: r => uptoBulkEntry x + uptoBulkEntries r
def uptoBulkEntry {H : Type} : Lit × DataW H → Nat
  | (.string bytes, d) => bytes.length + uptoBulk d + 1
  | (_, d) => uptoBulk d + 1
 end
def uptoSmall : (H : Type) → List (DataW H) → Bool := fun _ ds => decide (uptoBulkAll ds ≤ 1048576)
def OpenSpec.upto (s : _root_.Go.ChangeSpec) : _root_.Go.OpenSpec := { _root_.Go.OpenSpec.ofChange s with cond := some uptoSmall }

/-- 'eliminantlaw12.DivisionMatchesReference', WHERE WHAT IT READS IS OF BULK AT MOST 1048576: true; the input reads as it did. -/
def divisionMatchesReferenceUptoRow : OpenClaim := { program := "ytefpgecinlekpaagreat", sum := "b6645a4cbdcf946159e426fa41d06ec2a61e1f314ffadb2b243bd963b67b2319", func := "eliminant/eliminantlaw12.DivisionMatchesReference", spec := "divisionMatchesReference", unfollowed := true, recurses := true, plainKeys := false, apart := false, narrowed := true }
def DivisionMatchesReferenceUptoSaid : Prop := divisionMatchesReferenceUptoRow.holds Tryz.pinned (OpenSpec.upto divisionMatchesReferenceSpec)

/-- 'eliminantlaw12.DivisionPairs', WHERE WHAT IT READS IS OF BULK AT MOST 1048576: true; the input reads as it did. -/
def divisionPairsUptoRow : OpenClaim := { program := "ytefpgecinlekpaagreat", sum := "b6645a4cbdcf946159e426fa41d06ec2a61e1f314ffadb2b243bd963b67b2319", func := "eliminant/eliminantlaw12.DivisionPairs", spec := "divisionPairs", unfollowed := true, recurses := true, plainKeys := false, apart := false, narrowed := true }
def DivisionPairsUptoSaid : Prop := divisionPairsUptoRow.holds Tryz.pinned (OpenSpec.upto divisionPairsSpec)

/-- 'eliminantlaw12.DivisionBases', WHERE WHAT IT READS IS OF BULK AT MOST 1048576: true; the input reads as it did. -/
def divisionBasesUptoRow : OpenClaim := { program := "ytefpgecinlekpaagreat", sum := "b6645a4cbdcf946159e426fa41d06ec2a61e1f314ffadb2b243bd963b67b2319", func := "eliminant/eliminantlaw12.DivisionBases", spec := "divisionBases", unfollowed := true, recurses := true, plainKeys := false, apart := false, narrowed := true }
def DivisionBasesUptoSaid : Prop := divisionBasesUptoRow.holds Tryz.pinned (OpenSpec.upto divisionBasesSpec)

/-- 'eliminantlaw12.DivisionErrors', WHERE WHAT IT READS IS OF BULK AT MOST 1048576: true; the input reads as it did. -/
def divisionErrorsUptoRow : OpenClaim := { program := "ytefpgecinlekpaagreat", sum := "b6645a4cbdcf946159e426fa41d06ec2a61e1f314ffadb2b243bd963b67b2319", func := "eliminant/eliminantlaw12.DivisionErrors", spec := "divisionErrors", unfollowed := true, recurses := true, plainKeys := false, apart := false, narrowed := true }
def DivisionErrorsUptoSaid : Prop := divisionErrorsUptoRow.holds Tryz.pinned (OpenSpec.upto divisionErrorsSpec)

end Rows
end Go.Proofs.YtefpgecinlekpaaGreat
