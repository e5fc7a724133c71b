/-
  No cell of these rows narrows 'for every input' (looked for: loops, veiled, ifaces, maps, wideKeys, modest, calm, conditions, laid).
  DERIVED. THE GIVEN ROWS OF THIS SEAT. 4 by the template 'for every input the law returns true; each argument reads behind the call as it read before'; 0 by the template 'total and deterministic' (their statements: YtidginchkjhobaaGreatTotals.lean).
  GIVEN WITH THE SEED: the statements are not yours to turn. If you find one false, say at which input.
  Laid BY PROGRAM, IN A SANDBOX (cutbox-rows.mjs): the forced cells as the released guide's own fill.sh prints them over the translation c35b60e5b894047e… (all of the seat's roots in one cut). By AI agents, Wed Nov 11 2026. No macro, syntax, notation, axiom, sorry.
-/
import Derived.Test.YtidginchkjhobaaGreatChecked
import GoSem.Claim
import GoSem.ClaimJoined
import GoSem.ClaimMapViews
import Derived.JoinedTies
import Derived.KernelRfl
namespace Go.Proofs.YtidginchkjhobaaGreat
/- THE CELL 'sum', in the pinned program and in every row, IS THE sha256 OF THE DUMP (.gsa) THAT YtidginchkjhobaaGreatProg.lean LOADS. Nothing in Lean hashes anything: it is a label: what it is worth is what the hold of that sum in a sandbox is worth. -/
noncomputable def Tryz.pinned : Pinned := { name := "ytidginchkjhobaagreat", sum := "c35b60e5b894047ead01f93a83441eb70bfde5b1ae781d13cf006cf0873f321d", checked := Tryz.checked }
namespace Rows
def none {H : Type} : Left H := { results := [], args := [] }

/-- 'eliminantlaw19.SyzygyIs': WHATEVER THE INPUT: true; the input reads as it did. -/
def syzygyIsSpec : ChangeSpec := { name := "syzygyIs", fn := fun _ => fun
  | [d1, d2, d3] => { results := [.lit (.bool true)], args := [d1, d2, d3] }
  | _ => none }
def syzygyIsRow : OpenClaim := { program := "ytidginchkjhobaagreat", sum := "c35b60e5b894047ead01f93a83441eb70bfde5b1ae781d13cf006cf0873f321d", func := "eliminant/eliminantlaw19.SyzygyIs", spec := "syzygyIs", unfollowed := true, recurses := true, plainKeys := false, apart := false }
def SyzygyIsSaid : Prop := syzygyIsRow.holds Tryz.pinned (OpenSpec.ofChange syzygyIsSpec)

/-- ITS FALSE NEIGHBOUR: 'it returns false'. Refute it at one input. -/
def syzygyIsWrong : ChangeSpec := { name := "syzygyIs", fn := fun _ => fun
  | [d1, d2, d3] => { results := [.lit (.bool false)], args := [d1, d2, d3] }
  | _ => none }
def SyzygyIsWrongFalsely : Prop := syzygyIsRow.holds Tryz.pinned (OpenSpec.ofChange syzygyIsWrong)

/-- 'eliminantlaw19.SyzygySchreyer': WHATEVER THE INPUT: true; the input reads as it did. -/
def syzygySchreyerSpec : ChangeSpec := { name := "syzygySchreyer", fn := fun _ => fun
  | [d1, d2, d3] => { results := [.lit (.bool true)], args := [d1, d2, d3] }
  | _ => none }
def syzygySchreyerRow : OpenClaim := { program := "ytidginchkjhobaagreat", sum := "c35b60e5b894047ead01f93a83441eb70bfde5b1ae781d13cf006cf0873f321d", func := "eliminant/eliminantlaw19.SyzygySchreyer", spec := "syzygySchreyer", unfollowed := true, recurses := true, plainKeys := false, apart := false }
def SyzygySchreyerSaid : Prop := syzygySchreyerRow.holds Tryz.pinned (OpenSpec.ofChange syzygySchreyerSpec)

/-- ITS FALSE NEIGHBOUR: 'it returns false'. Refute it at one input. -/
def syzygySchreyerWrong : ChangeSpec := { name := "syzygySchreyer", fn := fun _ => fun
  | [d1, d2, d3] => { results := [.lit (.bool false)], args := [d1, d2, d3] }
  | _ => none }
def SyzygySchreyerWrongFalsely : Prop := syzygySchreyerRow.holds Tryz.pinned (OpenSpec.ofChange syzygySchreyerWrong)

/-- 'eliminantlaw19.SyzygyErrors': WHATEVER THE INPUT: true; the input reads as it did. -/
def syzygyErrorsSpec : ChangeSpec := { name := "syzygyErrors", fn := fun _ => fun
  | [d1, d2, d3] => { results := [.lit (.bool true)], args := [d1, d2, d3] }
  | _ => none }
def syzygyErrorsRow : OpenClaim := { program := "ytidginchkjhobaagreat", sum := "c35b60e5b894047ead01f93a83441eb70bfde5b1ae781d13cf006cf0873f321d", func := "eliminant/eliminantlaw19.SyzygyErrors", spec := "syzygyErrors", unfollowed := true, recurses := true, plainKeys := false, apart := false }
def SyzygyErrorsSaid : Prop := syzygyErrorsRow.holds Tryz.pinned (OpenSpec.ofChange syzygyErrorsSpec)

/-- ITS FALSE NEIGHBOUR: 'it returns false'. Refute it at one input. -/
def syzygyErrorsWrong : ChangeSpec := { name := "syzygyErrors", fn := fun _ => fun
  | [d1, d2, d3] => { results := [.lit (.bool false)], args := [d1, d2, d3] }
  | _ => none }
def SyzygyErrorsWrongFalsely : Prop := syzygyErrorsRow.holds Tryz.pinned (OpenSpec.ofChange syzygyErrorsWrong)

/-- 'eliminantlaw19.SyzygyExpresses': WHATEVER THE INPUT: true; the input reads as it did. -/
def syzygyExpressesSpec : ChangeSpec := { name := "syzygyExpresses", fn := fun _ => fun
  | [d1, d2, d3] => { results := [.lit (.bool true)], args := [d1, d2, d3] }
  | _ => none }
def syzygyExpressesRow : OpenClaim := { program := "ytidginchkjhobaagreat", sum := "c35b60e5b894047ead01f93a83441eb70bfde5b1ae781d13cf006cf0873f321d", func := "eliminant/eliminantlaw19.SyzygyExpresses", spec := "syzygyExpresses", unfollowed := true, recurses := true, plainKeys := false, apart := false }
def SyzygyExpressesSaid : Prop := syzygyExpressesRow.holds Tryz.pinned (OpenSpec.ofChange syzygyExpressesSpec)

/-- ITS FALSE NEIGHBOUR: 'it returns false'. Refute it at one input. -/
def syzygyExpressesWrong : ChangeSpec := { name := "syzygyExpresses", fn := fun _ => fun
  | [d1, d2, d3] => { results := [.lit (.bool false)], args := [d1, d2, d3] }
  | _ => none }
def SyzygyExpressesWrongFalsely : Prop := syzygyExpressesRow.holds Tryz.pinned (OpenSpec.ofChange syzygyExpressesWrong)

/- THE SECOND FORM. 'bulk': how many values and letters a reading holds, each counted each time it is reached (what is shared counts as often as it is met; a slice's spare places count too). A statement '..UptoSaid' is the law's where the arguments, and the package variables that the reading takes, are together of bulk at most 1048576: NARROWER than '..Said'. Prove '..Said' where nothing that the law and all that it calls make is longer than what came in: it says more and counts as full. Else prove '..UptoSaid'. A law counts once. -/
mutual
def uptoBulk {H : Type} : DataW H → Nat
  | .lit (.string bytes) => bytes.length + 1
  | .lit _ => 1
  | .nil => 1
  | .ptr d => uptoBulk d + 1
  | .slice elems spare => uptoBulkAll elems + uptoBulkAll spare + 1
  | .agg parts => uptoBulkAll parts + 1
  | .iface _ d => uptoBulk d + 1
  | .map entries => uptoBulkEntries entries + 1
  | .held _ => 1
def uptoBulkAll {H : Type} : List (DataW H) → Nat
  | [] => 0
  | d :: r => uptoBulk d + uptoBulkAll r
def uptoBulkEntries {H : Type} : List (Lit × DataW H) → Nat
  | [] => 0
  | x :: r => uptoBulkEntry x + uptoBulkEntries r
def uptoBulkEntry {H : Type} : Lit × DataW H → Nat
  | (.string bytes, d) => bytes.length + uptoBulk d + 1
  | (_, d) => uptoBulk d + 1
 end
def uptoSmall : (H : Type) → List (DataW H) → Bool := fun _ ds => decide (uptoBulkAll ds ≤ 1048576)
def OpenSpec.upto (s : _root_.Go.ChangeSpec) : _root_.Go.OpenSpec := { _root_.Go.OpenSpec.ofChange s with cond := some uptoSmall }

/-- 'eliminantlaw19.SyzygyIs', WHERE WHAT IT READS IS OF BULK AT MOST 1048576: true; the input reads as it did. -/
def syzygyIsUptoRow : OpenClaim := { program := "ytidginchkjhobaagreat", sum := "c35b60e5b894047ead01f93a83441eb70bfde5b1ae781d13cf006cf0873f321d", func := "eliminant/eliminantlaw19.SyzygyIs", spec := "syzygyIs", unfollowed := true, recurses := true, plainKeys := false, apart := false, narrowed := true }
def SyzygyIsUptoSaid : Prop := syzygyIsUptoRow.holds Tryz.pinned (OpenSpec.upto syzygyIsSpec)

/-- 'eliminantlaw19.SyzygySchreyer', WHERE WHAT IT READS IS OF BULK AT MOST 1048576: true; the input reads as it did. -/
def syzygySchreyerUptoRow : OpenClaim := { program := "ytidginchkjhobaagreat", sum := "c35b60e5b894047ead01f93a83441eb70bfde5b1ae781d13cf006cf0873f321d", func := "eliminant/eliminantlaw19.SyzygySchreyer", spec := "syzygySchreyer", unfollowed := true, recurses := true, plainKeys := false, apart := false, narrowed := true }
def SyzygySchreyerUptoSaid : Prop := syzygySchreyerUptoRow.holds Tryz.pinned (OpenSpec.upto syzygySchreyerSpec)

/-- 'eliminantlaw19.SyzygyErrors', WHERE WHAT IT READS IS OF BULK AT MOST 1048576: true; the input reads as it did. -/
def syzygyErrorsUptoRow : OpenClaim := { program := "ytidginchkjhobaagreat", sum := "c35b60e5b894047ead01f93a83441eb70bfde5b1ae781d13cf006cf0873f321d", func := "eliminant/eliminantlaw19.SyzygyErrors", spec := "syzygyErrors", unfollowed := true, recurses := true, plainKeys := false, apart := false, narrowed := true }
def SyzygyErrorsUptoSaid : Prop := syzygyErrorsUptoRow.holds Tryz.pinned (OpenSpec.upto syzygyErrorsSpec)

/-- 'eliminantlaw19.SyzygyExpresses', WHERE WHAT IT READS IS OF BULK AT MOST 1048576: true; the input reads as it did. -/
def syzygyExpressesUptoRow : OpenClaim := { program := "ytidginchkjhobaagreat", sum := "c35b60e5b894047ead01f93a83441eb70bfde5b1ae781d13cf006cf0873f321d", func := "eliminant/eliminantlaw19.SyzygyExpresses", spec := "syzygyExpresses", unfollowed := true, recurses := true, plainKeys := false, apart := false, narrowed := true }
def SyzygyExpressesUptoSaid : Prop := syzygyExpressesUptoRow.holds Tryz.pinned (OpenSpec.upto syzygyExpressesSpec)

end Rows
end Go.Proofs.YtidginchkjhobaaGreat
