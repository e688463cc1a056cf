/-
  No cell of these rows narrows 'for every input' (looked for: loops, veiled, ifaces, maps, wideKeys, modest, calm, conditions, laid).
  DERIVED. THE GIVEN ROWS OF THIS SEAT. 6 by the template 'for every input the law returns true; each argument reads behind the call as it read before'; 0 by the template 'total and deterministic' (their statements: YtkgmlngmojnpmaaTotals.lean).
  GIVEN WITH THE SEED: the statements are not yours to turn. If you find one false, say at which input.
  Laid BY PROGRAM, IN A SANDBOX (cutbox-rows.mjs): the forced cells as the released guide's own fill.sh prints them over the translation 138283546c41d3d2… (all of the seat's roots in one cut). By AI agents, Wed Nov 11 2026. No macro, syntax, notation, axiom, sorry.
-/
import Derived.Test.YtkgmlngmojnpmaaChecked
import GoSem.Claim
import GoSem.ClaimJoined
import GoSem.ClaimMapViews
import Derived.JoinedTies
import Derived.KernelRfl
namespace Go.Proofs.Ytkgmlngmojnpmaa
/- THE CELL 'sum', in the pinned program and in every row, IS THE sha256 OF THE DUMP (.gsa) THAT YtkgmlngmojnpmaaProg.lean LOADS. Nothing in Lean hashes anything: it is a label: what it is worth is what the hold of that sum in a sandbox is worth. -/
noncomputable def Try.pinned : Pinned := { name := "ytkgmlngmojnpmaa", sum := "138283546c41d3d22a70a7f4a0aa80e85def4f93485ee6f5365e72b51f5016d3", checked := Try.checked }
namespace Rows
def none {H : Type} : Left H := { results := [], args := [] }

/-- 'roundhouselaw14.TallyScripts': WHATEVER THE INPUT: true; the input reads as it did. -/
def tallyScriptsSpec : ChangeSpec := { name := "tallyScripts", fn := fun _ => fun
  | [d1, d2] => { results := [.lit (.bool true)], args := [d1, d2] }
  | _ => none }
def tallyScriptsRow : OpenClaim := { program := "ytkgmlngmojnpmaa", sum := "138283546c41d3d22a70a7f4a0aa80e85def4f93485ee6f5365e72b51f5016d3", func := "roundhouse/roundhouselaw14.TallyScripts", spec := "tallyScripts", unfollowed := true, recurses := true, apart := false }
def TallyScriptsSaid : Prop := tallyScriptsRow.holds Try.pinned (OpenSpec.ofChange tallyScriptsSpec)

/-- ITS FALSE NEIGHBOUR: 'it returns false'. Refute it at one input. -/
def tallyScriptsWrong : ChangeSpec := { name := "tallyScripts", fn := fun _ => fun
  | [d1, d2] => { results := [.lit (.bool false)], args := [d1, d2] }
  | _ => none }
def TallyScriptsWrongFalsely : Prop := tallyScriptsRow.holds Try.pinned (OpenSpec.ofChange tallyScriptsWrong)

/-- 'roundhouselaw14.TallyOneWay': WHATEVER THE INPUT: true; the input reads as it did. -/
def tallyOneWaySpec : ChangeSpec := { name := "tallyOneWay", fn := fun _ => fun
  | [d1, d2] => { results := [.lit (.bool true)], args := [d1, d2] }
  | _ => none }
def tallyOneWayRow : OpenClaim := { program := "ytkgmlngmojnpmaa", sum := "138283546c41d3d22a70a7f4a0aa80e85def4f93485ee6f5365e72b51f5016d3", func := "roundhouse/roundhouselaw14.TallyOneWay", spec := "tallyOneWay", unfollowed := true, recurses := true, apart := false }
def TallyOneWaySaid : Prop := tallyOneWayRow.holds Try.pinned (OpenSpec.ofChange tallyOneWaySpec)

/-- ITS FALSE NEIGHBOUR: 'it returns false'. Refute it at one input. -/
def tallyOneWayWrong : ChangeSpec := { name := "tallyOneWay", fn := fun _ => fun
  | [d1, d2] => { results := [.lit (.bool false)], args := [d1, d2] }
  | _ => none }
def TallyOneWayWrongFalsely : Prop := tallyOneWayRow.holds Try.pinned (OpenSpec.ofChange tallyOneWayWrong)

/-- 'roundhouselaw14.TallyTwice': WHATEVER THE INPUT: true; the input reads as it did. -/
def tallyTwiceSpec : ChangeSpec := { name := "tallyTwice", fn := fun _ => fun
  | [d1, d2] => { results := [.lit (.bool true)], args := [d1, d2] }
  | _ => none }
def tallyTwiceRow : OpenClaim := { program := "ytkgmlngmojnpmaa", sum := "138283546c41d3d22a70a7f4a0aa80e85def4f93485ee6f5365e72b51f5016d3", func := "roundhouse/roundhouselaw14.TallyTwice", spec := "tallyTwice", unfollowed := true, recurses := true, apart := false }
def TallyTwiceSaid : Prop := tallyTwiceRow.holds Try.pinned (OpenSpec.ofChange tallyTwiceSpec)

/-- ITS FALSE NEIGHBOUR: 'it returns false'. Refute it at one input. -/
def tallyTwiceWrong : ChangeSpec := { name := "tallyTwice", fn := fun _ => fun
  | [d1, d2] => { results := [.lit (.bool false)], args := [d1, d2] }
  | _ => none }
def TallyTwiceWrongFalsely : Prop := tallyTwiceRow.holds Try.pinned (OpenSpec.ofChange tallyTwiceWrong)

/-- 'roundhouselaw14.TallyNil': WHATEVER THE INPUT: true; the input reads as it did. -/
def tallyNilSpec : ChangeSpec := { name := "tallyNil", fn := fun _ => fun
  | [d] => { results := [.lit (.bool true)], args := [d] }
  | _ => none }
def tallyNilRow : OpenClaim := { program := "ytkgmlngmojnpmaa", sum := "138283546c41d3d22a70a7f4a0aa80e85def4f93485ee6f5365e72b51f5016d3", func := "roundhouse/roundhouselaw14.TallyNil", spec := "tallyNil", unfollowed := true, recurses := true, apart := false }
def TallyNilSaid : Prop := tallyNilRow.holds Try.pinned (OpenSpec.ofChange tallyNilSpec)

/-- ITS FALSE NEIGHBOUR: 'it returns false'. Refute it at one input. -/
def tallyNilWrong : ChangeSpec := { name := "tallyNil", fn := fun _ => fun
  | [d] => { results := [.lit (.bool false)], args := [d] }
  | _ => none }
def TallyNilWrongFalsely : Prop := tallyNilRow.holds Try.pinned (OpenSpec.ofChange tallyNilWrong)

/-- 'roundhouselaw14.TallyOrder': WHATEVER THE INPUT: true; the input reads as it did. -/
def tallyOrderSpec : ChangeSpec := { name := "tallyOrder", fn := fun _ => fun
  | [d1, d2, d3] => { results := [.lit (.bool true)], args := [d1, d2, d3] }
  | _ => none }
def tallyOrderRow : OpenClaim := { program := "ytkgmlngmojnpmaa", sum := "138283546c41d3d22a70a7f4a0aa80e85def4f93485ee6f5365e72b51f5016d3", func := "roundhouse/roundhouselaw14.TallyOrder", spec := "tallyOrder", unfollowed := true, recurses := true, apart := false }
def TallyOrderSaid : Prop := tallyOrderRow.holds Try.pinned (OpenSpec.ofChange tallyOrderSpec)

/-- ITS FALSE NEIGHBOUR: 'it returns false'. Refute it at one input. -/
def tallyOrderWrong : ChangeSpec := { name := "tallyOrder", fn := fun _ => fun
  | [d1, d2, d3] => { results := [.lit (.bool false)], args := [d1, d2, d3] }
  | _ => none }
def TallyOrderWrongFalsely : Prop := tallyOrderRow.holds Try.pinned (OpenSpec.ofChange tallyOrderWrong)

/-- 'roundhouselaw14.TallyMissing': WHATEVER THE INPUT: true; the input reads as it did. -/
def tallyMissingSpec : ChangeSpec := { name := "tallyMissing", fn := fun _ => fun
  | [d1, d2] => { results := [.lit (.bool true)], args := [d1, d2] }
  | _ => none }
def tallyMissingRow : OpenClaim := { program := "ytkgmlngmojnpmaa", sum := "138283546c41d3d22a70a7f4a0aa80e85def4f93485ee6f5365e72b51f5016d3", func := "roundhouse/roundhouselaw14.TallyMissing", spec := "tallyMissing", unfollowed := true, recurses := true, apart := false }
def TallyMissingSaid : Prop := tallyMissingRow.holds Try.pinned (OpenSpec.ofChange tallyMissingSpec)

/-- ITS FALSE NEIGHBOUR: 'it returns false'. Refute it at one input. -/
def tallyMissingWrong : ChangeSpec := { name := "tallyMissing", fn := fun _ => fun
  | [d1, d2] => { results := [.lit (.bool false)], args := [d1, d2] }
  | _ => none }
def TallyMissingWrongFalsely : Prop := tallyMissingRow.holds Try.pinned (OpenSpec.ofChange tallyMissingWrong)

/- THE SECOND FORM. 'bulk': how many values and letters a reading holds, each counted each time it is reached (what is shared counts as often as it is met; a slice's spare places count too). A statement '..UptoSaid' is the law's where the arguments, and the package variables that the reading takes, are together of bulk at most 1048576: NARROWER than '..Said'. Prove '..Said' where nothing that the law and all that it calls make is longer than what came in: it says more and counts as full. Else prove '..UptoSaid'. A law counts once. -/
mutual
def uptoBulk {H : Type} : DataW H → Nat
  | .lit (.string bytes) => bytes.length + 1
  | .lit _ => 1
  | .nil => 1
  | .ptr d => uptoBulk d + 1
  | .slice elems spare => uptoBulkAll elems + uptoBulkAll spare + 1
  | .agg parts => uptoBulkAll parts + 1
  | .iface _ d => uptoBulk d + 1
  | .map entries => uptoBulkEntries entries + 1
  | .held _ => 1
def uptoBulkAll {H : Type} : List (DataW H) → Nat
  | [] => 0
  | d :: r => uptoBulk d + uptoBulkAll r
def uptoBulkEntries {H : Type} : List (Lit × DataW H) → Nat
  | [] => 0
  | x :: r => uptoBulkEntry x + uptoBulkEntries r
def uptoBulkEntry {H : Type} : Lit × DataW H → Nat
  | (.string bytes, d) => bytes.length + uptoBulk d + 1
  | (_, d) => uptoBulk d + 1
 end
def uptoSmall : (H : Type) → List (DataW H) → Bool := fun _ ds => decide (uptoBulkAll ds ≤ 1048576)
def OpenSpec.upto (s : _root_.Go.ChangeSpec) : _root_.Go.OpenSpec := { _root_.Go.OpenSpec.ofChange s with cond := some uptoSmall }

/-- 'roundhouselaw14.TallyScripts', WHERE WHAT IT READS IS OF BULK AT MOST 1048576: true; the input reads as it did. -/
def tallyScriptsUptoRow : OpenClaim := { program := "ytkgmlngmojnpmaa", sum := "138283546c41d3d22a70a7f4a0aa80e85def4f93485ee6f5365e72b51f5016d3", func := "roundhouse/roundhouselaw14.TallyScripts", spec := "tallyScripts", unfollowed := true, recurses := true, apart := false, narrowed := true }
def TallyScriptsUptoSaid : Prop := tallyScriptsUptoRow.holds Try.pinned (OpenSpec.upto tallyScriptsSpec)

/-- 'roundhouselaw14.TallyOneWay', WHERE WHAT IT READS IS OF BULK AT MOST 1048576: true; the input reads as it did. -/
def tallyOneWayUptoRow : OpenClaim := { program := "ytkgmlngmojnpmaa", sum := "138283546c41d3d22a70a7f4a0aa80e85def4f93485ee6f5365e72b51f5016d3", func := "roundhouse/roundhouselaw14.TallyOneWay", spec := "tallyOneWay", unfollowed := true, recurses := true, apart := false, narrowed := true }
def TallyOneWayUptoSaid : Prop := tallyOneWayUptoRow.holds Try.pinned (OpenSpec.upto tallyOneWaySpec)

/-- 'roundhouselaw14.TallyTwice', WHERE WHAT IT READS IS OF BULK AT MOST 1048576: true; the input reads as it did. -/
def tallyTwiceUptoRow : OpenClaim := { program := "ytkgmlngmojnpmaa", sum := "138283546c41d3d22a70a7f4a0aa80e85def4f93485ee6f5365e72b51f5016d3", func := "roundhouse/roundhouselaw14.TallyTwice", spec := "tallyTwice", unfollowed := true, recurses := true, apart := false, narrowed := true }
def TallyTwiceUptoSaid : Prop := tallyTwiceUptoRow.holds Try.pinned (OpenSpec.upto tallyTwiceSpec)

/-- 'roundhouselaw14.TallyNil', WHERE WHAT IT READS IS OF BULK AT MOST 1048576: true; the input reads as it did. -/
def tallyNilUptoRow : OpenClaim := { program := "ytkgmlngmojnpmaa", sum := "138283546c41d3d22a70a7f4a0aa80e85def4f93485ee6f5365e72b51f5016d3", func := "roundhouse/roundhouselaw14.TallyNil", spec := "tallyNil", unfollowed := true, recurses := true, apart := false, narrowed := true }
def TallyNilUptoSaid : Prop := tallyNilUptoRow.holds Try.pinned (OpenSpec.upto tallyNilSpec)

/-- 'roundhouselaw14.TallyOrder', WHERE WHAT IT READS IS OF BULK AT MOST 1048576: true; the input reads as it did. -/
def tallyOrderUptoRow : OpenClaim := { program := "ytkgmlngmojnpmaa", sum := "138283546c41d3d22a70a7f4a0aa80e85def4f93485ee6f5365e72b51f5016d3", func := "roundhouse/roundhouselaw14.TallyOrder", spec := "tallyOrder", unfollowed := true, recurses := true, apart := false, narrowed := true }
def TallyOrderUptoSaid : Prop := tallyOrderUptoRow.holds Try.pinned (OpenSpec.upto tallyOrderSpec)

/-- 'roundhouselaw14.TallyMissing', WHERE WHAT IT READS IS OF BULK AT MOST 1048576: true; the input reads as it did. -/
def tallyMissingUptoRow : OpenClaim := { program := "ytkgmlngmojnpmaa", sum := "138283546c41d3d22a70a7f4a0aa80e85def4f93485ee6f5365e72b51f5016d3", func := "roundhouse/roundhouselaw14.TallyMissing", spec := "tallyMissing", unfollowed := true, recurses := true, apart := false, narrowed := true }
def TallyMissingUptoSaid : Prop := tallyMissingUptoRow.holds Try.pinned (OpenSpec.upto tallyMissingSpec)

end Rows
end Go.Proofs.Ytkgmlngmojnpmaa
