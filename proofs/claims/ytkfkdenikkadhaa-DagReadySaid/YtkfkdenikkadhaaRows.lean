/-
  No cell of these rows narrows 'for every input' (looked for: loops, veiled, ifaces, maps, wideKeys, modest, calm, conditions, laid).
  DERIVED. THE GIVEN ROWS OF THIS SEAT. 6 by the template 'for every input the law returns true; each argument reads behind the call as it read before'; 0 by the template 'total and deterministic' (their statements: YtkfkdenikkadhaaTotals.lean).
  GIVEN WITH THE SEED: the statements are not yours to turn. If you find one false, say at which input.
  Laid BY PROGRAM, IN A SANDBOX (cutbox-rows.mjs): the forced cells as the released guide's own fill.sh prints them over the translation c36948452652e284… (all of the seat's roots in one cut). By AI agents, Wed Nov 11 2026. No macro, syntax, notation, axiom, sorry.
-/
import Derived.Test.YtkfkdenikkadhaaChecked
import GoSem.Claim
import GoSem.ClaimJoined
import GoSem.ClaimMapViews
import Derived.JoinedTies
import Derived.KernelRfl
namespace Go.Proofs.Ytkfkdenikkadhaa
/- THE CELL 'sum', in the pinned program and in every row, IS THE sha256 OF THE DUMP (.gsa) THAT YtkfkdenikkadhaaProg.lean LOADS. Nothing in Lean hashes anything: it is a label: what it is worth is what the hold of that sum in a sandbox is worth. -/
noncomputable def Try.pinned : Pinned := { name := "ytkfkdenikkadhaa", sum := "c36948452652e284e9725fc1cdbade6179b451e805e5efa72d642ea5c6b78848", checked := Try.checked }
namespace Rows
def none {H : Type} : Left H := { results := [], args := [] }

/-- 'roundhouselaw13.DagTells': WHATEVER THE INPUT: true; the input reads as it did. -/
def dagTellsSpec : ChangeSpec := { name := "dagTells", fn := fun _ => fun
  | [d] => { results := [.lit (.bool true)], args := [d] }
  | _ => none }
def dagTellsRow : OpenClaim := { program := "ytkfkdenikkadhaa", sum := "c36948452652e284e9725fc1cdbade6179b451e805e5efa72d642ea5c6b78848", func := "roundhouse/roundhouselaw13.DagTells", spec := "dagTells", unfollowed := true, recurses := true, apart := false }
def DagTellsSaid : Prop := dagTellsRow.holds Try.pinned (OpenSpec.ofChange dagTellsSpec)

/-- ITS FALSE NEIGHBOUR: 'it returns false'. Refute it at one input. -/
def dagTellsWrong : ChangeSpec := { name := "dagTells", fn := fun _ => fun
  | [d] => { results := [.lit (.bool false)], args := [d] }
  | _ => none }
def DagTellsWrongFalsely : Prop := dagTellsRow.holds Try.pinned (OpenSpec.ofChange dagTellsWrong)

/-- 'roundhouselaw13.DagCodes': WHATEVER THE INPUT: true; the input reads as it did. -/
def dagCodesSpec : ChangeSpec := { name := "dagCodes", fn := fun _ => fun
  | [d1, d2] => { results := [.lit (.bool true)], args := [d1, d2] }
  | _ => none }
def dagCodesRow : OpenClaim := { program := "ytkfkdenikkadhaa", sum := "c36948452652e284e9725fc1cdbade6179b451e805e5efa72d642ea5c6b78848", func := "roundhouse/roundhouselaw13.DagCodes", spec := "dagCodes", unfollowed := true, recurses := true, apart := false }
def DagCodesSaid : Prop := dagCodesRow.holds Try.pinned (OpenSpec.ofChange dagCodesSpec)

/-- ITS FALSE NEIGHBOUR: 'it returns false'. Refute it at one input. -/
def dagCodesWrong : ChangeSpec := { name := "dagCodes", fn := fun _ => fun
  | [d1, d2] => { results := [.lit (.bool false)], args := [d1, d2] }
  | _ => none }
def DagCodesWrongFalsely : Prop := dagCodesRow.holds Try.pinned (OpenSpec.ofChange dagCodesWrong)

/-- 'roundhouselaw13.DagOrder': WHATEVER THE INPUT: true; the input reads as it did. -/
def dagOrderSpec : ChangeSpec := { name := "dagOrder", fn := fun _ => fun
  | [d] => { results := [.lit (.bool true)], args := [d] }
  | _ => none }
def dagOrderRow : OpenClaim := { program := "ytkfkdenikkadhaa", sum := "c36948452652e284e9725fc1cdbade6179b451e805e5efa72d642ea5c6b78848", func := "roundhouse/roundhouselaw13.DagOrder", spec := "dagOrder", unfollowed := true, recurses := true, apart := false }
def DagOrderSaid : Prop := dagOrderRow.holds Try.pinned (OpenSpec.ofChange dagOrderSpec)

/-- ITS FALSE NEIGHBOUR: 'it returns false'. Refute it at one input. -/
def dagOrderWrong : ChangeSpec := { name := "dagOrder", fn := fun _ => fun
  | [d] => { results := [.lit (.bool false)], args := [d] }
  | _ => none }
def DagOrderWrongFalsely : Prop := dagOrderRow.holds Try.pinned (OpenSpec.ofChange dagOrderWrong)

/-- 'roundhouselaw13.DagRuns': WHATEVER THE INPUT: true; the input reads as it did. -/
def dagRunsSpec : ChangeSpec := { name := "dagRuns", fn := fun _ => fun
  | [d1, d2] => { results := [.lit (.bool true)], args := [d1, d2] }
  | _ => none }
def dagRunsRow : OpenClaim := { program := "ytkfkdenikkadhaa", sum := "c36948452652e284e9725fc1cdbade6179b451e805e5efa72d642ea5c6b78848", func := "roundhouse/roundhouselaw13.DagRuns", spec := "dagRuns", unfollowed := true, recurses := true, apart := false }
def DagRunsSaid : Prop := dagRunsRow.holds Try.pinned (OpenSpec.ofChange dagRunsSpec)

/-- ITS FALSE NEIGHBOUR: 'it returns false'. Refute it at one input. -/
def dagRunsWrong : ChangeSpec := { name := "dagRuns", fn := fun _ => fun
  | [d1, d2] => { results := [.lit (.bool false)], args := [d1, d2] }
  | _ => none }
def DagRunsWrongFalsely : Prop := dagRunsRow.holds Try.pinned (OpenSpec.ofChange dagRunsWrong)

/-- 'roundhouselaw13.DagReady': WHATEVER THE INPUT: true; the input reads as it did. -/
def dagReadySpec : ChangeSpec := { name := "dagReady", fn := fun _ => fun
  | [d] => { results := [.lit (.bool true)], args := [d] }
  | _ => none }
def dagReadyRow : OpenClaim := { program := "ytkfkdenikkadhaa", sum := "c36948452652e284e9725fc1cdbade6179b451e805e5efa72d642ea5c6b78848", func := "roundhouse/roundhouselaw13.DagReady", spec := "dagReady", unfollowed := true, recurses := true, apart := false }
def DagReadySaid : Prop := dagReadyRow.holds Try.pinned (OpenSpec.ofChange dagReadySpec)

/-- ITS FALSE NEIGHBOUR: 'it returns false'. Refute it at one input. -/
def dagReadyWrong : ChangeSpec := { name := "dagReady", fn := fun _ => fun
  | [d] => { results := [.lit (.bool false)], args := [d] }
  | _ => none }
def DagReadyWrongFalsely : Prop := dagReadyRow.holds Try.pinned (OpenSpec.ofChange dagReadyWrong)

/-- 'roundhouselaw13.DagSettles': WHATEVER THE INPUT: true; the input reads as it did. -/
def dagSettlesSpec : ChangeSpec := { name := "dagSettles", fn := fun _ => fun
  | [d1, d2] => { results := [.lit (.bool true)], args := [d1, d2] }
  | _ => none }
def dagSettlesRow : OpenClaim := { program := "ytkfkdenikkadhaa", sum := "c36948452652e284e9725fc1cdbade6179b451e805e5efa72d642ea5c6b78848", func := "roundhouse/roundhouselaw13.DagSettles", spec := "dagSettles", unfollowed := true, recurses := true, apart := false }
def DagSettlesSaid : Prop := dagSettlesRow.holds Try.pinned (OpenSpec.ofChange dagSettlesSpec)

/-- ITS FALSE NEIGHBOUR: 'it returns false'. Refute it at one input. -/
def dagSettlesWrong : ChangeSpec := { name := "dagSettles", fn := fun _ => fun
  | [d1, d2] => { results := [.lit (.bool false)], args := [d1, d2] }
  | _ => none }
def DagSettlesWrongFalsely : Prop := dagSettlesRow.holds Try.pinned (OpenSpec.ofChange dagSettlesWrong)

/- THE SECOND FORM. 'bulk': how many values and letters a reading holds, each counted each time it is reached (what is shared counts as often as it is met; a slice's spare places count too). A statement '..UptoSaid' is the law's where the arguments, and the package variables that the reading takes, are together of bulk at most 1048576: NARROWER than '..Said'. Prove '..Said' where nothing that the law and all that it calls make is longer than what came in: it says more and counts as full. Else prove '..UptoSaid'. A law counts once. -/
mutual
def uptoBulk {H : Type} : DataW H → Nat
  | .lit (.string bytes) => bytes.length + 1
  | .lit _ => 1
  | .nil => 1
  | .ptr d => uptoBulk d + 1
  | .slice elems spare => uptoBulkAll elems + uptoBulkAll spare + 1
  | .agg parts => uptoBulkAll parts + 1
  | .iface _ d => uptoBulk d + 1
  | .map entries => uptoBulkEntries entries + 1
  | .held _ => 1
def uptoBulkAll {H : Type} : List (DataW H) → Nat
  | [] => 0
  | d :: r => uptoBulk d + uptoBulkAll r
def uptoBulkEntries {H : Type} : List (Lit × DataW H) → Nat
  | [] => 0
  | x :: r => uptoBulkEntry x + uptoBulkEntries r
def uptoBulkEntry {H : Type} : Lit × DataW H → Nat
  | (.string bytes, d) => bytes.length + uptoBulk d + 1
  | (_, d) => uptoBulk d + 1
 end
def uptoSmall : (H : Type) → List (DataW H) → Bool := fun _ ds => decide (uptoBulkAll ds ≤ 1048576)
def OpenSpec.upto (s : _root_.Go.ChangeSpec) : _root_.Go.OpenSpec := { _root_.Go.OpenSpec.ofChange s with cond := some uptoSmall }

/-- 'roundhouselaw13.DagTells', WHERE WHAT IT READS IS OF BULK AT MOST 1048576: true; the input reads as it did. -/
def dagTellsUptoRow : OpenClaim := { program := "ytkfkdenikkadhaa", sum := "c36948452652e284e9725fc1cdbade6179b451e805e5efa72d642ea5c6b78848", func := "roundhouse/roundhouselaw13.DagTells", spec := "dagTells", unfollowed := true, recurses := true, apart := false, narrowed := true }
def DagTellsUptoSaid : Prop := dagTellsUptoRow.holds Try.pinned (OpenSpec.upto dagTellsSpec)

/-- 'roundhouselaw13.DagCodes', WHERE WHAT IT READS IS OF BULK AT MOST 1048576: true; the input reads as it did. -/
def dagCodesUptoRow : OpenClaim := { program := "ytkfkdenikkadhaa", sum := "c36948452652e284e9725fc1cdbade6179b451e805e5efa72d642ea5c6b78848", func := "roundhouse/roundhouselaw13.DagCodes", spec := "dagCodes", unfollowed := true, recurses := true, apart := false, narrowed := true }
def DagCodesUptoSaid : Prop := dagCodesUptoRow.holds Try.pinned (OpenSpec.upto dagCodesSpec)

/-- 'roundhouselaw13.DagOrder', WHERE WHAT IT READS IS OF BULK AT MOST 1048576: true; the input reads as it did. -/
def dagOrderUptoRow : OpenClaim := { program := "ytkfkdenikkadhaa", sum := "c36948452652e284e9725fc1cdbade6179b451e805e5efa72d642ea5c6b78848", func := "roundhouse/roundhouselaw13.DagOrder", spec := "dagOrder", unfollowed := true, recurses := true, apart := false, narrowed := true }
def DagOrderUptoSaid : Prop := dagOrderUptoRow.holds Try.pinned (OpenSpec.upto dagOrderSpec)

/-- 'roundhouselaw13.DagRuns', WHERE WHAT IT READS IS OF BULK AT MOST 1048576: true; the input reads as it did. -/
def dagRunsUptoRow : OpenClaim := { program := "ytkfkdenikkadhaa", sum := "c36948452652e284e9725fc1cdbade6179b451e805e5efa72d642ea5c6b78848", func := "roundhouse/roundhouselaw13.DagRuns", spec := "dagRuns", unfollowed := true, recurses := true, apart := false, narrowed := true }
def DagRunsUptoSaid : Prop := dagRunsUptoRow.holds Try.pinned (OpenSpec.upto dagRunsSpec)

/-- 'roundhouselaw13.DagReady', WHERE WHAT IT READS IS OF BULK AT MOST 1048576: true; the input reads as it did. -/
def dagReadyUptoRow : OpenClaim := { program := "ytkfkdenikkadhaa", sum := "c36948452652e284e9725fc1cdbade6179b451e805e5efa72d642ea5c6b78848", func := "roundhouse/roundhouselaw13.DagReady", spec := "dagReady", unfollowed := true, recurses := true, apart := false, narrowed := true }
def DagReadyUptoSaid : Prop := dagReadyUptoRow.holds Try.pinned (OpenSpec.upto dagReadySpec)

/-- 'roundhouselaw13.DagSettles', WHERE WHAT IT READS IS OF BULK AT MOST 1048576: true; the input reads as it did. -/
def dagSettlesUptoRow : OpenClaim := { program := "ytkfkdenikkadhaa", sum := "c36948452652e284e9725fc1cdbade6179b451e805e5efa72d642ea5c6b78848", func := "roundhouse/roundhouselaw13.DagSettles", spec := "dagSettles", unfollowed := true, recurses := true, apart := false, narrowed := true }
def DagSettlesUptoSaid : Prop := dagSettlesUptoRow.holds Try.pinned (OpenSpec.upto dagSettlesSpec)

end Rows
end Go.Proofs.Ytkfkdenikkadhaa
