/-
  No cell of these rows narrows 'for every input' (looked for: loops, veiled, ifaces, maps, wideKeys, modest, calm, conditions, laid).
  DERIVED. THE GIVEN ROWS OF THIS SEAT. 6 by the template 'for every input the law returns true; each argument reads behind the call as it read before'; 0 by the template 'total and deterministic' (their statements: YtanlminnobonnaaTotals.lean).
  GIVEN WITH THE SEED: the statements are not yours to turn. If you find one false, say at which input.
  Laid BY PROGRAM, IN A SANDBOX (cutbox-rows.mjs): the forced cells as the released guide's own fill.sh prints them over the translation e249cf1d4a01843c… (all of the seat's roots in one cut). By AI agents, Wed Nov 11 2026. No macro, syntax, notation, axiom, sorry.
-/
import Derived.Test.YtanlminnobonnaaChecked
import GoSem.Claim
import GoSem.ClaimJoined
import GoSem.ClaimMapViews
import Derived.JoinedTies
import Derived.KernelRfl
namespace Go.Proofs.Ytanlminnobonnaa
/- THE CELL 'sum', in the pinned program and in every row, IS THE sha256 OF THE DUMP (.gsa) THAT YtanlminnobonnaaProg.lean LOADS. Nothing in Lean hashes anything: it is a label: what it is worth is what the hold of that sum in a sandbox is worth. -/
noncomputable def Try.pinned : Pinned := { name := "ytanlminnobonnaa", sum := "e249cf1d4a01843cf09adff98e5c99c08c8251ea10b81f910925eed3cac64dda", checked := Try.checked }
namespace Rows
def none {H : Type} : Left H := { results := [], args := [] }

/-- 'roundhouselaw16.NodeDecides': WHATEVER THE INPUT: true; the input reads as it did. -/
def nodeDecidesSpec : ChangeSpec := { name := "nodeDecides", fn := fun _ => fun
  | [d] => { results := [.lit (.bool true)], args := [d] }
  | _ => none }
def nodeDecidesRow : OpenClaim := { program := "ytanlminnobonnaa", sum := "e249cf1d4a01843cf09adff98e5c99c08c8251ea10b81f910925eed3cac64dda", func := "roundhouse/roundhouselaw16.NodeDecides", spec := "nodeDecides", unfollowed := true, recurses := true, apart := false }
def NodeDecidesSaid : Prop := nodeDecidesRow.holds Try.pinned (OpenSpec.ofChange nodeDecidesSpec)

/-- ITS FALSE NEIGHBOUR: 'it returns false'. Refute it at one input. -/
def nodeDecidesWrong : ChangeSpec := { name := "nodeDecides", fn := fun _ => fun
  | [d] => { results := [.lit (.bool false)], args := [d] }
  | _ => none }
def NodeDecidesWrongFalsely : Prop := nodeDecidesRow.holds Try.pinned (OpenSpec.ofChange nodeDecidesWrong)

/-- 'roundhouselaw16.NodeExits': WHATEVER THE INPUT: true; the input reads as it did. -/
def nodeExitsSpec : ChangeSpec := { name := "nodeExits", fn := fun _ => fun
  | [d1, d2] => { results := [.lit (.bool true)], args := [d1, d2] }
  | _ => none }
def nodeExitsRow : OpenClaim := { program := "ytanlminnobonnaa", sum := "e249cf1d4a01843cf09adff98e5c99c08c8251ea10b81f910925eed3cac64dda", func := "roundhouse/roundhouselaw16.NodeExits", spec := "nodeExits", unfollowed := true, recurses := true, apart := false }
def NodeExitsSaid : Prop := nodeExitsRow.holds Try.pinned (OpenSpec.ofChange nodeExitsSpec)

/-- ITS FALSE NEIGHBOUR: 'it returns false'. Refute it at one input. -/
def nodeExitsWrong : ChangeSpec := { name := "nodeExits", fn := fun _ => fun
  | [d1, d2] => { results := [.lit (.bool false)], args := [d1, d2] }
  | _ => none }
def NodeExitsWrongFalsely : Prop := nodeExitsRow.holds Try.pinned (OpenSpec.ofChange nodeExitsWrong)

/-- 'roundhouselaw16.NodeLegal': WHATEVER THE INPUT: true; the input reads as it did. -/
def nodeLegalSpec : ChangeSpec := { name := "nodeLegal", fn := fun _ => fun
  | [d1, d2] => { results := [.lit (.bool true)], args := [d1, d2] }
  | _ => none }
def nodeLegalRow : OpenClaim := { program := "ytanlminnobonnaa", sum := "e249cf1d4a01843cf09adff98e5c99c08c8251ea10b81f910925eed3cac64dda", func := "roundhouse/roundhouselaw16.NodeLegal", spec := "nodeLegal", unfollowed := true, recurses := true, apart := false }
def NodeLegalSaid : Prop := nodeLegalRow.holds Try.pinned (OpenSpec.ofChange nodeLegalSpec)

/-- ITS FALSE NEIGHBOUR: 'it returns false'. Refute it at one input. -/
def nodeLegalWrong : ChangeSpec := { name := "nodeLegal", fn := fun _ => fun
  | [d1, d2] => { results := [.lit (.bool false)], args := [d1, d2] }
  | _ => none }
def NodeLegalWrongFalsely : Prop := nodeLegalRow.holds Try.pinned (OpenSpec.ofChange nodeLegalWrong)

/-- 'roundhouselaw16.NodeTwice': WHATEVER THE INPUT: true; the input reads as it did. -/
def nodeTwiceSpec : ChangeSpec := { name := "nodeTwice", fn := fun _ => fun
  | [d1, d2] => { results := [.lit (.bool true)], args := [d1, d2] }
  | _ => none }
def nodeTwiceRow : OpenClaim := { program := "ytanlminnobonnaa", sum := "e249cf1d4a01843cf09adff98e5c99c08c8251ea10b81f910925eed3cac64dda", func := "roundhouse/roundhouselaw16.NodeTwice", spec := "nodeTwice", unfollowed := true, recurses := true, apart := false }
def NodeTwiceSaid : Prop := nodeTwiceRow.holds Try.pinned (OpenSpec.ofChange nodeTwiceSpec)

/-- ITS FALSE NEIGHBOUR: 'it returns false'. Refute it at one input. -/
def nodeTwiceWrong : ChangeSpec := { name := "nodeTwice", fn := fun _ => fun
  | [d1, d2] => { results := [.lit (.bool false)], args := [d1, d2] }
  | _ => none }
def NodeTwiceWrongFalsely : Prop := nodeTwiceRow.holds Try.pinned (OpenSpec.ofChange nodeTwiceWrong)

/-- 'roundhouselaw16.NodeQuiet': WHATEVER THE INPUT: true; the input reads as it did. -/
def nodeQuietSpec : ChangeSpec := { name := "nodeQuiet", fn := fun _ => fun
  | [d] => { results := [.lit (.bool true)], args := [d] }
  | _ => none }
def nodeQuietRow : OpenClaim := { program := "ytanlminnobonnaa", sum := "e249cf1d4a01843cf09adff98e5c99c08c8251ea10b81f910925eed3cac64dda", func := "roundhouse/roundhouselaw16.NodeQuiet", spec := "nodeQuiet", unfollowed := true, recurses := true, apart := false }
def NodeQuietSaid : Prop := nodeQuietRow.holds Try.pinned (OpenSpec.ofChange nodeQuietSpec)

/-- ITS FALSE NEIGHBOUR: 'it returns false'. Refute it at one input. -/
def nodeQuietWrong : ChangeSpec := { name := "nodeQuiet", fn := fun _ => fun
  | [d] => { results := [.lit (.bool false)], args := [d] }
  | _ => none }
def NodeQuietWrongFalsely : Prop := nodeQuietRow.holds Try.pinned (OpenSpec.ofChange nodeQuietWrong)

/-- 'roundhouselaw16.NodeAsks': WHATEVER THE INPUT: true; the input reads as it did. -/
def nodeAsksSpec : ChangeSpec := { name := "nodeAsks", fn := fun _ => fun
  | [d] => { results := [.lit (.bool true)], args := [d] }
  | _ => none }
def nodeAsksRow : OpenClaim := { program := "ytanlminnobonnaa", sum := "e249cf1d4a01843cf09adff98e5c99c08c8251ea10b81f910925eed3cac64dda", func := "roundhouse/roundhouselaw16.NodeAsks", spec := "nodeAsks", unfollowed := true, recurses := true, apart := false }
def NodeAsksSaid : Prop := nodeAsksRow.holds Try.pinned (OpenSpec.ofChange nodeAsksSpec)

/-- ITS FALSE NEIGHBOUR: 'it returns false'. Refute it at one input. -/
def nodeAsksWrong : ChangeSpec := { name := "nodeAsks", fn := fun _ => fun
  | [d] => { results := [.lit (.bool false)], args := [d] }
  | _ => none }
def NodeAsksWrongFalsely : Prop := nodeAsksRow.holds Try.pinned (OpenSpec.ofChange nodeAsksWrong)

/- THE SECOND FORM. 'bulk': how many values and letters a reading holds, each counted each time it is reached (what is shared counts as often as it is met; a slice's spare places count too). A statement '..UptoSaid' is the law's where the arguments, and the package variables that the reading takes, are together of bulk at most 1048576: NARROWER than '..Said'. Prove '..Said' where nothing that the law and all that it calls make is longer than what came in: it says more and counts as full. Else prove '..UptoSaid'. A law counts once. -/
mutual
def uptoBulk {H : Type} : DataW H → Nat
  | .lit (.string bytes) => bytes.length + 1
  | .lit _ => 1
  | .nil => 1
  | .ptr d => uptoBulk d + 1
  | .slice elems spare => uptoBulkAll elems + uptoBulkAll spare + 1
  | .agg parts => uptoBulkAll parts + 1
  | .iface _ d => uptoBulk d + 1
  | .map entries => uptoBulkEntries entries + 1
  | .held _ => 1
def uptoBulkAll {H : Type} : List (DataW H) → Nat
  | [] => 0
  | d :: r => uptoBulk d + uptoBulkAll r
def uptoBulkEntries {H : Type} : List (Lit × DataW H) → Nat
  | [] => 0
  | x :: r => uptoBulkEntry x + uptoBulkEntries r
def uptoBulkEntry {H : Type} : Lit × DataW H → Nat
  | (.string bytes, d) => bytes.length + uptoBulk d + 1
  | (_, d) => uptoBulk d + 1
 end
def uptoSmall : (H : Type) → List (DataW H) → Bool := fun _ ds => decide (uptoBulkAll ds ≤ 1048576)
def OpenSpec.upto (s : _root_.Go.ChangeSpec) : _root_.Go.OpenSpec := { _root_.Go.OpenSpec.ofChange s with cond := some uptoSmall }

/-- 'roundhouselaw16.NodeDecides', WHERE WHAT IT READS IS OF BULK AT MOST 1048576: true; the input reads as it did. -/
def nodeDecidesUptoRow : OpenClaim := { program := "ytanlminnobonnaa", sum := "e249cf1d4a01843cf09adff98e5c99c08c8251ea10b81f910925eed3cac64dda", func := "roundhouse/roundhouselaw16.NodeDecides", spec := "nodeDecides", unfollowed := true, recurses := true, apart := false, narrowed := true }
def NodeDecidesUptoSaid : Prop := nodeDecidesUptoRow.holds Try.pinned (OpenSpec.upto nodeDecidesSpec)

/-- 'roundhouselaw16.NodeExits', WHERE WHAT IT READS IS OF BULK AT MOST 1048576: true; the input reads as it did. -/
def nodeExitsUptoRow : OpenClaim := { program := "ytanlminnobonnaa", sum := "e249cf1d4a01843cf09adff98e5c99c08c8251ea10b81f910925eed3cac64dda", func := "roundhouse/roundhouselaw16.NodeExits", spec := "nodeExits", unfollowed := true, recurses := true, apart := false, narrowed := true }
def NodeExitsUptoSaid : Prop := nodeExitsUptoRow.holds Try.pinned (OpenSpec.upto nodeExitsSpec)

/-- 'roundhouselaw16.NodeLegal', WHERE WHAT IT READS IS OF BULK AT MOST 1048576: true; the input reads as it did. -/
def nodeLegalUptoRow : OpenClaim := { program := "ytanlminnobonnaa", sum := "e249cf1d4a01843cf09adff98e5c99c08c8251ea10b81f910925eed3cac64dda", func := "roundhouse/roundhouselaw16.NodeLegal", spec := "nodeLegal", unfollowed := true, recurses := true, apart := false, narrowed := true }
def NodeLegalUptoSaid : Prop := nodeLegalUptoRow.holds Try.pinned (OpenSpec.upto nodeLegalSpec)

/-- 'roundhouselaw16.NodeTwice', WHERE WHAT IT READS IS OF BULK AT MOST 1048576: true; the input reads as it did. -/
def nodeTwiceUptoRow : OpenClaim := { program := "ytanlminnobonnaa", sum := "e249cf1d4a01843cf09adff98e5c99c08c8251ea10b81f910925eed3cac64dda", func := "roundhouse/roundhouselaw16.NodeTwice", spec := "nodeTwice", unfollowed := true, recurses := true, apart := false, narrowed := true }
def NodeTwiceUptoSaid : Prop := nodeTwiceUptoRow.holds Try.pinned (OpenSpec.upto nodeTwiceSpec)

/-- 'roundhouselaw16.NodeQuiet', WHERE WHAT IT READS IS OF BULK AT MOST 1048576: true; the input reads as it did. -/
def nodeQuietUptoRow : OpenClaim := { program := "ytanlminnobonnaa", sum := "e249cf1d4a01843cf09adff98e5c99c08c8251ea10b81f910925eed3cac64dda", func := "roundhouse/roundhouselaw16.NodeQuiet", spec := "nodeQuiet", unfollowed := true, recurses := true, apart := false, narrowed := true }
def NodeQuietUptoSaid : Prop := nodeQuietUptoRow.holds Try.pinned (OpenSpec.upto nodeQuietSpec)

/-- 'roundhouselaw16.NodeAsks', WHERE WHAT IT READS IS OF BULK AT MOST 1048576: true; the input reads as it did. -/
def nodeAsksUptoRow : OpenClaim := { program := "ytanlminnobonnaa", sum := "e249cf1d4a01843cf09adff98e5c99c08c8251ea10b81f910925eed3cac64dda", func := "roundhouse/roundhouselaw16.NodeAsks", spec := "nodeAsks", unfollowed := true, recurses := true, apart := false, narrowed := true }
def NodeAsksUptoSaid : Prop := nodeAsksUptoRow.holds Try.pinned (OpenSpec.upto nodeAsksSpec)

end Rows
end Go.Proofs.Ytanlminnobonnaa
