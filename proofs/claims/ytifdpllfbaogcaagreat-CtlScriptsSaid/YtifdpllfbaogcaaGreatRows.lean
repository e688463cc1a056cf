/-
  No cell of these rows narrows 'for every input' (looked for: loops, veiled, ifaces, maps, wideKeys, modest, calm, conditions, laid).
  DERIVED. THE GIVEN ROWS OF THIS SEAT. 7 by the template 'for every input the law returns true; each argument reads behind the call as it read before'; 0 by the template 'total and deterministic' (their statements: YtifdpllfbaogcaaGreatTotals.lean).
  GIVEN WITH THE SEED: the statements are not yours to turn. If you find one false, say at which input.
  Laid BY PROGRAM, IN A SANDBOX (cutbox-rows.mjs): the forced cells as the released guide's own fill.sh prints them over the translation 8f3e7d1d99a7994e… (all of the seat's roots in one cut). By AI agents, Wed Nov 11 2026. No macro, syntax, notation, axiom, sorry.
-/
import Derived.Test.YtifdpllfbaogcaaGreatChecked
import GoSem.Claim
import GoSem.ClaimJoined
import GoSem.ClaimMapViews
import Derived.JoinedTies
import Derived.KernelRfl
namespace Go.Proofs.YtifdpllfbaogcaaGreat
/- THE CELL 'sum', in the pinned program and in every row, IS THE sha256 OF THE DUMP (.gsa) THAT YtifdpllfbaogcaaGreatProg.lean LOADS. Nothing in Lean hashes anything: it is a label: what it is worth is what the hold of that sum in a sandbox is worth. -/
noncomputable def Tryz.pinned : Pinned := { name := "ytifdpllfbaogcaagreat", sum := "8f3e7d1d99a7994e1e23d55ee8840b33664c2a93f04ab5ee76dee7641caf8ec0", checked := Tryz.checked }
namespace Rows
def none {H : Type} : Left H := { results := [], args := [] }

/-- 'roundhouselaw18.CtlNever': WHATEVER THE INPUT: true; the input reads as it did. -/
def ctlNeverSpec : ChangeSpec := { name := "ctlNever", fn := fun _ => fun
  | [d] => { results := [.lit (.bool true)], args := [d] }
  | _ => none }
def ctlNeverRow : OpenClaim := { program := "ytifdpllfbaogcaagreat", sum := "8f3e7d1d99a7994e1e23d55ee8840b33664c2a93f04ab5ee76dee7641caf8ec0", func := "roundhouse/roundhouselaw18.CtlNever", spec := "ctlNever", inPlace := ["internal/abi.NoEscape"], unfollowed := true, recurses := true, apart := false }
def CtlNeverSaid : Prop := ctlNeverRow.holds Tryz.pinned (OpenSpec.ofChange ctlNeverSpec)

/-- ITS FALSE NEIGHBOUR: 'it returns false'. Refute it at one input. -/
def ctlNeverWrong : ChangeSpec := { name := "ctlNever", fn := fun _ => fun
  | [d] => { results := [.lit (.bool false)], args := [d] }
  | _ => none }
def CtlNeverWrongFalsely : Prop := ctlNeverRow.holds Tryz.pinned (OpenSpec.ofChange ctlNeverWrong)

/-- 'roundhouselaw18.CtlSilent': WHATEVER THE INPUT: true; the input reads as it did. -/
def ctlSilentSpec : ChangeSpec := { name := "ctlSilent", fn := fun _ => fun
  | [d1, d2, d3] => { results := [.lit (.bool true)], args := [d1, d2, d3] }
  | _ => none }
def ctlSilentRow : OpenClaim := { program := "ytifdpllfbaogcaagreat", sum := "8f3e7d1d99a7994e1e23d55ee8840b33664c2a93f04ab5ee76dee7641caf8ec0", func := "roundhouse/roundhouselaw18.CtlSilent", spec := "ctlSilent", inPlace := ["internal/abi.NoEscape"], unfollowed := true, recurses := true, apart := false }
def CtlSilentSaid : Prop := ctlSilentRow.holds Tryz.pinned (OpenSpec.ofChange ctlSilentSpec)

/-- ITS FALSE NEIGHBOUR: 'it returns false'. Refute it at one input. -/
def ctlSilentWrong : ChangeSpec := { name := "ctlSilent", fn := fun _ => fun
  | [d1, d2, d3] => { results := [.lit (.bool false)], args := [d1, d2, d3] }
  | _ => none }
def CtlSilentWrongFalsely : Prop := ctlSilentRow.holds Tryz.pinned (OpenSpec.ofChange ctlSilentWrong)

/-- 'roundhouselaw18.CtlCodes': WHATEVER THE INPUT: true; the input reads as it did. -/
def ctlCodesSpec : ChangeSpec := { name := "ctlCodes", fn := fun _ => fun
  | [d] => { results := [.lit (.bool true)], args := [d] }
  | _ => none }
def ctlCodesRow : OpenClaim := { program := "ytifdpllfbaogcaagreat", sum := "8f3e7d1d99a7994e1e23d55ee8840b33664c2a93f04ab5ee76dee7641caf8ec0", func := "roundhouse/roundhouselaw18.CtlCodes", spec := "ctlCodes", inPlace := ["internal/abi.NoEscape"], unfollowed := true, recurses := true, apart := false }
def CtlCodesSaid : Prop := ctlCodesRow.holds Tryz.pinned (OpenSpec.ofChange ctlCodesSpec)

/-- ITS FALSE NEIGHBOUR: 'it returns false'. Refute it at one input. -/
def ctlCodesWrong : ChangeSpec := { name := "ctlCodes", fn := fun _ => fun
  | [d] => { results := [.lit (.bool false)], args := [d] }
  | _ => none }
def CtlCodesWrongFalsely : Prop := ctlCodesRow.holds Tryz.pinned (OpenSpec.ofChange ctlCodesWrong)

/-- 'roundhouselaw18.CtlScripts': WHATEVER THE INPUT: true; the input reads as it did. -/
def ctlScriptsSpec : ChangeSpec := { name := "ctlScripts", fn := fun _ => fun
  | [d1, d2] => { results := [.lit (.bool true)], args := [d1, d2] }
  | _ => none }
def ctlScriptsRow : OpenClaim := { program := "ytifdpllfbaogcaagreat", sum := "8f3e7d1d99a7994e1e23d55ee8840b33664c2a93f04ab5ee76dee7641caf8ec0", func := "roundhouse/roundhouselaw18.CtlScripts", spec := "ctlScripts", inPlace := ["internal/abi.NoEscape"], unfollowed := true, recurses := true, apart := false }
def CtlScriptsSaid : Prop := ctlScriptsRow.holds Tryz.pinned (OpenSpec.ofChange ctlScriptsSpec)

/-- ITS FALSE NEIGHBOUR: 'it returns false'. Refute it at one input. -/
def ctlScriptsWrong : ChangeSpec := { name := "ctlScripts", fn := fun _ => fun
  | [d1, d2] => { results := [.lit (.bool false)], args := [d1, d2] }
  | _ => none }
def CtlScriptsWrongFalsely : Prop := ctlScriptsRow.holds Tryz.pinned (OpenSpec.ofChange ctlScriptsWrong)

/-- 'roundhouselaw18.CtlGangs': WHATEVER THE INPUT: true; the input reads as it did. -/
def ctlGangsSpec : ChangeSpec := { name := "ctlGangs", fn := fun _ => fun
  | [d1, d2] => { results := [.lit (.bool true)], args := [d1, d2] }
  | _ => none }
def ctlGangsRow : OpenClaim := { program := "ytifdpllfbaogcaagreat", sum := "8f3e7d1d99a7994e1e23d55ee8840b33664c2a93f04ab5ee76dee7641caf8ec0", func := "roundhouse/roundhouselaw18.CtlGangs", spec := "ctlGangs", inPlace := ["internal/abi.NoEscape"], unfollowed := true, recurses := true, apart := false }
def CtlGangsSaid : Prop := ctlGangsRow.holds Tryz.pinned (OpenSpec.ofChange ctlGangsSpec)

/-- ITS FALSE NEIGHBOUR: 'it returns false'. Refute it at one input. -/
def ctlGangsWrong : ChangeSpec := { name := "ctlGangs", fn := fun _ => fun
  | [d1, d2] => { results := [.lit (.bool false)], args := [d1, d2] }
  | _ => none }
def CtlGangsWrongFalsely : Prop := ctlGangsRow.holds Tryz.pinned (OpenSpec.ofChange ctlGangsWrong)

/-- 'roundhouselaw18.CtlNil': WHATEVER THE INPUT: true; the input reads as it did. -/
def ctlNilSpec : ChangeSpec := { name := "ctlNil", fn := fun _ => fun
  | [d] => { results := [.lit (.bool true)], args := [d] }
  | _ => none }
def ctlNilRow : OpenClaim := { program := "ytifdpllfbaogcaagreat", sum := "8f3e7d1d99a7994e1e23d55ee8840b33664c2a93f04ab5ee76dee7641caf8ec0", func := "roundhouse/roundhouselaw18.CtlNil", spec := "ctlNil", inPlace := ["internal/abi.NoEscape"], unfollowed := true, recurses := true, apart := false }
def CtlNilSaid : Prop := ctlNilRow.holds Tryz.pinned (OpenSpec.ofChange ctlNilSpec)

/-- ITS FALSE NEIGHBOUR: 'it returns false'. Refute it at one input. -/
def ctlNilWrong : ChangeSpec := { name := "ctlNil", fn := fun _ => fun
  | [d] => { results := [.lit (.bool false)], args := [d] }
  | _ => none }
def CtlNilWrongFalsely : Prop := ctlNilRow.holds Tryz.pinned (OpenSpec.ofChange ctlNilWrong)

/-- 'roundhouselaw18.CtlOver': WHATEVER THE INPUT: true; the input reads as it did. -/
def ctlOverSpec : ChangeSpec := { name := "ctlOver", fn := fun _ => fun
  | [d] => { results := [.lit (.bool true)], args := [d] }
  | _ => none }
def ctlOverRow : OpenClaim := { program := "ytifdpllfbaogcaagreat", sum := "8f3e7d1d99a7994e1e23d55ee8840b33664c2a93f04ab5ee76dee7641caf8ec0", func := "roundhouse/roundhouselaw18.CtlOver", spec := "ctlOver", inPlace := ["internal/abi.NoEscape"], unfollowed := true, recurses := true, apart := false }
def CtlOverSaid : Prop := ctlOverRow.holds Tryz.pinned (OpenSpec.ofChange ctlOverSpec)

/-- ITS FALSE NEIGHBOUR: 'it returns false'. Refute it at one input. -/
def ctlOverWrong : ChangeSpec := { name := "ctlOver", fn := fun _ => fun
  | [d] => { results := [.lit (.bool false)], args := [d] }
  | _ => none }
def CtlOverWrongFalsely : Prop := ctlOverRow.holds Tryz.pinned (OpenSpec.ofChange ctlOverWrong)

/- THE SECOND FORM. 'bulk': how many values and letters a reading holds, each counted each time it is reached (what is shared counts as often as it is met; a slice's spare places count too). A statement '..UptoSaid' is the law's where the arguments, and the package variables that the reading takes, are together of bulk at most 1048576: NARROWER than '..Said'. Prove '..Said' where nothing that the law and all that it calls make is longer than what came in: it says more and counts as full. Else prove '..UptoSaid'. A law counts once. -/
mutual
def uptoBulk {H : Type} : DataW H → Nat
  | .lit (.string bytes) => bytes.length + 1
  | .lit _ => 1
  | .nil => 1
  | .ptr d => uptoBulk d + 1
  | .slice elems spare => uptoBulkAll elems + uptoBulkAll spare + 1
  | .agg parts => uptoBulkAll parts + 1
  | .iface _ d => uptoBulk d + 1
  | .map entries => uptoBulkEntries entries + 1
  | .held _ => 1
def uptoBulkAll {H : Type} : List (DataW H) → Nat
  | [] => 0
  | d :: r => uptoBulk d + uptoBulkAll r
def uptoBulkEntries {H : Type} : List (Lit × DataW H) → Nat
  | [] => 0
  | x :: r => uptoBulkEntry x + uptoBulkEntries r
def uptoBulkEntry {H : Type} : Lit × DataW H → Nat
  | (.string bytes, d) => bytes.length + uptoBulk d + 1
  | (_, d) => uptoBulk d + 1
 end
def uptoSmall : (H : Type) → List (DataW H) → Bool := fun _ ds => decide (uptoBulkAll ds ≤ 1048576)
def OpenSpec.upto (s : _root_.Go.ChangeSpec) : _root_.Go.OpenSpec := { _root_.Go.OpenSpec.ofChange s with cond := some uptoSmall }

/-- 'roundhouselaw18.CtlNever', WHERE WHAT IT READS IS OF BULK AT MOST 1048576: true; the input reads as it did. -/
def ctlNeverUptoRow : OpenClaim := { program := "ytifdpllfbaogcaagreat", sum := "8f3e7d1d99a7994e1e23d55ee8840b33664c2a93f04ab5ee76dee7641caf8ec0", func := "roundhouse/roundhouselaw18.CtlNever", spec := "ctlNever", inPlace := ["internal/abi.NoEscape"], unfollowed := true, recurses := true, apart := false, narrowed := true }
def CtlNeverUptoSaid : Prop := ctlNeverUptoRow.holds Tryz.pinned (OpenSpec.upto ctlNeverSpec)

/-- 'roundhouselaw18.CtlSilent', WHERE WHAT IT READS IS OF BULK AT MOST 1048576: true; the input reads as it did. -/
def ctlSilentUptoRow : OpenClaim := { program := "ytifdpllfbaogcaagreat", sum := "8f3e7d1d99a7994e1e23d55ee8840b33664c2a93f04ab5ee76dee7641caf8ec0", func := "roundhouse/roundhouselaw18.CtlSilent", spec := "ctlSilent", inPlace := ["internal/abi.NoEscape"], unfollowed := true, recurses := true, apart := false, narrowed := true }
def CtlSilentUptoSaid : Prop := ctlSilentUptoRow.holds Tryz.pinned (OpenSpec.upto ctlSilentSpec)

/-- 'roundhouselaw18.CtlCodes', WHERE WHAT IT READS IS OF BULK AT MOST 1048576: true; the input reads as it did. -/
def ctlCodesUptoRow : OpenClaim := { program := "ytifdpllfbaogcaagreat", sum := "8f3e7d1d99a7994e1e23d55ee8840b33664c2a93f04ab5ee76dee7641caf8ec0", func := "roundhouse/roundhouselaw18.CtlCodes", spec := "ctlCodes", inPlace := ["internal/abi.NoEscape"], unfollowed := true, recurses := true, apart := false, narrowed := true }
def CtlCodesUptoSaid : Prop := ctlCodesUptoRow.holds Tryz.pinned (OpenSpec.upto ctlCodesSpec)

/-- 'roundhouselaw18.CtlScripts', WHERE WHAT IT READS IS OF BULK AT MOST 1048576: true; the input reads as it did. -/
def ctlScriptsUptoRow : OpenClaim := { program := "ytifdpllfbaogcaagreat", sum := "8f3e7d1d99a7994e1e23d55ee8840b33664c2a93f04ab5ee76dee7641caf8ec0", func := "roundhouse/roundhouselaw18.CtlScripts", spec := "ctlScripts", inPlace := ["internal/abi.NoEscape"], unfollowed := true, recurses := true, apart := false, narrowed := true }
def CtlScriptsUptoSaid : Prop := ctlScriptsUptoRow.holds Tryz.pinned (OpenSpec.upto ctlScriptsSpec)

/-- 'roundhouselaw18.CtlGangs', WHERE WHAT IT READS IS OF BULK AT MOST 1048576: true; the input reads as it did. -/
def ctlGangsUptoRow : OpenClaim := { program := "ytifdpllfbaogcaagreat", sum := "8f3e7d1d99a7994e1e23d55ee8840b33664c2a93f04ab5ee76dee7641caf8ec0", func := "roundhouse/roundhouselaw18.CtlGangs", spec := "ctlGangs", inPlace := ["internal/abi.NoEscape"], unfollowed := true, recurses := true, apart := false, narrowed := true }
def CtlGangsUptoSaid : Prop := ctlGangsUptoRow.holds Tryz.pinned (OpenSpec.upto ctlGangsSpec)

/-- 'roundhouselaw18.CtlNil', WHERE WHAT IT READS IS OF BULK AT MOST 1048576: true; the input reads as it did. -/
def ctlNilUptoRow : OpenClaim := { program := "ytifdpllfbaogcaagreat", sum := "8f3e7d1d99a7994e1e23d55ee8840b33664c2a93f04ab5ee76dee7641caf8ec0", func := "roundhouse/roundhouselaw18.CtlNil", spec := "ctlNil", inPlace := ["internal/abi.NoEscape"], unfollowed := true, recurses := true, apart := false, narrowed := true }
def CtlNilUptoSaid : Prop := ctlNilUptoRow.holds Tryz.pinned (OpenSpec.upto ctlNilSpec)

/-- 'roundhouselaw18.CtlOver', WHERE WHAT IT READS IS OF BULK AT MOST 1048576: true; the input reads as it did. -/
def ctlOverUptoRow : OpenClaim := { program := "ytifdpllfbaogcaagreat", sum := "8f3e7d1d99a7994e1e23d55ee8840b33664c2a93f04ab5ee76dee7641caf8ec0", func := "roundhouse/roundhouselaw18.CtlOver", spec := "ctlOver", inPlace := ["internal/abi.NoEscape"], unfollowed := true, recurses := true, apart := false, narrowed := true }
def CtlOverUptoSaid : Prop := ctlOverUptoRow.holds Tryz.pinned (OpenSpec.upto ctlOverSpec)

end Rows
end Go.Proofs.YtifdpllfbaogcaaGreat
